import Derived.Test.YtnjkjoklnephcaaGreatDoorF28
import Derived.Test.YtnjkjoklnephcaaGreatDoorF37
set_option linter.all false
set_option maxRecDepth 100000
set_option maxHeartbeats 0
section
variable{P Q:Prop}
theorem yC(h:P:=by rw[u.o,d];rfl):P:=h
theorem E7(h:P:=by go_wp2;go_returns;exact⟨Z4 E.o.symm,y.o⟩):P:=h
theorem E9(h:P:=by go_wp2;go_returns;exact⟨Z4 E.o.symm,a3.o⟩):P:=h
theorem Rh(h:P:=by unfold pJ at a1;simp only[Ca,Vbp] at a1;omega):P:=h
theorem PH(h:P:=by unfold ko text;rw[aD (by simp),aD (by simp)];rfl):P:=h
theorem EH(h:P:=by clear h0 g l;go_wp2;refine⟨⟨k+1,ab,by go_num,by rw[q.o],a1⟩,?_⟩;simp[intOf]<;>omega):P:=h
theorem Oy(h:P:=by go_wp2;refine⟨⟨k+1,y,ab,by go_num,rfl,J (λh=>by omega),g,J a3.o⟩,?_⟩;simp[intOf]<;>omega):P:=h
theorem Np(h:P:=by generalize bs c=y at*;go_in;go_wp21;refine aP l.o λw1 z=>?_;have a2:=J z;clear z;go_wp21;refine aP (u.o _) λw2 aa=>?_;have M:=a2.o.trans (aa.mono a2.o.size);have a1:=J (M.alloc M.size (.cells #[kk,y] 87));clear aa M;go_wp2;go_returns;rw[c7.o];exact Qe 12 a1.o):P:=h
theorem WP(h:P:=by
 go_wp21;refine(g4.o _).mono ?_;rintro x w2 ⟨b,rfl,h3,h8,aa⟩;have a3:=J (a2.o.trans (aa.mono a2.o.size));have f5:w<=b:=co a2.o.size h8;have i4:RV w2 b (bs T) 0:=(by rw[<-h0.o] at h3;exact h3);have b9:=J i4;clear aa h8 h3 i4 a2 g4;go_wp2;go_loopw [11,49] (λj2 g8 wr=>∃(k:Nat) (c5:a') (t:aT) (e:Nat),k<=n/\g8=k/\c5=k/\Hid (wr.ownsRow w 9 1 j2 k (eN c5))/\Hid (RV wr b t e)/\Hid (t.size<=1000000000)/\Hid (Es st T k c5 t e)/\Hid (∀s∈c5,s.size<=2000000000)/\Hid (Below w w wr)) (λ_ g8 _=>(n-intOf g8).toNat);case atStart=>exact⟨0,[],bs T,0,cf _,rfl,rfl,J Zl,b9,J (by rw[Z0];exact h9.o),J ⟨λ_=>by rw[Vbv];rfl,λh=>absurd rfl h⟩,J (λs h=>by cases h),a3⟩
 clear a3 b9;obtain⟨k,c5,t,e,Q,rfl,f6,j,B,e3,g1,d7,hb⟩:=hrel;obtain⟨A5,j9,i0,rfl⟩:=Z7 j.o;by_cases ab:k<n
 .have z:k<st:=(by rw[<-I.o];exact ab);obtain⟨f9,g3,rfl,c0,c1⟩:=Dk (Ha.o.below hb.o) k z;have g6:=g5.o st[k] (dt _);have b6:=J (λ(v d8:aT) (e':Nat) (u:B5 st[k] t e v d8 e')=>ZfA z u g1.o);obtain⟨⟨a,c⟩,F⟩:=ay st[k];rw[F] at c0 c1 g6 b6;simp only at c0 c1;have j4:a=0\/a=1\/a=2\/a=3:=by rcases XJ g6 with h|⟨h|h|h,_⟩<;>simp at h<;>omega
  have h7:=(bf wr wr).alloc aU (.cells #[a,c] 68);obtain⟨G,d2,q,g2⟩:=dc (B.o.below h7 (Bk.lt B.o)) (Z6 j.o (Fr.of_below (S:=nob) h7) (λ_ _ f=>f)) (hb.o.alloc hb.o.size (.cells #[a,c] 68)) g6;have k4:(0:Int)<=k:=(by omega);have k5:(k:Int)<n:=(by omega);have k2:=e3.o;clear g6 F z hb j B h7 g1 e3;rcases j4 with rfl|rfl|rfl|rfl
  .obtain⟨i5,i6⟩:=XI g2.o rfl;simp only at i5 i6;obtain⟨N,rfl⟩:∃N:Nat,c=(N:Int):=⟨c.toNat,by omega⟩;have a8:=J (λW=>Rz N (by omega) W);have u:=Zao (n:=N) (by omega) (by omega) t e;have a4:=J (λW b1 b3 h k1 k3=>ZcT N (by omega) (by omega) (w:=W) (b:=b) (b1:=b1) (b3:=b3) (s:=t) (e:=e) h (by omega) k1 k3);obtain⟨V,e5⟩:=ay ((bs (wg (aH (Zb t e ((N+7)/8:Nat)).1) (aH (Zb (Zb t e ((N+7)/8:Nat)).2.1 (Zb t e ((N+7)/8:Nat)).2.2 ((N+7)/8:Nat)).1) N)));obtain⟨f8,d4⟩:=ay ((Zb (Zb t e ((N+7)/8:Nat)).2.1 (Zb t e ((N+7)/8:Nat)).2.2 ((N+7)/8:Nat)));rw[e5,d4] at u a4;obtain⟨c4,d8,e'⟩:=f8;simp only at u a4;clear e5 d4 i5 i6 g2;have c8:=J (b6.o _ _ _ u);have e4:=u.2.2.2;have h6:=u.2.2.1;clear u b6;go_wp21;refine(a8.o _).mono ?_;rintro x w3 ⟨b1,b3,rfl,k1,k3,M⟩;have ff:=J k1;have j5:=J k3;clear k1 k3;obtain⟨a9,l,a1⟩:=bD (show RV w3 b t e from G.o.below M (Bk.lt G.o)) (Z6 d2.o (Fr.of_below (S:=nob) M) (λ_ _ f=>f)) (q.o.trans (M.mono q.o.size));clear M G d2 q a8;go_wp21;refine aP (a4.o _ b1 b3 a9.o ff.o j5.o) λb8 ⟨d1,d⟩=>?_;have c6:=Z1 l.o a9.o (by decide);have b5:=Z6 l.o d (λg R h=>c6 (by rw[R,show g=b from h]));have an:=Zs a1.o a1.o.size f5 d;obtain⟨v',b0,b4,d3,d5,d6⟩:=ZU (P:=prog) 23 9 _ _ underlying23 Qu rfl (w:=b8) b5 an an.size (.string V) rfl (by unfold maxLen;omega) (by omega);obtain⟨e9,b7,c3⟩:=bD (show RV b0 b d8 e' from d6 _ _ _ d1 (by decide)) b4 d3;rw[<-X3] at c3;have e8:=J d5;have f2:=J (show ∀s∈c5++[V],s.size<=2000000000 from λs F=>by rcases lc.1 F with h|h;exact d7.o s h;rw[jv.1 h];omega);clear d1 d c6 b5 an b4 d3 d5 d6 a9 l a1 a4 d7
   go_wp2_with (
    at_builtin;refine Z5 (by with_reducible rfl) rfl _ _ _ rfl _ _ (by rfl) (by rfl) b7.o ?_);refine⟨⟨k+1,c5++[V],d8,e',ab,by go_num,by rw[bV,f6];rfl,c3,e9,J (by omega),c8,f2,e8⟩,?_⟩;simp[intOf]<;>omega
  .have a8:=J (λW=>RA c W);have u:=RI (a:=1) (c:=c) (by omega) t e;have a4:=J (λW (h:RV W b t e)=>SK h (by omega));obtain⟨f8,d4⟩:=ay (ZB t e 4096);rw[d4] at u a4;obtain⟨V,d8,e'⟩:=f8;simp only at u a4;clear d4 g2;have c8:=J (b6.o _ _ _ u);have e4:=u.2.2.2;have h6:=u.2.2.1;clear u b6;go_wp21;refine aP (a8.o _) λw3 M=>?_;obtain⟨a9,l,a1⟩:=bD (show RV w3 b t e from G.o.below M (Bk.lt G.o)) (Z6 d2.o (Fr.of_below (S:=nob) M) (λ_ _ f=>f)) (q.o.trans (M.mono q.o.size));clear M G d2 q a8;go_wp21;refine aP (a4.o _ a9.o) λb8 ⟨d1,d⟩=>?_;have c6:=Z1 l.o a9.o (by decide);have b5:=Z6 l.o d (λg R h=>c6 (by rw[R,show g=b from h]));have an:=Zs a1.o a1.o.size f5 d;obtain⟨v',b0,b4,d3,d5,d6⟩:=ZU (P:=prog) 23 9 _ _ underlying23 Qu rfl (w:=b8) b5 an an.size (.string V) rfl (by unfold maxLen;omega) (by omega);obtain⟨e9,b7,c3⟩:=bD (show RV b0 b d8 e' from d6 _ _ _ d1 (by decide)) b4 d3;rw[<-X3] at c3;have e8:=J d5;have f2:=J (show ∀s∈c5++[V],s.size<=2000000000 from λs F=>by rcases lc.1 F with h|h;exact d7.o s h;rw[jv.1 h];omega);clear d1 d c6 b5 an b4 d3 d5 d6 a9 l a1 a4 d7
   go_wp2_with (
    at_builtin;refine Z5 (by with_reducible rfl) rfl _ _ _ rfl _ _ (by rfl) (by rfl) b7.o ?_);refine⟨⟨k+1,c5++[V],d8,e',ab,by go_num,by rw[bV,f6];rfl,c3,e9,J (by omega),c8,f2,e8⟩,?_⟩;simp[intOf]<;>omega
  .have a8:=J (λW=>RB c W);have u:=RI (a:=2) (c:=c) (by omega) t e;have a4:=J (λW (h:RV W b t e)=>SK h (by omega));obtain⟨f8,d4⟩:=ay (ZB t e 4096);rw[d4] at u a4;obtain⟨V,d8,e'⟩:=f8;simp only at u a4;clear d4 g2;have c8:=J (b6.o _ _ _ u);have e4:=u.2.2.2;have h6:=u.2.2.1;clear u b6;go_wp21;refine aP (a8.o _) λw3 M=>?_;obtain⟨a9,l,a1⟩:=bD (show RV w3 b t e from G.o.below M (Bk.lt G.o)) (Z6 d2.o (Fr.of_below (S:=nob) M) (λ_ _ f=>f)) (q.o.trans (M.mono q.o.size));clear M G d2 q a8;go_wp21;refine aP (a4.o _ a9.o) λb8 ⟨d1,d⟩=>?_;have c6:=Z1 l.o a9.o (by decide);have b5:=Z6 l.o d (λg R h=>c6 (by rw[R,show g=b from h]));have an:=Zs a1.o a1.o.size f5 d;obtain⟨v',b0,b4,d3,d5,d6⟩:=ZU (P:=prog) 23 9 _ _ underlying23 Qu rfl (w:=b8) b5 an an.size (.string V) rfl (by unfold maxLen;omega) (by omega);obtain⟨e9,b7,c3⟩:=bD (show RV b0 b d8 e' from d6 _ _ _ d1 (by decide)) b4 d3;rw[<-X3] at c3;have e8:=J d5;have f2:=J (show ∀s∈c5++[V],s.size<=2000000000 from λs F=>by rcases lc.1 F with h|h;exact d7.o s h;rw[jv.1 h];omega);clear d1 d c6 b5 an b4 d3 d5 d6 a9 l a1 a4 d7
   go_wp2_with (
    at_builtin;refine Z5 (by with_reducible rfl) rfl _ _ _ rfl _ _ (by rfl) (by rfl) b7.o ?_);refine⟨⟨k+1,c5++[V],d8,e',ab,by go_num,by rw[bV,f6];rfl,c3,e9,J (by omega),c8,f2,e8⟩,?_⟩;simp[intOf]<;>omega
  have a8:=J (λW=>RC c W);have u:=Z7c (c:=c) t e;have a4:=J (λW (h:RV W b t e)=>((ZcU b W).mono λx W' L=>(show x=.returned (.string ⟨#[]⟩)/\RV W' b t e/\Fr (only b) W W' from⟨L.1,L.2▸h,L.2▸Fr.refl _ _⟩)));obtain⟨V,e5⟩:=ay ((⟨#[]⟩:aT));rw[e5] at u a4;clear e5 g2;obtain⟨d8,i9⟩:=ay t;obtain⟨e',i7⟩:=ay e;have c8:=J (b6.o _ _ _ u);have e4:=u.2.2.2;have h6:=u.2.2.1;clear u b6;subst i9;subst i7;go_wp21;refine aP (a8.o _) λw3 M=>?_;obtain⟨a9,l,a1⟩:=bD (show RV w3 b t e from G.o.below M (Bk.lt G.o)) (Z6 d2.o (Fr.of_below (S:=nob) M) (λ_ _ f=>f)) (q.o.trans (M.mono q.o.size));clear M G d2 q a8;go_wp21;refine aP (a4.o _ a9.o) λb8 ⟨d1,d⟩=>?_;have c6:=Z1 l.o a9.o (by decide);have b5:=Z6 l.o d (λg R h=>c6 (by rw[R,show g=b from h]));have an:=Zs a1.o a1.o.size f5 d;obtain⟨v',b0,b4,d3,d5,d6⟩:=ZU (P:=prog) 23 9 _ _ underlying23 Qu rfl (w:=b8) b5 an an.size (.string V) rfl (by unfold maxLen;omega) (by omega);obtain⟨e9,b7,c3⟩:=bD (show RV b0 b t e from d6 _ _ _ d1 (by decide)) b4 d3;rw[<-X3] at c3;have e8:=J d5;have f2:=J (show ∀s∈c5++[V],s.size<=2000000000 from λs F=>by rcases lc.1 F with h|h;exact d7.o s h;rw[jv.1 h];omega);clear d1 d c6 b5 an b4 d3 d5 d6 a9 l a1 a4 d7
  go_wp2_with (
   at_builtin;refine Z5 (by with_reducible rfl) rfl _ _ _ rfl _ _ (by rfl) (by rfl) b7.o ?_);refine⟨⟨k+1,c5++[V],t,e,ab,by go_num,by rw[bV,f6];rfl,c3,e9,J (by omega),c8,f2,e8⟩,?_⟩;simp[intOf]<;>omega
 have j0:k=n:=(by omega);subst j0;have e1:st.take k=st:=d' (by rw[I.o];exact aU);have e7:=g1.o;unfold Es at e7;rw[e1] at e7;have g0:=J (C7 B.o);obtain⟨j7,k6,j3,_⟩:=Zh j.o;injection j3 with h1 L a7;have i8:=L.symm;subst i8;clear h1 a7;by_cases p:iQ t e=0
 .have h4:e=0/\t.size=0:=by unfold iQ at p;split at p;omega;rename_i h;exact⟨p,by omega⟩
  have D:=g9.o;rw[e7.1 h4.1] at D;have i1:aH t=[]:=ia (by rw[Z2];exact h4.2);rw[i1] at D;simp only at D;rw[p] at g0;have e6:=J D;have i2:=J f6;clear D i1 e7 e1 g1 p h4 e3 f6;go_wp21;refine aP g0.o λw3 b2=>?_;have M:=Zs hb.o hb.o.size f5 b2;have c6:=Z1 j.o B.o (by decide);have f3:=Z6 j.o b2 (λg R h=>c6 (by rw[R,show g=b from h]));obtain⟨j8,k0,j6,c9⟩:=Zh f3;injection j6 with h1 _ a7;subst h1;obtain⟨g7,a1,f4⟩:=bD (a0.o w3 _ _ c5 (Ha.o.below M) c9 (d9.o.below M) (λs F=>by have:=d7.o s F;omega) cap k i0 i2.o.symm (by omega)) M c9;clear b2 M c6 f3 c9 j B hb g0 a0 a7 d7;cases f7:hQ Z3 st c5 with
  |true=>have D:=e6.o;rw[Vag ⟨trivial,f7⟩] at D;have c7:=J D;rw[f7] at g7;clear D f7 e6;go_wp21;refine aP g7.o λb8 an=>?_;have E:Hid (BI w X (.returned (.tuple #[(A5,k,i0),(0:Int)])) b8):=J (by rw[c7.o];exact⟨_,rfl,⟨_,_,by rw[i2.o],f4.o.below an⟩,a1.o.trans (an.mono a1.o.size)⟩);clear an c7 f4;go_wp2;go_returns;exact E.o
  |false=>have D:=e6.o;rw[aD (by simp[f7])] at D;have c7:=J D;rw[f7] at g7;clear D f7 e6;go_wp21;refine aP g7.o λb8 an=>?_;have E:Hid (BI w X (.returned (.tuple #[.slice none 0 0,(12:Int)])) b8):=J (by rw[c7.o];exact Qe 12 (a1.o.trans (an.mono a1.o.size)));clear an c7 f4;go_wp2;go_returns;exact E.o
 have i3:X=([],12):=by have D:=g9.o;by_cases h5:e=0;have j1:t.size≠0:=λh=>p (by unfold iQ;rw[aD (by omega)];exact h5);rw[e7.1 h5] at D;simp only at D;rw[aD (λh=>j1 (by have:=congrArg List.length h.1;rw[Z2] at this;exact this))] at D;exact D;rw[e7.2 h5] at D;exact D
 have e2:((iQ t e:Int) !=0)=true:=(by rw[kx];omega);have c7:=J i3;generalize iQ t e=a5 at*;clear e7 e1 g1 p e3 i3;go_wp21;refine aP g0.o λw3 b2=>?_;have M:=Zs hb.o hb.o.size f5 b2;have E:Hid (BI w X (.returned (.tuple #[.slice none 0 0,(12:Int)])) w3):=J (by rw[c7.o];exact Qe 12 M);clear M b2 c7 j B hb g0 a0 d7;go_wp2;go_returns;exact E.o):P:=h
end
namespace Go.Proofs.Y
open Tryz Wv Go.RowKit
variable{A:bN}{st:List (Int×Int)}{w:aq}
theorem Dk (j:At w A (pv st)) (k:Nat) (h:k<st):∃b o,A=some ⟨b,o,none⟩/\w.cell? ⟨b,o+k*2,none⟩=some (.int .i64 st[k].1)/\w.cell? ⟨b,o+k*2+1,none⟩=some (.int .i64 st[k].2):=by have l:=zf st k h;obtain⟨b,o,g,_,c0⟩:=j.get (k*2) _ l.1;obtain⟨q,t,d,_,c1⟩:=j.get (k*2+1) _ l.2;rw[g] at d;injection d with d;injection d with h1 p;subst h1;subst p;exact⟨b,o,g,c0,c1⟩
theorem JJ (B:At w A (pv st)) (n cap:Nat) (D:n=st) (Q:n<=9223372036854775807):
  Calls prog 56 #[(A,n,cap)] w (bM w (fN st)):=by
 obtain⟨Ha,I,G⟩:=bD B D (λa b W=>Uo a b W);have q:Hid (fN st=(st.all dS&&decide (st.length<=64))):=J rfl;clear B D;go_in;go_wp2;go_loopw [7] (λp wr=>∃k:Nat,k<=n/\p=k/\Hid ((st.take k).all dS=true)/\Hid (Below w w wr)) (λp _=>(n-intOf p).toNat);exact⟨0,cf _,rfl,J rfl,J (bf _ _)⟩;obtain⟨k,a1,rfl,z,hb⟩:=hrel;by_cases ab:k<n
 .have t:k<st:=iF;obtain⟨R,a2,rfl,c0,c1⟩:=Dk (Ha.o.below hb.o) k t;have u:st.take (k+1)=st.take k++[st[k]]:=dK t;have F:st[k]∈st:=dt _;obtain⟨⟨a,c⟩,hs⟩:=ay st[k];rw[hs] at c0 c1 u F;simp only at c0 c1;have d:=J (hb.o.alloc hb.o.size (.cells #[a,c] 68));have g:=J (G.o a c);have S:(0:Int)<=k:=O;have a0:(k:Int)<n:=O;cases j:dS (a,c);.have E:Hid (fN st=false):=J (by rw[q.o,Ca];left;rw[IC];exact⟨_,F,by rw[j];decide⟩);rw[j] at g;go_wp21;refine aP (g.o _) λw1 l=>?_;have y:=J (d.o.trans (l.mono d.o.size));exact E7
  have M:Hid ((st.take (k+1)).all dS=true):=J (by rw[u,List.all_append,z.o];simp[j]);rw[j] at g;go_wp21;refine aP (g.o _) λw1 l=>?_;have y:=J (d.o.trans (l.mono d.o.size));go_wp2;refine⟨⟨k+1,ab,ci,M,y⟩,?_⟩;simp[intOf]<;>omega
 have L:k=n:=O;subst L;have E:Hid (fN st=decide ((k:Int)<=64)):=J (by have h:=z.o;rw[d' og] at h;rw[q.o,h,<-I.o,Bool.true_and];simp only[decide_eq_decide];omega);go_wp2;go_returns;exact⟨Z4 E.o.symm,hb.o⟩
end Go.Proofs.Y
namespace Wv
open Go.Proofs.Tryz Go Go.RowKit
theorem ZgZ (dv:ax->Bool) (st:List (Int×Int)) (vs:a') (k:Nat) (h:k<st) (d:k<vs):lI dv (st.drop k) (vs.drop k)=(fO dv st[k] (aH vs[k])&&lI dv (st.drop (k+1)) (vs.drop (k+1))):=by rw[kw h,kw d];rfl
end Wv
namespace Go.Proofs.Y
open Tryz Wv Go.RowKit
section
variable{A:bN}{l:a'}{st:List (Int×Int)}{v:aI}{w:aq}
def eN (l:a'):List aI:=l.map Value.string
theorem ZnT (l:a') (k:Nat) (h:k<l):(eN l)[k]? =some (.string l[k]):=by rw[eN,jX,fb h];rfl
theorem QB (d:At w A (eN l)) (k:Nat) (h:k<l):∃b o,A=some ⟨b,o,none⟩/\b<w.heap.size/\w.cell? ⟨b,o+k,none⟩=some (.string l[k]):=
 d.get k _ (ZnT l k h)
theorem Below.cellAt {w':aq} {B:Nat} (h:Below B w w') {p:Addr} (g:p.block<B) (d:w.cell? p=some v):w'.cell? p=some v:=by rw[World.cell?_of_block (h.block _ g)];exact d
theorem Um {W X:aq} {d p:Nat} {a c:Int} {v:aT} (g:W.heap=(w.alloc (.cells #[a,c] 68)).heap) (u:d<w) (t:w.cell? (d,p)=v) (hb:Below W W X):
  X.cell? (w,0)=a/\X.cell? (w,1)=c/\X.cell? (d,p)=v:=by
 have l:Bk W w 68 #[a,c]:=by unfold Bk;rw[g];exact Bk.new w 68 #[a,c]
 have j:=l.below hb l.lt;have q:W.cell? (d,p)=v:=by have k:(w.alloc (.cells #[a,c] 68)).cell? (d,p)=v:=Below.cellAt (((bf w w).alloc aU _)) u t;simp only[World.cell?,g] at k⊢;exact k
 exact⟨j.cell 0,j.cell 1,Below.cellAt hb (by rw[g];exact fj) q⟩
theorem JK {B:bN} {vs:a'} (S:At w A (pv st)) (b0:At w B (eN vs)) (a9:gl w) (a5:∀s∈vs,s.size<=1099511627776) (n cap m b7:Nat) (a0:n=st) (a8:m=vs) (b6:n<=9223372036854775807) (d2:m<=9223372036854775807):
  Calls prog 24 #[(A,n,cap),(B,m,b7)] w (bM w (hQ Z3 st vs)):=by
 obtain⟨F,Ha,b5,b4,I,E⟩:=fA (JJ S n cap a0 b6) S b0 a9 a0 a8;have u:Hid (hQ Z3 st vs=(fN st&&lI Z3 st vs)):=J rfl;have b3:=J (λa b (s:aT) (h:s∈vs) W (R:gl W)=>Sp a b (aH s) (by rw[Z2];exact a5 s h) R);clear S b0 a9 a5 a0 a8;cases d:fN st;.rw[d] at F;have t:Hid (hQ Z3 st vs=false):=J yC;clear d;go_in;go_wp21;refine aP F.o λw1 l=>?_;go_wp2;go_returns;exact⟨Z4 t.o.symm,l⟩
 rw[d] at F;have t:Hid (hQ Z3 st vs=lI Z3 st vs):=J yC;clear d;by_cases c3:m=n
 .subst c3;go_in;go_wp21;refine aP F.o λw1 l=>?_;have a6:=J l;clear l;go_wp2;go_loopw [19] (λa2 wr=>∃k:Nat,k<=m/\a2=k/\Hid (lI Z3 st vs=lI Z3 (st.drop k) (vs.drop k))/\Hid (Below w w wr)) (λa2 _=>(m-intOf a2).toNat);exact⟨0,cf _,rfl,J rfl,a6⟩;clear a6;obtain⟨k,c9,rfl,j,hb⟩:=hrel;by_cases ab:k<m
  .have G:k<st:=iF;have L:k<vs:=Fs;obtain⟨c6,d1,rfl,c0,c1⟩:=Dk (Ha.o.below hb.o) k G;obtain⟨a7,a1,rfl,b2,d0⟩:=QB (b5.o.below hb.o) k L;have z:=ZgZ Z3 st vs k G L;have g:=J (b3.o st[k].1 st[k].2 vs[k] (dt _));obtain⟨⟨a,c⟩,hs⟩:=ay st[k];rw[hs] at c0 c1 z g;simp only at c0 c1 g;rw[Zc] at g;generalize vs[k]=v at*;have a3:=J (λ(W X:aq) (R:W.heap=(wr.alloc (.cells #[a,c] 68)).heap) (h:Below W.heap.size W X)=>Um (p:=a1+k) R b2 d0 h);have y:=J (hb.o.alloc hb.o.size (.cells #[a,c] 68));have h0:=a3.o (wr.alloc (.cells #[a,c] 68)).drew (wr.alloc (.cells #[a,c] 68)).drew rfl (bf _ _);have b1:=J (λ(X:aq) h=>a3.o (wr.alloc (.cells #[a,c] 68)).drew X rfl h);have a4:=J (b4.o.below y.o.drew);have c7:(0:Int)<=k:=O;have c8:(k:Int)<m:=O;cases q:fO Z3 (a,c) (aH v)
   .rw[q] at g;have D:Hid (hQ Z3 st vs=false):=J (by rw[t.o,j.o,z,q];rfl);clear z hs q G L hb j;go_wp2
    go_region_held3 (λX=>X.cell? (wr,0)=a/\X.cell? (wr,1)=c/\X.cell? (a7,a1+k)=v) (first|with_reducible assumption) (first
     |(go_at_call 57;with_reducible refine(g.o _ a4.o).mono ?_;rintro r c4 ⟨rfl,aa⟩;have Q:=b1.o _ aa;have M:=J (y.o.drew.trans (aa.mono y.o.drew.size));clear aa));clear h0 Q;go_wp2;go_returns;exact⟨Z4 D.o.symm,M.o⟩
   rw[q] at g;have b9:Hid (lI Z3 st vs=lI Z3 (st.drop (k+1)) (vs.drop (k+1))):=J (by rw[j.o,z,q];rfl);clear z hs q G L hb j;go_wp2
   go_region_held3 (λX=>X.cell? (wr,0)=a/\X.cell? (wr,1)=c/\X.cell? (a7,a1+k)=v) (first|with_reducible assumption) (first
    |(go_at_call 57;with_reducible refine(g.o _ a4.o).mono ?_;rintro r c4 ⟨rfl,aa⟩;have Q:=b1.o _ aa;have M:=J (y.o.drew.trans (aa.mono y.o.drew.size));clear aa));clear h0 Q;go_wp2;refine⟨⟨k+1,ab,ci,b9,M⟩,?_⟩;simp[intOf]<;>omega
  have b8:k=m:=O;subst b8;have D:Hid (hQ Z3 st vs=true):=J (by rw[t.o,j.o,oc og,oc Fq];rfl);clear j;go_wp2;go_returns;exact⟨Z4 D.o.symm,hb.o⟩
 have c5:((m:Int) !=n)=true:=eV;have D:Hid (hQ Z3 st vs=false):=J (by rw[t.o];cases h:lI Z3 st vs;rfl;have:=A8 h;have:=I.o;have:=E.o;omega);go_in;go_wp21;refine aP F.o λw1 l=>?_;go_wp2;go_returns;exact⟨Z4 D.o.symm,l⟩
theorem Qu:(prog.info? 9).map (λi=>(i.zero,i.size,i.bytes))=some (some (.string ByteArray.empty),1,16):=dw
def sV (w:aq) (v:aI) (l:a'):Prop:=∃A cap,v=.slice A l cap/\At w A (eN l)
theorem sV.nil (w:aq):sV w (.slice none 0 0) []:=⟨none,0,rfl,At.nil _ _⟩
theorem Zn2 {base e:Nat} (h:w.ownsRow base e 1 v l (eN l)):sV w v l:=E6
theorem X3 (l:a') (s:aT):eN (l++[s])=eN l++[.string s]:=by unfold eN;rw[jy];rfl
theorem Zgc (q:At w A (pv st)) (n cap:Nat) (t:n=st) (a1:n<=9223372036854775807):
  Calls prog 25 #[(A,n,cap)] w λx w'=>∃v,x=.returned v/\sV w' v (xD st)/\Below w w w':=by
 obtain⟨j,Ha,I,a0⟩:=dc (JJ q n cap t a1) q t (λa b W=>Zh2 a b W);have u:Hid (xD st=if fN st=false then[] else st.map (λs=>bs (qN s))):=J rfl;have R:=J (λh=>(Dg (st:=st)).1 h);clear q t;cases d:fN st;.rw[d] at j;have g:Hid (xD st=[]):=J yC;go_in;go_wp21;refine aP j.o λw1 p=>?_;go_wp2;go_returns;exact⟨_,rfl,by rw[g.o];exact sV.nil _,p⟩
 rw[d] at j;have g:Hid (xD st=st.map (λs=>bs (qN s))):=J yC;obtain⟨a7,Q⟩:=R.o d;have b4:=J a7;have c6:n<=64:=(by rw[I.o];exact Q);go_in;go_wp21;refine aP j.o λw1 p=>?_;have a6:=J p;go_wp2;go_loopw [3,11] (λb7 y wr=>∃k:Nat,k<=n/\y=k/\Hid (wr.ownsRow w 9 1 b7 k (eN ((st.take k).map (λs=>bs (qN s)))))/\Hid (Below w w wr)) (λ_ y _=>(n-intOf y).toNat);exact⟨0,cf _,rfl,J Zl,a6⟩;obtain⟨k,c5,rfl,l,hb⟩:=hrel;obtain⟨A5,b2,b6,_⟩:=Zh l.o;subst b6;by_cases ab:k<n
 .have B:k<st:=iF;obtain⟨b9,c7,rfl,c0,c1⟩:=Dk (Ha.o.below hb.o) k B;have D:st.take (k+1)=st.take k++[st[k]]:=dK B;have F:=b4.o st[k] (dt _);obtain⟨⟨a,c⟩,hs⟩:=ay st[k];rw[hs] at c0 c1 D F;simp only at c0 c1;have G:=J (a0.o a c);rw[F,Vag rfl] at G;have z:=J (hb.o.alloc hb.o.size (.cells #[a,c] 68));have a2:=J (Z6 l.o (Fr.of_below (S:=nob) ((bf wr wr).alloc aU (.cells #[a,c] 68))) (λ_ _ f=>f));have b3:=J (show eN ((st.take (k+1)).map (λs=>bs (qN s)))=eN ((st.take k).map (λs=>bs (qN s)))++[.string (bs (qN (a,c)))] by rw[D,jy,<-X3];rfl);have c3:(0:Int)<=k:=O;have c4:(k:Int)<n:=O;generalize bs (qN (a,c))=X at*;go_wp21;refine aP (G.o _) λb8 aa=>?_;have a5:=Z6 a2.o (Fr.of_below (S:=nob) aa) (λ_ _ f=>f);have L:=z.o.trans (aa.mono z.o.size);obtain⟨c8,c9,a4,a8,a3,_⟩:=ZU (P:=prog) 23 9 _ _ underlying23 Qu rfl (w:=b8) a5 L L.size (.string X) rfl fU O;have a9:=J a4;have E:=J a8;rw[<-b3.o] at E;have b5:=J a3
  go_wp2_with (
   at_builtin;refine Z5 iG rfl _ _ _ rfl _ _ (by rfl) (by rfl) a9.o ?_);refine⟨⟨k+1,ab,ci,E,b5⟩,?_⟩;simp[intOf]<;>omega
 have b1:k=n:=O;subst b1;have b0:Hid (sV wr (.slice A5 k b2) (xD st)):=J (by have h:=l.o;rw[d' og,<-g.o] at h;have M:(xD st)=k:=(by rw[g.o,c',<-I.o]);rw[<-M] at h;have:=Zn2 h;rw[M] at this;exact this);go_wp2;go_returns;exact⟨_,rfl,b0.o,hb.o⟩
end
variable{A:bN}{L:List (List (Int×aT))}{l:List (Int×Int)}{w:aq}
def pN (w:aq) (A:bN) (L:List (List (Int×aT))):Prop:=
 ∀i (h:i<L.length),∃b o B cap,A=some ⟨b,o,none⟩/\b<w.heap.size/\w.cell? ⟨b,o+i,none⟩=some (.slice B L[i].length cap)/\At w B (cv L[i])
theorem pN.below {w':aq} (h:pN w A L) (hb:Below w w w'):pN w' A L:=by intro i hi;obtain⟨b,o,B,cap,g,ab,h1,d⟩:=h i hi;exact⟨b,o,B,cap,g,eg ab hb.size,(hb.cell (p:=⟨b,_,none⟩) ab).trans h1,d.below hb⟩
theorem yh.b (h:yh w A L):pN w A L:=λi hi=>by obtain⟨b,o,B,cap,g,ab,h1,d,j⟩:=h i hi;exact⟨b,o,B,cap,g,ab,h1,d⟩
theorem ZV (M:At w A (pv l)) (k:Nat) (h:k<l):∃b o,A=some ⟨b,o,none⟩/\b<w.heap.size/\w.cell? ⟨b,o+k*2,none⟩=some (.int .i64 l[k].1)/\w.cell? ⟨b,o+k*2+1,none⟩=some (.int .i64 l[k].2):=by have q:=zf l k h;exact IK
theorem Zmx (st:List (Int×Int)) (n:Nat) (d:n=st):(((xD st).length:Int)==(n:Int))=fN st:=by subst d;unfold xD;cases g:fN st;rw[Vag rfl,lL];intro h;have:st=[]:=ia (by simp only[xa] at h;omega);subst this;cases g;rw[aD aY,c',ID]
theorem JU {st:List (Int×Int)} (g:At w A (pv st)) (n cap:Nat) (d:n=st) (p:n<=9223372036854775807):
  Calls prog 44 #[(A,n,cap)] w (bM w (fN st)):=by have k:=J (Zgc g n cap d p);have j:=J (Zmx st n d);clear g d;go_in;go_wp21;refine(k.o).mono ?_;rintro x w1 ⟨v,rfl,⟨A2,t,rfl,q⟩,hb⟩;have l:=J hb;clear hb q;go_wp2;go_returns;exact⟨Z4 j.o,l.o⟩
theorem Gj (a c:Int) (q:Bool) (lv:Int) (w:aq):
  Calls prog 50 #[.agg #[a,c],q,lv] w (bM w (eR (a,c) q lv)):=by
 have g:=J ((bf w w).alloc aU (.cells #[a,c] 68));have d:Hid (eR (a,c) q lv=(!q&&((lv==0)||(lv==1)&&(a !=3)))):=J rfl;generalize eR (a,c) q lv=R at*
 cases q<;>cases h0:(lv==0)<;>cases h1:(lv==1)<;>cases j:(a !=3)<;>(
  rw[h0,h1,j] at d;go_in;go_wp2;go_returns;exact⟨Z4 d.o.symm,g.o⟩)
theorem NN {f t a:Int} {k:Nat} (h:k<l):su f t a (l.drop k)=(decide (f+1<=l[k].1)&&decide (l[k].1<l[k].2)&&decide (l[k].2<=t+1)&&decide (a<l[k].1)&&su f t l[k].2 (l.drop (k+1))):=by rw[kw h];rfl
theorem Ty (F:At w A (pv l)) (n cap:Nat) (B:n=l) (S:n<=9223372036854775807) (f t:Int) (a8: -1<=f) (a0:f<=4398046511104) (b0: -1<=t) (b5:t<=4398046511104):
  Calls prog 35 #[f,t,(A,n,cap)] w (bM w (mQ f t l)):=by
 have Ha:=J F;have I:=J B;have j:Hid (mQ f t l=(su f t f l&&decide (n<=16))):=J (by rw[B];rfl);have b1:IntKind.i64.wrap (f+1)=f+1:=lO;have b2:IntKind.i64.wrap (t+1)=t+1:=lO;clear F B;go_in;go_wp2;go_loopw [7,13] (λR D wr=>∃(k:Nat) (q:Int),k<=n/\D=k/\R=q/\Hid (k=0->q=f)/\Hid (su f t f l=su f t q (l.drop k))/\Hid (Below w w wr)) (λ_ D _=>(n-intOf D).toNat);exact⟨0,f,cf _,rfl,rfl,J (λ_=>rfl),J rfl,J (bf _ _)⟩;obtain⟨k,q,a9,rfl,rfl,G,z,hb⟩:=hrel;by_cases ab:k<n;.have u:k<l:=iF;obtain⟨a1,b3,rfl,b4,c0,c1⟩:=ZV (Ha.o.below hb.o) k u;have p:=NN (f:=f) (t:=t) (a:=q) u;obtain⟨⟨x,y⟩,hs⟩:=ay l[k];rw[hs] at c0 c1 p;simp only at c0 c1 p;have d:=J (z.o.trans p);have a3:=J (hb.o.alloc hb.o.size (.cells #[x,y] 77));have a2:(0:Int)<=k:=O;have a7:(k:Int)<n:=O;have Q:k=0->q=f:=G.o;clear p hs u z G;by_cases L:x<f+1;have E:Hid (mQ f t l=false):=J (by rw[j.o,d.o,cI (show ¬f+1<=x by omega)];rfl);exact E9;by_cases c2:y<=x;have E:Hid (mQ f t l=false):=J (by rw[j.o,d.o,cI (show ¬x<y by omega)];simp);exact E9;by_cases a4:t+1<y;have E:Hid (mQ f t l=false):=J (by rw[j.o,d.o,cI (show ¬y<=t+1 by omega)];simp);exact E9;by_cases a5:(0:Int)<k;by_cases a6:x<=q;have E:Hid (mQ f t l=false):=J (by rw[j.o,d.o,cI (show ¬q<x by omega)];simp);exact E9;have g:Hid (su f t f l=su f t y (l.drop (k+1))):=J (by rw[d.o,dd (show f+1<=x by omega),dd (show x<y by omega),dd (show y<=t+1 by omega),dd (show q<x by omega)];rfl);exact Oy;have g:Hid (su f t f l=su f t y (l.drop (k+1))):=J (by rw[d.o,dd (show f+1<=x by omega),dd (show x<y by omega),dd (show y<=t+1 by omega),dd (show q<x by have:=Q O;omega)];rfl);exact Oy
 have M:k=n:=O;subst M;have E:Hid (mQ f t l=decide ((k:Int)<=16)):=J (by rw[j.o,z.o,List.drop_of_length_le og];show(true&&decide (k<=16))=_;rw[Bool.true_and,decide_eq_decide];omega);go_wp2;go_returns;exact⟨Z4 E.o.symm,hb.o⟩
end Go.Proofs.Y
namespace Wv
open Go.Proofs.Tryz Go Go.RowKit Go.Proofs.Y
variable{B:bN}{l:List (Int×aT)}{xs:List aI}
def pm (w:aq) (xs:List aI) (L:List (List (Int×aT))):Prop:=
 xs.length=L/\∀i (h:i<L.length),∃B cap,xs[i]? =some (.slice B L[i].length cap)/\At w B (cv L[i])
theorem pm.below {w w':aq} {L:List (List (Int×aT))} (h:pm w xs L) (hb:Below w w w'):pm w' xs L:=
 ⟨h.1,λi hi=>by obtain⟨B,cap,h1,d⟩:=h.2 i hi;exact⟨B,cap,h1,d.below hb⟩⟩
theorem pm.keep {w w':aq} {S:Nat->Prop} {L:List (List (Int×aT))} (h:pm w xs L) (j:Fr S w w') (g:∀i (hi:i<L.length),L[i]≠[]->∀(B:bN) (n c:Nat),xs[i]? =some (Value.slice B n c)->∀b o,B=some ⟨b,o,none⟩->¬S b):pm w' xs L:=
 ⟨h.1,λi hi=>by obtain⟨B,cap,h1,d⟩:=h.2 i hi;refine⟨B,cap,h1,?_⟩;by_cases h0:L[i]=[];rw[h0];exact At.nil _ _;exact d.keep j (g i hi h0 B _ _ h1)⟩
theorem Zoo {w:aq} (h:At w B (cv l)) (h0:l≠[]) (b o:Nat) (d:B=some ⟨b,o,none⟩):b<w:=by
 match l,h0 with
 |c::r,_=>obtain⟨g,k,h1,j,_⟩:=h 0 (by unfold cv;simp);rw[d] at h1;injection h1 with h1;injection h1 with h1 _;omega
theorem pm.nil (w:aq):pm w [] []:=⟨rfl,λi hi=>absurd hi (vL _)⟩
theorem pm.snoc {w:aq} {L:List (List (Int×aT))} (h:pm w xs L) (cap:Nat) (q:At w B (cv l)):pm w (xs++[.slice B l cap]) (L++[l]):=by refine⟨by rw[bV,bV,h.1];rfl,λi hi=> ?_⟩;rw[bV,pg] at hi;rcases Nat.lt_or_ge i L.length with h1|h1;obtain⟨g,j,k,p⟩:=h.2 i h1;grind;have d:i=L.length:=O;subst d;refine⟨B,cap,?_,?_⟩;rw[pO (by rw[h.1];grind),h.1,fh];simp;grind
theorem pm.chb {w:aq} {A:bN} {L:List (List (Int×aT))} (h:pm w xs L) (d:At w A xs):pN w A L:=by intro i hi;obtain⟨B,cap,h1,g⟩:=h.2 i hi;obtain⟨b,o,j,ab,k⟩:=d.get i _ h1;grind
def rf (Y:Nat) (w:aq) (A:bN) (L:List (List (Int×aT))):Prop:=∃xs,pm w xs L/\At w A xs/\(∀b o,A=some ⟨b,o,none⟩->Y<=b)/\∀(i:Nat) (hi:i<L),L[i]≠[]->∀(B:bN) (n c:Nat),xs[i]? =some (Value.slice B n c)->∀b o,B=some ⟨b,o,none⟩->Y<=b
section
variable {Y Y':Nat} {w w':aq} {A:bN} {L:List (List (Int×aT))}
theorem rf.b (h:rf Y w A L):pN w A L:=by obtain⟨xs,h1,d,_⟩:=h;exact h1.chb d
theorem rf.keep {S:Nat->Prop} (h:rf Y w A L) (d:Fr S w w') (q:∀k,S k->k<Y):rf Y w' A L:=by obtain⟨xs,h1,g,j,l⟩:=h;exact⟨xs,h1.keep d (λi hi h0 B n c e b o p k=>aO),g.keep d (λb o e k=>aO),j,l⟩
theorem rf.below (h:rf Y w A L) (hb:Below w w w'):rf Y w' A L:=h.keep (Fr.of_below (S:=nob) hb) (λ_ k=>k.elim)
theorem rf.mono (h:rf Y w A L) (d:Y'<=Y):rf Y' w A L:=by obtain⟨xs,h1,j,k,l⟩:=h;exact⟨xs,h1,j,λb o e=>co d (k b o e),λi hi h0 B n c e b o g=>co d (l i hi h0 B n c e b o g)⟩
end
end Wv
namespace Go.Proofs.Y
open Tryz Wv Go.RowKit
theorem WL (d:aT) (a b:Nat):d.extract a (a+b)=bs (((aH d).drop a).take b):=by apply xc;apply pS.1;simp only[bs,aH,ByteArray.data_extract,Array.toList_extract,List.extract_eq_take_drop,Cc];rw[show a+b-a=b from by exact O]
theorem ZaU (d:aT) (hd:d.size<=1099511627776) (o l:Int) (w:aq):
  Calls prog 381 #[d,o,l] w λx w'=>x=.returned (.tuple (if pJ d.size (o,l)=false then #[.string ⟨#[]⟩,(2:Int)] else #[bs (tI (aH d) (o,l)),(0:Int)]))/\w=w':=by cases a1:pJ d.size (o,l);rw[Vag rfl];have q:o<0\/l<0\/(d.size:Int)<o\/(d.size:Int)-o<l:=Rh;clear a1;by_cases h1:o<0;exact xf;by_cases g:l<0;exact xf;by_cases j:(d.size:Int)<o;exact xf;have k:(d.size:Int)-o<l:=O;exact xf;rw[aD aY];unfold pJ at a1;simp only[gm,fq] at a1;obtain⟨⟨⟨h1,g⟩,j⟩,k⟩:=a1;obtain⟨a,rfl⟩:=Int.eq_ofNat_of_zero_le h1;obtain⟨b,rfl⟩:=Int.eq_ofNat_of_zero_le g;have p:Hid (bs (tI (aH d) ((a:Int),(b:Int)))=d.extract a (a+b)):=J (WL d a b).symm;have t:¬(a:Int)<0:=O;have u:¬(b:Int)<0:=O;have y:¬(d.size:Int)<a:=O;have z:¬(d.size:Int)-a<(b:Int):=O;rw[p.o];exact xf
theorem ZO {α:Type} {l:List α} {i:Nat} (d:α) (h:i<l):l.getD i d=l[i]:=by rw[pf,fb h];rfl
abbrev iC (f t:Int) (A1:bN) (n1 k1:Nat) (A2:bN) (n2 k2:Nat) (A3:bN) (n3 k3:Nat):Array aI:= #[.int .i64 f,.int .i64 t,.slice A1 n1 k1,.slice A2 n2 k2,.slice A3 n3 k3]
theorem ZhE {w:aq} {A1 A2 A3:bN} {vs:a'} {ch:List (List dO)} (h1:At w A1 (eN vs)) (F:pN w A2 ch) (f t:Int) (n1 k1 n2 k2 n3 k3:Nat) (a2:n1=vs) (a3:n2=ch) (i:Nat) (z:i<vs) (p:i<ch)
  (b6:n1<=9223372036854775807) (b7:n2<=9223372036854775807) (M:∀l∈ch,l.length<=9223372036854775807) (g:Int):
  Calls prog 39 #[.agg (iC f t A1 n1 k1 A2 n2 k2 A3 n3 k3),i,g] w (bM w (ti (jU vs i) (fG ch i) g)):=by
 obtain⟨b1,a5,rfl,q1,c1⟩:=QB h1 i z;obtain⟨a0,a6,B,b5,rfl,q2,c2,G⟩:=F i p;have a4:=M _ (dt p);rw[show jU vs i=vs[i] from ZO _ z,show fG ch i=ch[i] from ZO _ p];generalize vs[i]=b at*;generalize ch[i]=l at*;obtain⟨n,y⟩:=ay l.length;rw[y] at c2 a4;have i0:(0:Int)<=i:=O;have i1:(i:Int)<n1:=O;have b4:(i:Int)<n2:=O;obtain⟨I,Q,S⟩:=bD y G ((bf w w).alloc aU (.cells (iC f t (some ⟨b1,a5,none⟩) n1 k1 (some ⟨a0,a6,none⟩) n2 k2 A3 n3 k3) 27));clear h1 F M y G a2 a3 z p;go_in;go_wp2;go_loopw [7,21] (λa7 u wr=>∃(k:Nat) (d:aT),k<=n/\u=k/\a7=.string d/\Hid (d=ti b (l.take k) g)/\Hid (Below w w wr)) (λ_ u _=>(n-intOf u).toNat);exact⟨0,b,cf _,rfl,rfl,J rfl,S⟩;obtain⟨k,d,b3,rfl,rfl,hd,hb⟩:=hrel;by_cases ab:k<n
 .have D:k<l.length:=xh;obtain⟨a8,b8,rfl,b9,c0,c1⟩:=xx (Q.o.below hb.o) k D;have j:=Vp g (l.take k) b l[k];rw[<-dK D,<-hd.o] at j;obtain⟨⟨x,v⟩,hs⟩:=ay l[k];rw[hs] at c0 c1 j;simp only at c0 c1 j;have E:=J (hb.o.alloc hb.o.size (.cells #[x,v] 81));have a9:(0:Int)<=k:=O;have b0:(k:Int)<n:=O;by_cases L:x<=g;.have q:=J (j.trans (Vag L));go_wp2;refine⟨⟨k+1,v,ab,ci,rfl,J q.o.symm,J E.o⟩,?_⟩;simp[intOf]<;>omega
  have q:=J (j.trans (aD L));go_wp2;refine⟨⟨k+1,d,ab,ci,rfl,J q.o.symm,J E.o⟩,?_⟩;simp[intOf]<;>omega
 have a1:k=n:=O;subst a1;have R:Hid (d=ti b l g):=J (by rw[hd.o,d' og]);go_wp2;go_returns;exact⟨Bc R.o,hb.o⟩
variable{st:List (Int×Int)}{vs:a'}
theorem Zc7 (F G:aI) (w:aq):(Instr.field 121 (.agg #[F,G]) 0).run prog w=.ok F w:=dw
theorem Zq0 (h:hQ Z3 st vs=false):ei Z3 st vs=([],1):=by unfold ei;rw[Vag h]
theorem ZnA (h:hQ Z3 st vs=true) (d:ZJ st vs=[]):ei Z3 st vs=([],0):=by unfold ei;rw[aD uK,Vag d]
theorem ZjW {d:ax} (h:hQ Z3 st vs=true) (g:ZJ st vs≠[]) (j:Zo 4 (ZJ st vs)=some d):ei Z3 st vs=(d,0):=by unfold ei;rw[aD uK,aD g,j]
theorem ZjV (h:hQ Z3 st vs=true) (d:ZJ st vs≠[]) (g:Zo 4 (ZJ st vs)=none):ei Z3 st vs=([],9):=by unfold ei;rw[aD uK,aD d,g]
theorem RZ {w:aq} {A B:bN} (c7:At w A (pv st)) (a2:At w B (eN vs)) (e4:gl w) (d5:∀s∈vs,s.size<=1099511627776) (n cap m f7:Nat) (c8:n=st) (e3:m=vs) (h3:n<=9223372036854775807) (i1:m<=9223372036854775807):
  Calls prog 32 #[(A,n,cap),(B,m,f7)] w (bM w (.tuple #[bs (ei Z3 st vs).1,((ei Z3 st vs).2:Int)])):=by
 have y:=J (JK c7 a2 e4 d5 n cap m f7 c8 e3 h3 i1);cases b0:hQ Z3 st vs;.rw[b0] at y;rw[Zq0 b0];clear c7 a2 e4 d5 c8 e3 b0;go_in;go_wp21;refine aP y.o λw1 z=>?_;exact wz
 rw[b0] at y;have h1:fN st=true/\lI Z3 st vs=true:=by have:(fN st&&lI Z3 st vs)=true:=b0;rwa [gm] at this
 obtain⟨f9,a8⟩:=h1;obtain⟨f6,g7⟩:=Dg.1 f9;have a5:=A8 a8;obtain⟨h6,f4,i2,E,Ha,g9⟩:=fA (λk h b7=>Dh Z3 a8 k h b7) (λk=>Kv a8 k) c8 (show m=st by omega) c7 a2;have g2:=J a5;have i7:n<=64:=O;have f2:=J f6;have d4:=J b0;have h9:m=n:=O;subst h9;have u:Hid (∀x,ei Z3 st vs=x->ei Z3 st vs=x):=J (λ_ h=>h);generalize d8:ei Z3 st vs=X;rw[d8] at u;have d3:=J d8;clear d8 u;clear c7 a2 e4 d5 c8 e3 b0 f9 a8 f6 g7 a5;go_in;go_wp21;refine aP y.o λw1 z=>?_;have f5:=J z;have h7:∀F G W,(Instr.field 121 (.agg #[F,G]) 0).run prog W=.ok F W:=λF G W=>Zc7 F G W;clear z;go_wp2;go_loopw [6,17] (λi0 d1 wr=>∃k:Nat,k<=m/\d1=(k:Int)/\i0=.string (bs (ZJ (st.take k) (vs.take k)))/\Hid (Below w w wr)) (λ_ d1 _=>(m-intOf d1).toNat);exact⟨0,cf _,rfl,by rw[Vbv,Vbv];rfl,f5⟩;clear f5 y;obtain⟨k,i6,rfl,rfl,hb⟩:=hrel;by_cases ab:k<m
 .have b5:k<st.length:=Fs;have c9:k<vs.length:=(by rw[g2.o];exact b5);obtain⟨i3,i8,rfl,c0,c1⟩:=Dk (Ha.o.below hb.o) k b5;obtain⟨c3,b8,rfl,g6,d0⟩:=QB (g9.o.below hb.o) k c9;have d6:=JN st vs k b5 c9;have a9:=h6.o k b5 c9;have h5:=(f4.o k).1;obtain⟨f8,e8⟩:=Hq a9;obtain⟨⟨a,c⟩,hs⟩:=ay st[k];rw[hs] at c0 c1 d6 a9 f8;simp only at c0 c1;generalize vs[k]=v at*;have d2:dS (a,c)=true:=(by unfold fO at a9;rw[gm] at a9;exact a9.1);have h8:a=0\/a=1\/a=2\/a=3:=by rcases XJ d2 with h|⟨h|h|h,_⟩<;>simp at h<;>omega
  have a0:=J (λ(X:aq) (h:Below (wr.alloc (.cells #[a,c] 68)).drew (wr.alloc (.cells #[a,c] 68)).drew X)=>Um (p:=b8+k) (W:=(wr.alloc (.cells #[a,c] 68)).drew) rfl g6 d0 h);have a3:=J ((hb.o.alloc hb.o.size (.cells #[a,c] 68)).drew);have h0:=a0.o (wr.alloc (.cells #[a,c] 68)).drew (bf _ _);have i4:(0:Int)<=k:=O;have i5:(k:Int)<m:=O;have f3:bs (ZJ (st.take (k+1)) (vs.take (k+1)))=bs (ZJ (st.take k) (vs.take k))++bs (ko (a,c) (aH v)):=(by rw[d6,Z9]);have M:(bs (ZJ (st.take k) (vs.take k))).size+(bs (ko (a,c) (aH v))).size<=9223372036854775807:=(by rw[Z0,Z0];omega);obtain⟨q,y,b6⟩:=bD f3 a9 d2;have a8:(aH v).length<=128:=e8;have e9:=J a8;clear d6 a9 h5 f8 e8 hs f3 d2 b5 c9 hb a8;obtain⟨T,g1⟩:=ay (bs (ZJ (st.take k) (vs.take k)));rw[g1] at q M⊢;clear g1;rcases h8 with rfl|rfl|rfl|rfl
  .obtain⟨g3,g5⟩:=XI b6.o rfl;simp only at g3 g5;obtain⟨N,rfl⟩:∃N:Nat,c=(N:Int):=⟨c.toNat,O⟩;have a2:=y.o;have g4:fs (aH v)=true:=by unfold fO sD at a2;rw[gm] at a2;have b7:vld (N:Int) (aH v)=true:=a2.2;unfold vld at b7;rw[gm] at b7;exact b7.1
   have a7:=J (λW=>Rz N O W);have u:=J (λW=>ZlJ (aH v) g4 W);rw[Zc] at u;have I:ko (0,(N:Int)) (aH v)=ct (kA (aH v))++ct (kz (aH v)):=(by unfold ko;rw[Vag rfl]);rw[I] at q M;clear a2 g4 I g3 g5 y b6;generalize bs (ct (kA (aH v))++ct (kz (aH v)))=R at*;have e7:¬9223372036854775807<T.size+R.size:=O;clear M;go_wp2
   go_region_held3 (λX=>X.cell? (wr,0)=(0:Int)/\X.cell? (wr,1)=N/\X.cell? (c3,b8+k)=v) (first|with_reducible assumption) (first
    |(go_at_call 67;with_reducible refine(a7.o _).mono ?_;rintro r b9 ⟨b1,b3,rfl,_,_,aa⟩;have g:=a0.o _ aa;have t:=J aa;clear aa)
    |(go_at_call 91;with_reducible refine(u.o _).mono ?_;rintro r e6 ⟨rfl,a4⟩;have j:=t.o.trans (a4.mono t.o.size);have l:=a0.o _ j;clear a4;have a1:=J (a3.o.trans (j.mono a3.o.size));clear j));exact EH
  .have a7:=J (λW=>RA c W);have u:=J (λW=>X1 v (by have:=e9.o;rw[Z2] at this;omega) W);have I:ko (1,c) (aH v)=text v:=PH;rw[I] at q M;clear I y b6;generalize bs (text v)=R at*;have e7:¬9223372036854775807<T.size+R.size:=O;clear M;go_wp2
   go_region_held3 (λX=>X.cell? (wr,0)=(1:Int)/\X.cell? (wr,1)=c/\X.cell? (c3,b8+k)=v) (first|with_reducible assumption) (first
    |(go_at_call 67;with_reducible refine(a7.o _).mono ?_;rintro r b9 ⟨rfl,aa⟩;have g:=a0.o _ aa;have t:=J aa;clear aa)
    |(go_at_call 78;with_reducible refine(u.o _).mono ?_;rintro r e6 ⟨rfl,a4⟩;have j:=t.o.trans (a4.mono t.o.size);have l:=a0.o _ j;clear a4;have a1:=J (a3.o.trans (j.mono a3.o.size));clear j));exact EH
  .have a7:=J (λW=>RB c W);have u:=J (λW=>X1 v (by have:=e9.o;rw[Z2] at this;omega) W);have I:ko (2,c) (aH v)=text v:=PH;rw[I] at q M;clear I y b6;generalize bs (text v)=R at*;have e7:¬9223372036854775807<T.size+R.size:=O;clear M;go_wp2
   go_region_held3 (λX=>X.cell? (wr,0)=(2:Int)/\X.cell? (wr,1)=c/\X.cell? (c3,b8+k)=v) (first|with_reducible assumption) (first
    |(go_at_call 67;with_reducible refine(a7.o _).mono ?_;rintro r b9 ⟨rfl,aa⟩;have g:=a0.o _ aa;have t:=J aa;clear aa)
    |(go_at_call 78;with_reducible refine(u.o _).mono ?_;rintro r e6 ⟨rfl,a4⟩;have j:=t.o.trans (a4.mono t.o.size);have l:=a0.o _ j;clear a4;have a1:=J (a3.o.trans (j.mono a3.o.size));clear j));exact EH
  have a7:=J (λW=>RC c W);have u:=J (λW=>ZlK v W);have I:bs (ko (3,c) (aH v))=⟨#[]⟩:=(by unfold ko;rw[aD (by simp),Vag rfl];rfl);rw[I] at q M;clear I y b6;generalize (⟨#[]⟩:aT)=R at u q M;have e7:¬9223372036854775807<T.size+R.size:=O;clear M;go_wp2
  go_region_held3 (λX=>X.cell? (wr,0)=(3:Int)/\X.cell? (wr,1)=c/\X.cell? (c3,b8+k)=v) (first|with_reducible assumption) (first
   |(go_at_call 67;with_reducible refine(a7.o _).mono ?_;rintro r b9 ⟨rfl,aa⟩;have g:=a0.o _ aa;have t:=J aa;clear aa)
   |(go_at_call 98;with_reducible refine(u.o _).mono ?_;rintro r e6 ⟨rfl,rfl⟩;have j:=t.o;have l:=a0.o _ j;have a1:=J (a3.o.trans (j.mono a3.o.size));clear j));exact EH
 have h4:k=m:=O;subst h4;have c5:st.take k=st:=d' Fq;have c6:vs.take k=vs:=d' (by rw[g2.o,<-E.o];exact aU);have d9:=(f4.o k).2;rw[c5,c6];have e5:=E.o;by_cases a6:ZJ st vs=[];.have L:=d3.o;rw[ZnA d4.o a6] at L;have b4:=J L.symm;have c4:=YU ([]:ax);rw[dd rfl] at c4;rw[a6];clear d9 e5 L a6 c5 c6;generalize bs ([]:ax)=S0 at c4⊢;go_wp2;go_returns;exact⟨by rw[b4.o];rfl,hb.o⟩
 have c4:=YU (ZJ st vs);rw[cI a6] at c4;have Q:=J (λW=>Z1k 4 O (ZJ st vs) O W);have d7:rJ 4 (ZJ st vs)=.agg #[(4:Int),bs (ZJ st vs)]:=rfl;rw[d7] at Q;rcases b2:Zo 4 (ZJ st vs) with _|d
 .have L:=d3.o;rw[ZjV d4.o a6 b2] at L;have b4:=J L.symm;rw[b2] at Q;unfold mV at Q;simp only at Q;clear d9 e5 L a6 c5 c6 b2 d7;generalize bs (ZJ st vs)=S at*;go_wp21;with_reducible refine(Q.o _).mono ?_
  rintro x b9 ⟨rfl,aa⟩;have t:=J (hb.o.trans (aa.mono hb.o.size));clear aa;go_wp2;go_returns;exact⟨by rw[b4.o];rfl,t.o⟩
 have L:=d3.o;rw[ZjW d4.o a6 b2] at L;have b4:=J L.symm;rw[b2] at Q;unfold mV at Q;simp only at Q;clear d9 e5 L a6 c5 c6 b2 d7;generalize bs (ZJ st vs)=S at*;generalize g0:bs d=D at*;have g8:=J g0;clear g0;go_wp21;with_reducible refine(Q.o _).mono ?_
 rintro x b9 ⟨rfl,aa⟩;have t:=J (hb.o.trans (aa.mono hb.o.size));clear aa;go_wp2;go_returns;exact⟨by rw[b4.o,<-g8.o];rfl,t.o⟩
end Go.Proofs.Y
namespace Wv
open Go.Proofs.Tryz Go Go.RowKit
variable{c d:ax}{k n:Nat}{st:List (Int×Int)}
theorem ZpZ (h:fN st=false):kD Z3 st d=([],1):=by unfold kD;rw[Vag h]
theorem Zr0 (h:fN st=true) (g:sJ d=none):kD Z3 st d=([],12):=by unfold kD;rw[aD uK,g]
theorem Zr1 {T:ax} (h:fN st=true) (g:sJ d=some T):kD Z3 st d=match ra st T with
  |none=>([],12)
  |some (vs,r)=>if r=[]/\hQ Z3 st vs=true then(vs,0) else([],12):=by unfold kD;rw[aD uK,g];rfl
theorem Ze3 {data:ax} (h:ZI data=some (k,c,n)):c.length<=1000000000:=by have h1:=(XU h).1;have d:=X7 (k:=k) (c:=c);rw[h1] at d;have:=of_decide_eq_true d.symm;omega
theorem ZnB:sJ []=some []:=by unfold sJ;rw[Vag rfl]
theorem Zq1 (h:d≠[]) (g:ZI d=none):sJ d=none:=by unfold sJ;rw[aD h,g]
theorem ZjX (h:d≠[]) (g:ZI d=some (k,c,n)):sJ d=if n=d/\k=4/\c≠[] then some c else none:=by unfold sJ;rw[aD h,g]
end Wv
namespace Go.Proofs.Y
open Tryz Wv Go.RowKit
variable{st:List (Int×Int)}{w:aq}
theorem Zc8 (F G:aI) (w:aq):(Instr.field 121 (.agg #[F,G]) 1).run prog w=.ok G w:=dw
theorem Zqk (s:aT) (w:aq):cK 80 #[s] w λe w'=>∃b,e=.returned (.pointer (some ⟨b,0,none⟩))/\RV w' b s 0/\w.heap.size<=b/\Below w w w':=
 (ZT s w).mono λe w' h=>⟨_,h.1,h.2.1,aU,h.2.2⟩
def Es (st:List (Int×Int)) (T:ax) (k:Nat) (d:a') (t:aT) (e:Nat):Prop:=(e=0->ra (st.take k) T=some (d,aH t))/\(e≠0->ra (st.take k) T=none)
theorem ZfA {T:ax} {k:Nat} {j:a'} {t v w:aT} {e q:Nat} (z:k<st) (y:B5 st[k] t e v w q) (h:Es st T k j t e):Es st T (k+1) (j++[v]) w q:=by have d:=UB st k z T;obtain⟨B,D,_⟩:=y;by_cases l:e=0;rw[h.1 l] at d;simp only at d;have g:=D l;rcases u:jH st[k] (aH t) with _|p;rw[u] at d g;simp only at d g;exact⟨λh=>absurd h g,λ_=>d⟩;obtain⟨x,r⟩:=p;rw[u] at d g;simp only at d g;obtain⟨q1,q2,q3⟩:=g;rw[q1,q2];exact⟨λ_=>d,λh=>absurd q3 h⟩;rw[h.2 l] at d;exact⟨λh=>absurd h (B l),λ_=>d⟩
def BI (w:aq) (r:a'×Nat) (x:Ending) (w':aq):Prop:=∃v,x=.returned (.tuple #[v,r.2])/\sV w' v r.1/\Below w w w'
theorem Qe {w':aq} (e:Nat) (hb:Below w w w'):BI w ([],e) (.returned (.tuple #[.slice none 0 0,e])) w':=⟨_,rfl,sV.nil _,hb⟩
theorem Z90 {A:bN} (l5:At w A (pv st)) (data:ax) (hd:data.length<=1000000000) (m4:gl w) (n cap:Nat) (l2:n=st) (m6:n<=9223372036854775807):
  Calls prog 49 #[(A,n,cap),bs data] w λx w'=>BI w (kD Z3 st data) x w':=by
 have l:=J (JJ l5 n cap l2 m6);cases h2:fN st;.rw[h2] at l;rw[ZpZ h2];clear l5 l2 h2 m4 hd;generalize bs data=S at*;go_in;go_wp21;refine aP l.o λw1 z=>?_;go_wp2;go_returns;exact Qe 1 z
 rw[h2] at l;obtain⟨m8,n1⟩:=Dg.1 h2;have n5:n<=64:=O;obtain⟨g5,I,Ha,d9,a0,k7⟩:=fA m8 l2 l5 m4 (λ(W:aq) (A B:bN) (vs:a') h1 L a7 h4 cap m bd h5 h6=>JK (w:=W) (A:=A) (B:=B) (st:=st) (vs:=vs) h1 L a7 h4 n cap m bd l2 h5 m6 h6) (λh=>Zr0 (d:=data) h2 h);have k8:=J (λT h=>Zr1 (d:=data) (T:=T) h2 h);have n2:∀F G W,(Instr.field 121 (.agg #[F,G]) 1).run prog W=.ok G W:=λF G W=>Zc8 F G W;have m9:=YU data;have u:=J (λW=>JR data hd W);have l7:(bs data).size=data:=Z0 data;generalize n0:kD Z3 st data=X;rw[n0] at k7 k8;clear l5 l2 h2 m8 n1 m4 n0;by_cases a6:data=[];.have m2:sJ data=some []:=(by rw[a6];exact ZnB);rw[dd a6] at m9;obtain⟨T,l8⟩:∃T:ax,[]=T:=⟨_,rfl⟩;rw[l8] at m2;have h9:Hid (T.length<=1000000000):=J (by rw[<-l8];exact cf _);have h0:Hid (bs T=⟨#[]⟩):=J (by rw[<-l8];rfl);have g9:=J (k8.o T m2);have g4:=J (λW=>Zqk ⟨#[]⟩ W);clear l8 a6 hd u l7 m2 k8 k7;generalize bs data=S at*;go_in;go_wp21;refine aP l.o λw1 z=>?_;have a2:=J z;clear z;exact WP
 rw[cI a6] at m9;rcases E:ZI data with _|p;.have k9:ux data=.tuple #[.agg #[(0:Int),.string ⟨#[]⟩],(0:Int),(12:Int)]:=Fe;rw[k9] at u;have c7:=J (k7.o (Zq1 a6 E));clear k9 E a6 l7 k7 k8 a0;generalize bs data=S at*;go_in;go_wp21;refine aP l.o λw1 z=>?_;have a2:=J z;clear z;go_wp21;refine aP (u.o _) λw2 aa=>?_;have M:=a2.o.trans (aa.mono a2.o.size);have a1:=J (M.alloc M.size (.cells #[(0:Int),.string ⟨#[]⟩] 87));clear aa M;go_wp2;go_returns;rw[c7.o];exact Qe 12 a1.o
 obtain⟨kk,c,q⟩:=p;have k9:ux data=.tuple #[.agg #[kk,bs c],q,(0:Int)]:=Fo;rw[k9] at u;have l0:=ZjX a6 E;have m1:=Ze3 E;have l3:=YU c;by_cases R:q=data/\kk=4/\c≠[];.rw[Vag R] at l0;obtain⟨g1,g2,g3⟩:=R;rw[cI g3] at l3;have l6:((q:Int) !=data.length)=false:=(by rw[g1];exact yx _);subst g2;have h9:=J m1;have h0:Hid (bs c=bs c):=J rfl;have g9:=J (k8.o c l0);have g4:=J (λW=>Zqk (bs c) W);clear k9 E a6 l0 m1 g1 g3 k7 k8;obtain⟨dl,l1⟩:=ay data.length;rw[l1] at l6 l7;clear l1 hd;generalize bs data=S at*;obtain⟨y,l9⟩:=ay (bs c);have h0:Hid (bs c=y):=J l9;rw[l9] at g4 l3 u;clear l9;go_in;go_wp21;refine aP l.o λw1 z=>?_;have m5:=J z;clear z;go_wp21;refine aP (u.o _) λn4 aa=>?_;have M:=m5.o.trans (aa.mono m5.o.size);have a2:=J (M.alloc M.size (.cells #[(4:Int),y] 87));clear aa M m5;generalize m3:c=T at*;clear m3;exact WP
 rw[aD R] at l0;have c7:=J (k7.o l0)
 have m7:q≠data\/(q=data/\kk≠4)\/(q=data/\kk=4/\c=[]):=by
  by_cases h1:q=data;.by_cases L:kk=4;by_cases a7:c=[];exact .inr (.inr ⟨h1,L,a7⟩);exact absurd ⟨h1,L,a7⟩ R;exact .inr (.inl ⟨h1,L⟩)
  exact .inl h1
 clear k9 E a6 R l0 m1 k7 k8 a0;obtain⟨dl,l1⟩:=ay data.length;rw[l1] at m7 l7;clear l1 hd;generalize bs data=S at*;rcases m7 with g1|⟨g1,g2⟩|⟨g1,g2,g3⟩;have l6:((q:Int) !=dl)=true:=eV;clear g1 l3;exact Np;have l6:((q:Int) !=dl)=false:=(by rw[g1];exact yx _);have n3:((kk:Int) !=4)=true:=eV;clear g1 g2 l3;exact Np;have l6:((q:Int) !=dl)=false:=(by rw[g1];exact yx _);subst g2;rw[dd g3] at l3;clear g1 g3;generalize bs c=y at*;go_in;go_wp21;refine aP l.o λw1 z=>?_;have a2:=J z;clear z;go_wp21;refine aP (u.o _) λw2 aa=>?_;have M:=a2.o.trans (aa.mono a2.o.size);have a1:=J (M.alloc M.size (.cells #[(4:Int),y] 87));clear aa M;go_wp2;go_returns;rw[c7.o];exact Qe 12 a1.o
