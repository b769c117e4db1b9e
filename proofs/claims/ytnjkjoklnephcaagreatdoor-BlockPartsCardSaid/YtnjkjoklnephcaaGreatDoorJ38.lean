import Derived.Test.YtnjkjoklnephcaaGreatDoorJ28
import Derived.Test.YtnjkjoklnephcaaGreatDoorJ37
set_option linter.all false
set_option maxRecDepth 100000
set_option maxHeartbeats 0
section
variable{P Q:Prop}
theorem Fl(h:P:=by rw[u.o,g];rfl):P:=h
theorem E7(h:P:=by go_wp2;go_returns;exact⟨Z4 E.o.symm,y.o⟩):P:=h
theorem E9(h:P:=by go_wp2;go_returns;exact⟨Z4 E.o.symm,Q.o⟩):P:=h
theorem Rh(h:P:=by unfold pJ at Q;simp only[Ca,uJ] at Q;omega):P:=h
theorem PH(h:P:=by unfold ko text;rw[aD (by simp),aD (by simp)];rfl):P:=h
theorem EH(h:P:=by clear h0 g l;go_wp2;refine⟨⟨k+1,ab,by go_num,by rw[q.o],a1⟩,?_⟩;simp[intOf]<;>omega):P:=h
theorem Oy(h:P:=by go_wp2;refine⟨⟨k+1,y,ab,by go_num,rfl,J (λh=>by omega),g,J Q.o⟩,?_⟩;simp[intOf]<;>omega):P:=h
theorem Np(h:P:=by generalize bs c=y at*;go_in;go_wp21;refine aP l.o λw1 z=>?_;have a2:=J z;clear z;go_wp21;refine aP (u.o _) λw2 aa=>?_;have M:=a2.o.trans (aa.mono a2.o.size);have a1:=J (M.alloc M.size (.cells #[kk,y] 87));clear aa M;go_wp2;go_returns;rw[c7.o];exact Qe 12 a1.o):P:=h
theorem WP(h:P:=by
 go_wp21;refine(g4.o _).mono ?_;rintro x w2 ⟨b,rfl,h3,h8,aa⟩;have Q:=J (a2.o.trans (aa.mono a2.o.size));have f5:w<=b:=co a2.o.size h8;have i4:RV w2 b (bs T) 0:=(by rw[<-h0.o] at h3;exact h3);have b9:=J i4;clear aa h8 h3 i4 a2 g4;go_wp2;go_loopw [11,49] (λj2 g8 wr=>∃(k:Nat) (c5:a') (t:aT) (e:Nat),k<=n/\g8=k/\c5=k/\Hid (wr.ownsRow w 9 1 j2 k (eN c5))/\Hid (RV wr b t e)/\Hid (t.size<=1000000000)/\Hid (Es st T k c5 t e)/\Hid (∀s∈c5,s.size<=2000000000)/\Hid (Below w w wr)) (λ_ g8 _=>(n-intOf g8).toNat);case atStart=>exact⟨0,[],bs T,0,cf _,rfl,rfl,J Zl,b9,J (by rw[Z0];exact h9.o),J ⟨λ_=>by rw[qA];rfl,λh=>absurd rfl h⟩,J (λs h=>by cases h),Q⟩
 clear Q b9;obtain⟨k,c5,t,e,y,rfl,f6,a8,B,e3,g1,d7,hb⟩:=hrel;obtain⟨A5,j9,i0,rfl⟩:=Z7 a8.o;by_cases ab:k<n
 .have z:k<st:=(by rw[<-I.o];exact ab);obtain⟨f9,g3,rfl,c0,c1⟩:=Dk (Ha.o.below hb.o) k z;have g6:=g5.o st[k] (dt _);have b6:=J (λ(v d8:aT) (e':Nat) (u:B5 st[k] t e v d8 e')=>ZfA z u g1.o);obtain⟨⟨a,c⟩,F⟩:=ay st[k];rw[F] at c0 c1 g6 b6;simp only at c0 c1;have j4:a=0\/a=1\/a=2\/a=3:=by rcases XJ g6 with h|⟨h|h|h,_⟩<;>simp at h<;>omega
  have h7:=(bf wr wr).alloc aU (.cells #[a,c] 68);obtain⟨G,d2,q,g2⟩:=dc (B.o.below h7 (Bk.lt B.o)) (Z6 a8.o (Fr.of_below (S:=nob) h7) (λ_ _ f=>f)) (hb.o.alloc hb.o.size (.cells #[a,c] 68)) g6;have k4:(0:Int)<=k:=(by omega);have k5:(k:Int)<n:=(by omega);have k2:=e3.o;clear g6 F z hb a8 B h7 g1 e3;rcases j4 with rfl|rfl|rfl|rfl
  .obtain⟨i5,i6⟩:=XI g2.o rfl;simp only at i5 i6;obtain⟨N,rfl⟩:∃N:Nat,c=(N:Int):=⟨c.toNat,by omega⟩;have a6:=J (λW=>Rz N (by omega) W);have u:=Zao (n:=N) (by omega) (by omega) t e;have a3:=J (λW b1 b3 h k1 k3=>ZcT N (by omega) (by omega) (w:=W) (b:=b) (b1:=b1) (b3:=b3) (s:=t) (e:=e) h (by omega) k1 k3);obtain⟨V,e5⟩:=ay ((bs (wg (aH (Zb t e ((N+7)/8:Nat)).1) (aH (Zb (Zb t e ((N+7)/8:Nat)).2.1 (Zb t e ((N+7)/8:Nat)).2.2 ((N+7)/8:Nat)).1) N)));obtain⟨f8,d4⟩:=ay ((Zb (Zb t e ((N+7)/8:Nat)).2.1 (Zb t e ((N+7)/8:Nat)).2.2 ((N+7)/8:Nat)));rw[e5,d4] at u a3;obtain⟨c4,d8,e'⟩:=f8;simp only at u a3;clear e5 d4 i5 i6 g2;have c8:=J (b6.o _ _ _ u);have e4:=u.2.2.2;have h6:=u.2.2.1;clear u b6;go_wp21;refine(a6.o _).mono ?_;rintro x w3 ⟨b1,b3,rfl,k1,k3,M⟩;have ff:=J k1;have j5:=J k3;clear k1 k3;obtain⟨a9,l,a1⟩:=bD (show RV w3 b t e from G.o.below M (Bk.lt G.o)) (Z6 d2.o (Fr.of_below (S:=nob) M) (λ_ _ f=>f)) (q.o.trans (M.mono q.o.size));clear M G d2 q a6;go_wp21;refine aP (a3.o _ b1 b3 a9.o ff.o j5.o) λb8 ⟨d1,a5⟩=>?_;have c6:=Z1 l.o a9.o (by decide);have b5:=Z6 l.o a5 (λg R h=>c6 (by rw[R,show g=b from h]));have an:=Zs a1.o a1.o.size f5 a5;obtain⟨v',b0,b4,d3,d5,d6⟩:=ZU (P:=prog) 23 9 _ _ underlying23 Qu rfl (w:=b8) b5 an an.size (.string V) rfl (by unfold maxLen;omega) (by omega);obtain⟨e9,b7,c3⟩:=bD (show RV b0 b d8 e' from d6 _ _ _ d1 (by decide)) b4 d3;rw[<-X3] at c3;have e8:=J d5;have f2:=J (show ∀s∈c5++[V],s.size<=2000000000 from λs F=>by rcases lc.1 F with h|h;exact d7.o s h;rw[jv.1 h];omega);clear d1 a5 c6 b5 an b4 d3 d5 d6 a9 l a1 a3 d7
   go_wp2_with (
    at_builtin;refine Z5 (by with_reducible rfl) rfl _ _ _ rfl _ _ (by rfl) (by rfl) b7.o ?_);refine⟨⟨k+1,c5++[V],d8,e',ab,by go_num,by rw[bV,f6];rfl,c3,e9,J (by omega),c8,f2,e8⟩,?_⟩;simp[intOf]<;>omega
  .have a6:=J (λW=>RA c W);have u:=RI (a:=1) (c:=c) (by omega) t e;have a3:=J (λW (h:RV W b t e)=>SK h (by omega));obtain⟨f8,d4⟩:=ay (ZB t e 4096);rw[d4] at u a3;obtain⟨V,d8,e'⟩:=f8;simp only at u a3;clear d4 g2;have c8:=J (b6.o _ _ _ u);have e4:=u.2.2.2;have h6:=u.2.2.1;clear u b6;go_wp21;refine aP (a6.o _) λw3 M=>?_;obtain⟨a9,l,a1⟩:=bD (show RV w3 b t e from G.o.below M (Bk.lt G.o)) (Z6 d2.o (Fr.of_below (S:=nob) M) (λ_ _ f=>f)) (q.o.trans (M.mono q.o.size));clear M G d2 q a6;go_wp21;refine aP (a3.o _ a9.o) λb8 ⟨d1,a5⟩=>?_;have c6:=Z1 l.o a9.o (by decide);have b5:=Z6 l.o a5 (λg R h=>c6 (by rw[R,show g=b from h]));have an:=Zs a1.o a1.o.size f5 a5;obtain⟨v',b0,b4,d3,d5,d6⟩:=ZU (P:=prog) 23 9 _ _ underlying23 Qu rfl (w:=b8) b5 an an.size (.string V) rfl (by unfold maxLen;omega) (by omega);obtain⟨e9,b7,c3⟩:=bD (show RV b0 b d8 e' from d6 _ _ _ d1 (by decide)) b4 d3;rw[<-X3] at c3;have e8:=J d5;have f2:=J (show ∀s∈c5++[V],s.size<=2000000000 from λs F=>by rcases lc.1 F with h|h;exact d7.o s h;rw[jv.1 h];omega);clear d1 a5 c6 b5 an b4 d3 d5 d6 a9 l a1 a3 d7
   go_wp2_with (
    at_builtin;refine Z5 (by with_reducible rfl) rfl _ _ _ rfl _ _ (by rfl) (by rfl) b7.o ?_);refine⟨⟨k+1,c5++[V],d8,e',ab,by go_num,by rw[bV,f6];rfl,c3,e9,J (by omega),c8,f2,e8⟩,?_⟩;simp[intOf]<;>omega
  .have a6:=J (λW=>RB c W);have u:=RI (a:=2) (c:=c) (by omega) t e;have a3:=J (λW (h:RV W b t e)=>SK h (by omega));obtain⟨f8,d4⟩:=ay (ZB t e 4096);rw[d4] at u a3;obtain⟨V,d8,e'⟩:=f8;simp only at u a3;clear d4 g2;have c8:=J (b6.o _ _ _ u);have e4:=u.2.2.2;have h6:=u.2.2.1;clear u b6;go_wp21;refine aP (a6.o _) λw3 M=>?_;obtain⟨a9,l,a1⟩:=bD (show RV w3 b t e from G.o.below M (Bk.lt G.o)) (Z6 d2.o (Fr.of_below (S:=nob) M) (λ_ _ f=>f)) (q.o.trans (M.mono q.o.size));clear M G d2 q a6;go_wp21;refine aP (a3.o _ a9.o) λb8 ⟨d1,a5⟩=>?_;have c6:=Z1 l.o a9.o (by decide);have b5:=Z6 l.o a5 (λg R h=>c6 (by rw[R,show g=b from h]));have an:=Zs a1.o a1.o.size f5 a5;obtain⟨v',b0,b4,d3,d5,d6⟩:=ZU (P:=prog) 23 9 _ _ underlying23 Qu rfl (w:=b8) b5 an an.size (.string V) rfl (by unfold maxLen;omega) (by omega);obtain⟨e9,b7,c3⟩:=bD (show RV b0 b d8 e' from d6 _ _ _ d1 (by decide)) b4 d3;rw[<-X3] at c3;have e8:=J d5;have f2:=J (show ∀s∈c5++[V],s.size<=2000000000 from λs F=>by rcases lc.1 F with h|h;exact d7.o s h;rw[jv.1 h];omega);clear d1 a5 c6 b5 an b4 d3 d5 d6 a9 l a1 a3 d7
   go_wp2_with (
    at_builtin;refine Z5 (by with_reducible rfl) rfl _ _ _ rfl _ _ (by rfl) (by rfl) b7.o ?_);refine⟨⟨k+1,c5++[V],d8,e',ab,by go_num,by rw[bV,f6];rfl,c3,e9,J (by omega),c8,f2,e8⟩,?_⟩;simp[intOf]<;>omega
  have a6:=J (λW=>RC c W);have u:=Z7c (c:=c) t e;have a3:=J (λW (h:RV W b t e)=>((ZcU b W).mono λx W' h2=>(show x=.returned (.string ⟨#[]⟩)/\RV W' b t e/\Fr (only b) W W' from⟨h2.1,h2.2▸h,h2.2▸Fr.refl _ _⟩)));obtain⟨V,e5⟩:=ay ((⟨#[]⟩:aT));rw[e5] at u a3;clear e5 g2;obtain⟨d8,i9⟩:=ay t;obtain⟨e',i7⟩:=ay e;have c8:=J (b6.o _ _ _ u);have e4:=u.2.2.2;have h6:=u.2.2.1;clear u b6;subst i9;subst i7;go_wp21;refine aP (a6.o _) λw3 M=>?_;obtain⟨a9,l,a1⟩:=bD (show RV w3 b t e from G.o.below M (Bk.lt G.o)) (Z6 d2.o (Fr.of_below (S:=nob) M) (λ_ _ f=>f)) (q.o.trans (M.mono q.o.size));clear M G d2 q a6;go_wp21;refine aP (a3.o _ a9.o) λb8 ⟨d1,a5⟩=>?_;have c6:=Z1 l.o a9.o (by decide);have b5:=Z6 l.o a5 (λg R h=>c6 (by rw[R,show g=b from h]));have an:=Zs a1.o a1.o.size f5 a5;obtain⟨v',b0,b4,d3,d5,d6⟩:=ZU (P:=prog) 23 9 _ _ underlying23 Qu rfl (w:=b8) b5 an an.size (.string V) rfl (by unfold maxLen;omega) (by omega);obtain⟨e9,b7,c3⟩:=bD (show RV b0 b t e from d6 _ _ _ d1 (by decide)) b4 d3;rw[<-X3] at c3;have e8:=J d5;have f2:=J (show ∀s∈c5++[V],s.size<=2000000000 from λs F=>by rcases lc.1 F with h|h;exact d7.o s h;rw[jv.1 h];omega);clear d1 a5 c6 b5 an b4 d3 d5 d6 a9 l a1 a3 d7
  go_wp2_with (
   at_builtin;refine Z5 (by with_reducible rfl) rfl _ _ _ rfl _ _ (by rfl) (by rfl) b7.o ?_);refine⟨⟨k+1,c5++[V],t,e,ab,by go_num,by rw[bV,f6];rfl,c3,e9,J (by omega),c8,f2,e8⟩,?_⟩;simp[intOf]<;>omega
 have j0:k=n:=(by omega);subst j0;have e1:st.take k=st:=d' (by rw[I.o];exact aU);have e7:=g1.o;unfold Es at e7;rw[e1] at e7;have g0:=J (C7 B.o);obtain⟨j7,k6,j3,_⟩:=Zh a8.o;injection j3 with h1 h2 a7;have i8:=h2.symm;subst i8;clear h1 a7;by_cases p:iQ t e=0
 .have h4:e=0/\t.size=0:=by unfold iQ at p;split at p;omega;rename_i h;exact⟨p,by omega⟩
  have D:=g9.o;rw[e7.1 h4.1] at D;have i1:aH t=[]:=ia (by rw[Z2];exact h4.2);rw[i1] at D;simp only at D;rw[p] at g0;have e6:=J D;have i2:=J f6;clear D i1 e7 e1 g1 p h4 e3 f6;go_wp21;refine aP g0.o λw3 b2=>?_;have M:=Zs hb.o hb.o.size f5 b2;have c6:=Z1 a8.o B.o (by decide);have f3:=Z6 a8.o b2 (λg R h=>c6 (by rw[R,show g=b from h]));obtain⟨j8,k0,j6,c9⟩:=Zh f3;injection j6 with h1 _ a7;subst h1;obtain⟨g7,a1,f4⟩:=bD (a0.o w3 _ _ c5 (Ha.o.below M) c9 (d9.o.below M) (λs F=>by have:=d7.o s F;omega) cap k i0 i2.o.symm (by omega)) M c9;clear b2 M c6 f3 c9 a8 B hb g0 a0 a7 d7;cases f7:hQ Z3 st c5 with
  |true=>have D:=e6.o;rw[aQ ⟨trivial,f7⟩] at D;have c7:=J D;rw[f7] at g7;clear D f7 e6;go_wp21;refine aP g7.o λb8 an=>?_;have E:Hid (BI w X (.returned (.tuple #[(A5,k,i0),(0:Int)])) b8):=J (by rw[c7.o];exact⟨_,rfl,⟨_,_,by rw[i2.o],f4.o.below an⟩,a1.o.trans (an.mono a1.o.size)⟩);clear an c7 f4;go_wp2;go_returns;exact E.o
  |false=>have D:=e6.o;rw[aD (by simp[f7])] at D;have c7:=J D;rw[f7] at g7;clear D f7 e6;go_wp21;refine aP g7.o λb8 an=>?_;have E:Hid (BI w X (.returned (.tuple #[.slice none 0 0,(12:Int)])) b8):=J (by rw[c7.o];exact Qe 12 (a1.o.trans (an.mono a1.o.size)));clear an c7 f4;go_wp2;go_returns;exact E.o
 have i3:X=([],12):=by have D:=g9.o;by_cases h5:e=0;have j1:t.size≠0:=λh=>p (by unfold iQ;rw[aD (by omega)];exact h5);rw[e7.1 h5] at D;simp only at D;rw[aD (λh=>j1 (by have:=congrArg List.length h.1;rw[Z2] at this;exact this))] at D;exact D;rw[e7.2 h5] at D;exact D
 have e2:((iQ t e:Int) !=0)=true:=(by rw[kx];omega);have c7:=J i3;generalize iQ t e=a4 at*;clear e7 e1 g1 p e3 i3;go_wp21;refine aP g0.o λw3 b2=>?_;have M:=Zs hb.o hb.o.size f5 b2;have E:Hid (BI w X (.returned (.tuple #[.slice none 0 0,(12:Int)])) w3):=J (by rw[c7.o];exact Qe 12 M);clear M b2 c7 a8 B hb g0 a0 d7;go_wp2;go_returns;exact E.o):P:=h
end
namespace Go.Proofs.Y
open Tryz Wv Go.RowKit
variable{A:bN}{st:List (Int×Int)}{w:aq}
theorem Dk (p:At w A (pv st)) (k:Nat) (h:k<st):∃b o,A=some ⟨b,o,none⟩/\w.cell? ⟨b,o+k*2,none⟩=some (.int .i64 st[k].1)/\w.cell? ⟨b,o+k*2+1,none⟩=some (.int .i64 st[k].2):=by have q:=zf st k h;obtain⟨b,o,l,_,c0⟩:=p.get (k*2) _ q.1;obtain⟨u,y,g,_,c1⟩:=p.get (k*2+1) _ q.2;rw[l] at g;injection g with g;injection g with h1 t;subst h1;subst t;exact⟨b,o,l,c0,c1⟩
theorem JJ (F:At w A (pv st)) (n cap:Nat) (G:n=st) (a0:n<=9223372036854775807):
  Calls prog 56 #[(A,n,cap)] w (bM w (fN st)):=by
 obtain⟨Ha,I,Q⟩:=bD F G (λa b W=>Uo a b W);have u:Hid (fN st=(st.all dS&&decide (st.length<=64))):=J rfl;clear F G;go_in;go_wp2;go_loopw [7] (λt wr=>∃k:Nat,k<=n/\t=k/\Hid ((st.take k).all dS=true)/\Hid (Below w w wr)) (λt _=>(n-intOf t).toNat);exact⟨0,cf _,rfl,J rfl,J (bf _ _)⟩;obtain⟨k,a4,rfl,D,hb⟩:=hrel;by_cases ab:k<n
 .have z:k<st:=iF;obtain⟨a1,a5,rfl,c0,c1⟩:=Dk (Ha.o.below hb.o) k z;have B:st.take (k+1)=st.take k++[st[k]]:=dK z;have M:st[k]∈st:=dt _;obtain⟨⟨a,c⟩,hs⟩:=ay st[k];rw[hs] at c0 c1 B M;simp only at c0 c1;have g:=J (hb.o.alloc hb.o.size (.cells #[a,c] 68));have p:=J (Q.o a c);have a2:(0:Int)<=k:=O;have a3:(k:Int)<n:=O;cases l:dS (a,c);.have E:Hid (fN st=false):=J (by rw[u.o,Ca];left;rw[IC];exact⟨_,M,by rw[l];decide⟩);rw[l] at p;go_wp21;refine aP (p.o _) λw1 q=>?_;have y:=J (g.o.trans (q.mono g.o.size));exact E7
  have S:Hid ((st.take (k+1)).all dS=true):=J (by rw[B,List.all_append,D.o];simp[l]);rw[l] at p;go_wp21;refine aP (p.o _) λw1 q=>?_;have y:=J (g.o.trans (q.mono g.o.size));go_wp2;refine⟨⟨k+1,ab,ci,S,y⟩,?_⟩;simp[intOf]<;>omega
 have R:k=n:=O;subst R;have E:Hid (fN st=decide ((k:Int)<=64)):=J (by have h:=D.o;rw[d' og] at h;rw[u.o,h,<-I.o,Bool.true_and];simp only[decide_eq_decide];omega);go_wp2;go_returns;exact⟨Z4 E.o.symm,hb.o⟩
end Go.Proofs.Y
namespace Wv
open Go.Proofs.Tryz Go Go.RowKit
theorem ZgZ (dv:ax->Bool) (st:List (Int×Int)) (vs:a') (k:Nat) (h:k<st) (g:k<vs):lI dv (st.drop k) (vs.drop k)=(fO dv st[k] (aH vs[k])&&lI dv (st.drop (k+1)) (vs.drop (k+1))):=by rw[kw h,kw g];rfl
end Wv
namespace Go.Proofs.Y
open Tryz Wv Go.RowKit
section
variable{A:bN}{l:a'}{st:List (Int×Int)}{v:aI}{w:aq}
def eN (l:a'):List aI:=l.map Value.string
theorem ZnT (l:a') (k:Nat) (h:k<l):(eN l)[k]? =some (.string l[k]):=by rw[eN,jX,fb h];rfl
theorem QB (g:At w A (eN l)) (k:Nat) (h:k<l):∃b o,A=some ⟨b,o,none⟩/\b<w.heap.size/\w.cell? ⟨b,o+k,none⟩=some (.string l[k]):=
 g.get k _ (ZnT l k h)
theorem Below.cellAt {w':aq} {B:Nat} (h:Below B w w') {p:Addr} (k:p.block<B) (g:w.cell? p=some v):w'.cell? p=some v:=by rw[World.cell?_of_block (h.block _ k)];exact g
theorem Um {W X:aq} {g p:Nat} {a c:Int} {v:aT} (k:W.heap=(w.alloc (.cells #[a,c] 68)).heap) (z:g<w) (y:w.cell? (g,p)=v) (hb:Below W W X):
  X.cell? (w,0)=a/\X.cell? (w,1)=c/\X.cell? (g,p)=v:=by
 have t:Bk W w 68 #[a,c]:=by unfold Bk;rw[k];exact Bk.new w 68 #[a,c]
 have l:=t.below hb t.lt;have u:W.cell? (g,p)=v:=by have q:(w.alloc (.cells #[a,c] 68)).cell? (g,p)=v:=Below.cellAt (((bf w w).alloc aU _)) z y;simp only[World.cell?,k] at q⊢;exact q
 exact⟨l.cell 0,l.cell 1,Below.cellAt hb (by rw[k];exact fj) u⟩
theorem JK {B:bN} {vs:a'} (a2:At w A (pv st)) (b4:At w B (eN vs)) (b3:gl w) (a8:∀s∈vs,s.size<=1099511627776) (n cap m c4:Nat) (a3:n=st) (b2:m=vs) (c3:n<=9223372036854775807) (d6:m<=9223372036854775807):
  Calls prog 24 #[(A,n,cap),(B,m,c4)] w (bM w (hQ Z3 st vs)):=by
 obtain⟨M,Ha,b9,b8,I,E⟩:=fA (JJ a2 n cap a3 c3) a2 b4 b3 a3 b2;have u:Hid (hQ Z3 st vs=(fN st&&lI Z3 st vs)):=J rfl;have b7:=J (λa b (s:aT) (h:s∈vs) W (a1:gl W)=>Sp a b (aH s) (by rw[Z2];exact a8 s h) a1);clear a2 b4 b3 a8 a3 b2;cases g:fN st;.rw[g] at M;have z:Hid (hQ Z3 st vs=false):=J Fl;clear g;go_in;go_wp21;refine aP M.o λw1 q=>?_;go_wp2;go_returns;exact⟨Z4 z.o.symm,q⟩
 rw[g] at M;have z:Hid (hQ Z3 st vs=lI Z3 st vs):=J Fl;clear g;by_cases c7:m=n
 .subst c7;go_in;go_wp21;refine aP M.o λw1 q=>?_;have b0:=J q;clear q;go_wp2;go_loopw [19] (λa5 wr=>∃k:Nat,k<=m/\a5=k/\Hid (lI Z3 st vs=lI Z3 (st.drop k) (vs.drop k))/\Hid (Below w w wr)) (λa5 _=>(m-intOf a5).toNat);exact⟨0,cf _,rfl,J rfl,b0⟩;clear b0;obtain⟨k,d4,rfl,t,hb⟩:=hrel;by_cases ab:k<m
  .have Q:k<st:=iF;have R:k<vs:=Fs;obtain⟨d1,d5,rfl,c0,c1⟩:=Dk (Ha.o.below hb.o) k Q;obtain⟨b1,a4,rfl,b6,d0⟩:=QB (b9.o.below hb.o) k R;have F:=ZgZ Z3 st vs k Q R;have l:=J (b7.o st[k].1 st[k].2 vs[k] (dt _));obtain⟨⟨a,c⟩,hs⟩:=ay st[k];rw[hs] at c0 c1 F l;simp only at c0 c1 l;rw[Zc] at l;generalize vs[k]=v at*;have a6:=J (λ(W X:aq) (a1:W.heap=(wr.alloc (.cells #[a,c] 68)).heap) (h:Below W.heap.size W X)=>Um (p:=a4+k) a1 b6 d0 h);have D:=J (hb.o.alloc hb.o.size (.cells #[a,c] 68));have h0:=a6.o (wr.alloc (.cells #[a,c] 68)).drew (wr.alloc (.cells #[a,c] 68)).drew rfl (bf _ _);have b5:=J (λ(X:aq) h=>a6.o (wr.alloc (.cells #[a,c] 68)).drew X rfl h);have a7:=J (b8.o.below D.o.drew);have d2:(0:Int)<=k:=O;have d3:(k:Int)<m:=O;cases y:fO Z3 (a,c) (aH v)
   .rw[y] at l;have G:Hid (hQ Z3 st vs=false):=J (by rw[z.o,t.o,F,y];rfl);clear F hs y Q R hb t;go_wp2
    go_region_held3 (λX=>X.cell? (wr,0)=a/\X.cell? (wr,1)=c/\X.cell? (b1,a4+k)=v) (first|with_reducible assumption) (first
     |(go_at_call 57;with_reducible refine(l.o _ a7.o).mono ?_;rintro r c8 ⟨rfl,aa⟩;have a0:=b5.o _ aa;have S:=J (D.o.drew.trans (aa.mono D.o.drew.size));clear aa));clear h0 a0;go_wp2;go_returns;exact⟨Z4 G.o.symm,S.o⟩
   rw[y] at l;have c6:Hid (lI Z3 st vs=lI Z3 (st.drop (k+1)) (vs.drop (k+1))):=J (by rw[t.o,F,y];rfl);clear F hs y Q R hb t;go_wp2
   go_region_held3 (λX=>X.cell? (wr,0)=a/\X.cell? (wr,1)=c/\X.cell? (b1,a4+k)=v) (first|with_reducible assumption) (first
    |(go_at_call 57;with_reducible refine(l.o _ a7.o).mono ?_;rintro r c8 ⟨rfl,aa⟩;have a0:=b5.o _ aa;have S:=J (D.o.drew.trans (aa.mono D.o.drew.size));clear aa));clear h0 a0;go_wp2;refine⟨⟨k+1,ab,ci,c6,S⟩,?_⟩;simp[intOf]<;>omega
  have c5:k=m:=O;subst c5;have G:Hid (hQ Z3 st vs=true):=J (by rw[z.o,t.o,oc og,oc Fq];rfl);clear t;go_wp2;go_returns;exact⟨Z4 G.o.symm,hb.o⟩
 have c9:((m:Int) !=n)=true:=eV;have G:Hid (hQ Z3 st vs=false):=J (by rw[z.o];cases h:lI Z3 st vs;rfl;have:=A8 h;have:=I.o;have:=E.o;omega);go_in;go_wp21;refine aP M.o λw1 q=>?_;go_wp2;go_returns;exact⟨Z4 G.o.symm,q⟩
theorem Qu:(prog.info? 9).map (λi=>(i.zero,i.size,i.bytes))=some (some (.string ByteArray.empty),1,16):=dw
def sV (w:aq) (v:aI) (l:a'):Prop:=∃A cap,v=.slice A l cap/\At w A (eN l)
theorem sV.nil (w:aq):sV w (.slice none 0 0) []:=⟨none,0,rfl,At.nil _ _⟩
theorem Zn2 {base e:Nat} (h:w.ownsRow base e 1 v l (eN l)):sV w v l:=E6
theorem X3 (l:a') (s:aT):eN (l++[s])=eN l++[.string s]:=by unfold eN;rw[jy];rfl
theorem Zgc (y:At w A (pv st)) (n cap:Nat) (z:n=st) (a4:n<=9223372036854775807):
  Calls prog 25 #[(A,n,cap)] w λx w'=>∃v,x=.returned v/\sV w' v (xD st)/\Below w w w':=by
 obtain⟨p,Ha,I,a3⟩:=dc (JJ y n cap z a4) y z (λa b W=>Zh2 a b W);have u:Hid (xD st=if fN st=false then[] else st.map (λs=>bs (qN s))):=J rfl;have a2:=J (λh=>(Dg (st:=st)).1 h);clear y z;cases g:fN st;.rw[g] at p;have l:Hid (xD st=[]):=J Fl;go_in;go_wp21;refine aP p.o λw1 q=>?_;go_wp2;go_returns;exact⟨_,rfl,by rw[l.o];exact sV.nil _,q⟩
 rw[g] at p;have l:Hid (xD st=st.map (λs=>bs (qN s))):=J Fl;obtain⟨b1,a1⟩:=a2.o g;have b8:=J b1;have c9:n<=64:=(by rw[I.o];exact a1);go_in;go_wp21;refine aP p.o λw1 q=>?_;have b0:=J q;go_wp2;go_loopw [3,11] (λs3 B wr=>∃k:Nat,k<=n/\B=k/\Hid (wr.ownsRow w 9 1 s3 k (eN ((st.take k).map (λs=>bs (qN s)))))/\Hid (Below w w wr)) (λ_ B _=>(n-intOf B).toNat);exact⟨0,cf _,rfl,J Zl,b0⟩;obtain⟨k,c8,rfl,t,hb⟩:=hrel;obtain⟨A5,b6,c3,_⟩:=Zh t.o;subst c3;by_cases ab:k<n
 .have E:k<st:=iF;obtain⟨c5,d1,rfl,c0,c1⟩:=Dk (Ha.o.below hb.o) k E;have F:st.take (k+1)=st.take k++[st[k]]:=dK E;have M:=b8.o st[k] (dt _);obtain⟨⟨a,c⟩,hs⟩:=ay st[k];rw[hs] at c0 c1 F M;simp only at c0 c1;have Q:=J (a3.o a c);rw[M,aQ rfl] at Q;have D:=J (hb.o.alloc hb.o.size (.cells #[a,c] 68));have a5:=J (Z6 t.o (Fr.of_below (S:=nob) ((bf wr wr).alloc aU (.cells #[a,c] 68))) (λ_ _ f=>f));have b7:=J (show eN ((st.take (k+1)).map (λs=>bs (qN s)))=eN ((st.take k).map (λs=>bs (qN s)))++[.string (bs (qN (a,c)))] by rw[F,jy,<-X3];rfl);have c6:(0:Int)<=k:=O;have c7:(k:Int)<n:=O;generalize bs (qN (a,c))=X at*;go_wp21;refine aP (Q.o _) λc4 aa=>?_;have a8:=Z6 a5.o (Fr.of_below (S:=nob) aa) (λ_ _ f=>f);have R:=D.o.trans (aa.mono D.o.size);obtain⟨d2,d3,a7,b2,a6,_⟩:=ZU (P:=prog) 23 9 _ _ underlying23 Qu rfl (w:=c4) a8 R R.size (.string X) rfl fU O;have b3:=J a7;have G:=J b2;rw[<-b7.o] at G;have b9:=J a6
  go_wp2_with (
   at_builtin;refine Z5 iG rfl _ _ _ rfl _ _ (by rfl) (by rfl) b3.o ?_);refine⟨⟨k+1,ab,ci,G,b9⟩,?_⟩;simp[intOf]<;>omega
 have b5:k=n:=O;subst b5;have b4:Hid (sV wr (.slice A5 k b6) (xD st)):=J (by have h:=t.o;rw[d' og,<-l.o] at h;have a0:(xD st)=k:=(by rw[l.o,c',<-I.o]);rw[<-a0] at h;have:=Zn2 h;rw[a0] at this;exact this);go_wp2;go_returns;exact⟨_,rfl,b4.o,hb.o⟩
end
variable{A:bN}{L:List (List (Int×aT))}{l:List (Int×Int)}{w:aq}
def pN (w:aq) (A:bN) (L:List (List (Int×aT))):Prop:=
 ∀i (h:i<L.length),∃b o B cap,A=some ⟨b,o,none⟩/\b<w.heap.size/\w.cell? ⟨b,o+i,none⟩=some (.slice B L[i].length cap)/\At w B (cv L[i])
theorem pN.below {w':aq} (h:pN w A L) (hb:Below w w w'):pN w' A L:=by intro i hi;obtain⟨b,o,B,cap,k,ab,h1,g⟩:=h i hi;exact⟨b,o,B,cap,k,eg ab hb.size,(hb.cell (p:=⟨b,_,none⟩) ab).trans h1,g.below hb⟩
theorem yh.b (h:yh w A L):pN w A L:=λi hi=>by obtain⟨b,o,B,cap,k,ab,h1,g,l⟩:=h i hi;exact⟨b,o,B,cap,k,ab,h1,g⟩
theorem ZV (M:At w A (pv l)) (k:Nat) (h:k<l):∃b o,A=some ⟨b,o,none⟩/\b<w.heap.size/\w.cell? ⟨b,o+k*2,none⟩=some (.int .i64 l[k].1)/\w.cell? ⟨b,o+k*2+1,none⟩=some (.int .i64 l[k].2):=by have q:=zf l k h;exact IK
theorem Zmx (st:List (Int×Int)) (n:Nat) (g:n=st):(((xD st).length:Int)==(n:Int))=fN st:=by subst g;unfold xD;cases k:fN st;rw[aQ rfl,lL];intro h;have:st=[]:=ia (by simp only[xa] at h;omega);subst this;cases k;rw[aD aY,c',ID]
theorem JU {st:List (Int×Int)} (k:At w A (pv st)) (n cap:Nat) (g:n=st) (t:n<=9223372036854775807):
  Calls prog 44 #[(A,n,cap)] w (bM w (fN st)):=by have p:=J (Zgc k n cap g t);have l:=J (Zmx st n g);clear k g;go_in;go_wp21;refine(p.o).mono ?_;rintro x w1 ⟨v,rfl,⟨A2,y,rfl,u⟩,hb⟩;have q:=J hb;clear hb u;go_wp2;go_returns;exact⟨Z4 l.o,q.o⟩
theorem Gj (a c:Int) (q:Bool) (lv:Int) (w:aq):
  Calls prog 50 #[.agg #[a,c],q,lv] w (bM w (eR (a,c) q lv)):=by
 have k:=J ((bf w w).alloc aU (.cells #[a,c] 68));have g:Hid (eR (a,c) q lv=(!q&&((lv==0)||(lv==1)&&(a !=3)))):=J rfl;generalize eR (a,c) q lv=R at*
 cases q<;>cases h0:(lv==0)<;>cases h1:(lv==1)<;>cases l:(a !=3)<;>(
  rw[h0,h1,l] at g;go_in;go_wp2;go_returns;exact⟨Z4 g.o.symm,k.o⟩)
theorem ZiL {f t a:Int} {k:Nat} (h:k<l):su f t a (l.drop k)=(decide (f+1<=l[k].1)&&decide (l[k].1<l[k].2)&&decide (l[k].2<=t+1)&&decide (a<l[k].1)&&su f t l[k].2 (l.drop (k+1))):=by rw[kw h];rfl
theorem Ty (M:At w A (pv l)) (n cap:Nat) (F:n=l) (a3:n<=9223372036854775807) (f t:Int) (b1: -1<=f) (a4:f<=4398046511104) (b3: -1<=t) (b8:t<=4398046511104):
  Calls prog 35 #[f,t,(A,n,cap)] w (bM w (mQ f t l)):=by
 have Ha:=J M;have I:=J F;have u:Hid (mQ f t l=(su f t f l&&decide (n<=16))):=J (by rw[F];rfl);have b4:IntKind.i64.wrap (f+1)=f+1:=lO;have b5:IntKind.i64.wrap (t+1)=t+1:=lO;clear M F;go_in;go_wp2;go_loopw [7,13] (λa2 G wr=>∃(k:Nat) (q:Int),k<=n/\G=k/\a2=q/\Hid (k=0->q=f)/\Hid (su f t f l=su f t q (l.drop k))/\Hid (Below w w wr)) (λ_ G _=>(n-intOf G).toNat);exact⟨0,f,cf _,rfl,rfl,J (λ_=>rfl),J rfl,J (bf _ _)⟩;obtain⟨k,q,b2,rfl,rfl,R,D,hb⟩:=hrel;by_cases ab:k<n;.have B:k<l:=iF;obtain⟨a5,b6,rfl,b7,c0,c1⟩:=ZV (Ha.o.below hb.o) k B;have z:=ZiL (f:=f) (t:=t) (a:=q) B;obtain⟨⟨x,y⟩,hs⟩:=ay l[k];rw[hs] at c0 c1 z;simp only at c0 c1 z;have p:=J (D.o.trans z);have Q:=J (hb.o.alloc hb.o.size (.cells #[x,y] 77));have a6:(0:Int)<=k:=O;have b0:(k:Int)<n:=O;have a1:k=0->q=f:=R.o;clear z hs B D R;by_cases S:x<f+1;have E:Hid (mQ f t l=false):=J (by rw[u.o,p.o,cI (show ¬f+1<=x by omega)];rfl);exact E9;by_cases c2:y<=x;have E:Hid (mQ f t l=false):=J (by rw[u.o,p.o,cI (show ¬x<y by omega)];simp);exact E9;by_cases a7:t+1<y;have E:Hid (mQ f t l=false):=J (by rw[u.o,p.o,cI (show ¬y<=t+1 by omega)];simp);exact E9;by_cases a8:(0:Int)<k;by_cases a9:x<=q;have E:Hid (mQ f t l=false):=J (by rw[u.o,p.o,cI (show ¬q<x by omega)];simp);exact E9;have g:Hid (su f t f l=su f t y (l.drop (k+1))):=J (by rw[p.o,dd (show f+1<=x by omega),dd (show x<y by omega),dd (show y<=t+1 by omega),dd (show q<x by omega)];rfl);exact Oy;have g:Hid (su f t f l=su f t y (l.drop (k+1))):=J (by rw[p.o,dd (show f+1<=x by omega),dd (show x<y by omega),dd (show y<=t+1 by omega),dd (show q<x by have:=a1 O;omega)];rfl);exact Oy
 have a0:k=n:=O;subst a0;have E:Hid (mQ f t l=decide ((k:Int)<=16)):=J (by rw[u.o,D.o,List.drop_of_length_le og];show(true&&decide (k<=16))=_;rw[Bool.true_and,decide_eq_decide];omega);go_wp2;go_returns;exact⟨Z4 E.o.symm,hb.o⟩
end Go.Proofs.Y
namespace Wv
open Go.Proofs.Tryz Go Go.RowKit Go.Proofs.Y
variable{B:bN}{l:List (Int×aT)}{xs:List aI}
def pm (w:aq) (xs:List aI) (L:List (List (Int×aT))):Prop:=
 xs.length=L/\∀i (h:i<L.length),∃B cap,xs[i]? =some (.slice B L[i].length cap)/\At w B (cv L[i])
theorem pm.below {w w':aq} {L:List (List (Int×aT))} (h:pm w xs L) (hb:Below w w w'):pm w' xs L:=
 ⟨h.1,λi hi=>by obtain⟨B,cap,h1,g⟩:=h.2 i hi;exact⟨B,cap,h1,g.below hb⟩⟩
theorem pm.keep {w w':aq} {S:Nat->Prop} {L:List (List (Int×aT))} (h:pm w xs L) (l:Fr S w w') (k:∀i (hi:i<L.length),L[i]≠[]->∀(B:bN) (n c:Nat),xs[i]? =some (Value.slice B n c)->∀b o,B=some ⟨b,o,none⟩->¬S b):pm w' xs L:=
 ⟨h.1,λi hi=>by obtain⟨B,cap,h1,g⟩:=h.2 i hi;refine⟨B,cap,h1,?_⟩;by_cases h0:L[i]=[];rw[h0];exact At.nil _ _;exact g.keep l (k i hi h0 B _ _ h1)⟩
theorem Zoo {w:aq} (h:At w B (cv l)) (h0:l≠[]) (b o:Nat) (g:B=some ⟨b,o,none⟩):b<w:=by
 match l,h0 with
 |c::r,_=>obtain⟨k,q,h1,p,_⟩:=h 0 (by unfold cv;simp);rw[g] at h1;injection h1 with h1;injection h1 with h1 _;omega
theorem pm.nil (w:aq):pm w [] []:=⟨rfl,λi hi=>absurd hi (vL _)⟩
theorem pm.snoc {w:aq} {L:List (List (Int×aT))} (h:pm w xs L) (cap:Nat) (u:At w B (cv l)):pm w (xs++[.slice B l cap]) (L++[l]):=by refine⟨by rw[bV,bV,h.1];rfl,λi hi=> ?_⟩;rw[bV,pg] at hi;rcases Nat.lt_or_ge i L.length with h1|h1;obtain⟨k,p,q,t⟩:=h.2 i h1;grind;have g:i=L.length:=O;subst g;refine⟨B,cap,?_,?_⟩;rw[pO (by rw[h.1];grind),h.1,fh];simp;grind
theorem pm.chb {w:aq} {A:bN} {L:List (List (Int×aT))} (h:pm w xs L) (g:At w A xs):pN w A L:=by intro i hi;obtain⟨B,cap,h1,k⟩:=h.2 i hi;obtain⟨b,o,l,ab,p⟩:=g.get i _ h1;grind
def rf (Y:Nat) (w:aq) (A:bN) (L:List (List (Int×aT))):Prop:=∃xs,pm w xs L/\At w A xs/\(∀b o,A=some ⟨b,o,none⟩->Y<=b)/\∀(i:Nat) (hi:i<L),L[i]≠[]->∀(B:bN) (n c:Nat),xs[i]? =some (Value.slice B n c)->∀b o,B=some ⟨b,o,none⟩->Y<=b
section
variable {Y Y':Nat} {w w':aq} {A:bN} {L:List (List (Int×aT))}
theorem rf.b (h:rf Y w A L):pN w A L:=by obtain⟨xs,h1,g,_⟩:=h;exact h1.chb g
theorem rf.keep {S:Nat->Prop} (h:rf Y w A L) (g:Fr S w w') (u:∀k,S k->k<Y):rf Y w' A L:=by obtain⟨xs,h1,l,p,q⟩:=h;exact⟨xs,h1.keep g (λi hi h0 B n c e b o t k=>aO),l.keep g (λb o e k=>aO),p,q⟩
theorem rf.below (h:rf Y w A L) (hb:Below w w w'):rf Y w' A L:=h.keep (Fr.of_below (S:=nob) hb) (λ_ k=>k.elim)
theorem rf.mono (h:rf Y w A L) (g:Y'<=Y):rf Y' w A L:=by obtain⟨xs,h1,l,p,q⟩:=h;exact⟨xs,h1,l,λb o e=>co g (p b o e),λi hi h0 B n c e b o k=>co g (q i hi h0 B n c e b o k)⟩
end
end Wv
namespace Go.Proofs.Y
open Tryz Wv Go.RowKit
theorem WL (d:aT) (a b:Nat):d.extract a (a+b)=bs (((aH d).drop a).take b):=by apply xc;apply pS.1;simp only[bs,aH,ByteArray.data_extract,Array.toList_extract,List.extract_eq_take_drop,Cc];rw[show a+b-a=b from by exact O]
theorem ZaU (d:aT) (hd:d.size<=1099511627776) (o l:Int) (w:aq):
  Calls prog 381 #[d,o,l] w λx w'=>x=.returned (.tuple (if pJ d.size (o,l)=false then #[.string ⟨#[]⟩,(2:Int)] else #[bs (tI (aH d) (o,l)),(0:Int)]))/\w=w':=by cases Q:pJ d.size (o,l);rw[aQ rfl];have t:o<0\/l<0\/(d.size:Int)<o\/(d.size:Int)-o<l:=Rh;clear Q;by_cases h1:o<0;exact xf;by_cases g:l<0;exact xf;by_cases k:(d.size:Int)<o;exact xf;have p:(d.size:Int)-o<l:=O;exact xf;rw[aD aY];unfold pJ at Q;simp only[gm,fq] at Q;obtain⟨⟨⟨h1,g⟩,k⟩,p⟩:=Q;obtain⟨a,rfl⟩:=Int.eq_ofNat_of_zero_le h1;obtain⟨b,rfl⟩:=Int.eq_ofNat_of_zero_le g;have q:Hid (bs (tI (aH d) ((a:Int),(b:Int)))=d.extract a (a+b)):=J (WL d a b).symm;have u:¬(a:Int)<0:=O;have y:¬(b:Int)<0:=O;have z:¬(d.size:Int)<a:=O;have B:¬(d.size:Int)-a<(b:Int):=O;rw[q.o];exact xf
theorem ZO {α:Type} {l:List α} {i:Nat} (d:α) (h:i<l):l.getD i d=l[i]:=by rw[pf,fb h];rfl
abbrev iC (f t:Int) (A1:bN) (n1 k1:Nat) (A2:bN) (n2 k2:Nat) (A3:bN) (n3 k3:Nat):Array aI:= #[.int .i64 f,.int .i64 t,.slice A1 n1 k1,.slice A2 n2 k2,.slice A3 n3 k3]
theorem ZhE {w:aq} {A1 A2 A3:bN} {vs:a'} {ch:List (List dO)} (h1:At w A1 (eN vs)) (G:pN w A2 ch) (f t:Int) (n1 k1 n2 k2 n3 k3:Nat) (a4:n1=vs) (a5:n2=ch) (i:Nat) (D:i<vs) (q:i<ch)
  (b8:n1<=9223372036854775807) (b9:n2<=9223372036854775807) (R:∀l∈ch,l.length<=9223372036854775807) (g:Int):
  Calls prog 39 #[.agg (iC f t A1 n1 k1 A2 n2 k2 A3 n3 k3),i,g] w (bM w (ti (jU vs i) (fG ch i) g)):=by
 obtain⟨b1,a7,rfl,q1,c1⟩:=QB h1 i D;obtain⟨a2,a8,B,b7,rfl,q2,c2,M⟩:=G i q;have a6:=R _ (dt q);rw[show jU vs i=vs[i] from ZO _ D,show fG ch i=ch[i] from ZO _ q];generalize vs[i]=b at*;generalize ch[i]=l at*;obtain⟨n,z⟩:=ay l.length;rw[z] at c2 a6;have i0:(0:Int)<=i:=O;have i1:(i:Int)<n1:=O;have b6:(i:Int)<n2:=O;obtain⟨I,S,a1⟩:=bD z M ((bf w w).alloc aU (.cells (iC f t (some ⟨b1,a7,none⟩) n1 k1 (some ⟨a2,a8,none⟩) n2 k2 A3 n3 k3) 27));clear h1 G R z M a4 a5 D q;go_in;go_wp2;go_loopw [7,21] (λa9 y wr=>∃(k:Nat) (d:aT),k<=n/\y=k/\a9=.string d/\Hid (d=ti b (l.take k) g)/\Hid (Below w w wr)) (λ_ y _=>(n-intOf y).toNat);exact⟨0,b,cf _,rfl,rfl,J rfl,a1⟩;obtain⟨k,d,b5,rfl,rfl,hd,hb⟩:=hrel;by_cases ab:k<n
 .have E:k<l.length:=xh;obtain⟨b0,c3,rfl,c4,c0,c1⟩:=xx (S.o.below hb.o) k E;have p:=Vp g (l.take k) b l[k];rw[<-dK E,<-hd.o] at p;obtain⟨⟨x,v⟩,hs⟩:=ay l[k];rw[hs] at c0 c1 p;simp only at c0 c1 p;have F:=J (hb.o.alloc hb.o.size (.cells #[x,v] 81));have b3:(0:Int)<=k:=O;have b4:(k:Int)<n:=O;by_cases Q:x<=g;.have u:=J (p.trans (aQ Q));go_wp2;refine⟨⟨k+1,v,ab,ci,rfl,J u.o.symm,J F.o⟩,?_⟩;simp[intOf]<;>omega
  have u:=J (p.trans (aD Q));go_wp2;refine⟨⟨k+1,d,ab,ci,rfl,J u.o.symm,J F.o⟩,?_⟩;simp[intOf]<;>omega
 have a3:k=n:=O;subst a3;have a0:Hid (d=ti b l g):=J (by rw[hd.o,d' og]);go_wp2;go_returns;exact⟨Bc a0.o,hb.o⟩
variable{st:List (Int×Int)}{vs:a'}
theorem Zc7 (F G:aI) (w:aq):(Instr.field 121 (.agg #[F,G]) 0).run prog w=.ok F w:=dw
theorem Zq0 (h:hQ Z3 st vs=false):ei Z3 st vs=([],1):=by unfold ei;rw[aQ h]
theorem ZnA (h:hQ Z3 st vs=true) (g:ZJ st vs=[]):ei Z3 st vs=([],0):=by unfold ei;rw[aD uK,aQ g]
theorem ZjW {d:ax} (h:hQ Z3 st vs=true) (g:ZJ st vs≠[]) (k:Zo 4 (ZJ st vs)=some d):ei Z3 st vs=(d,0):=by unfold ei;rw[aD uK,aD g,k]
theorem ZjV (h:hQ Z3 st vs=true) (g:ZJ st vs≠[]) (k:Zo 4 (ZJ st vs)=none):ei Z3 st vs=([],9):=by unfold ei;rw[aD uK,aD g,k]
theorem RZ {w:aq} {A B:bN} (c9:At w A (pv st)) (a4:At w B (eN vs)) (e6:gl w) (d7:∀s∈vs,s.size<=1099511627776) (n cap m g0:Nat) (d1:n=st) (e5:m=vs) (h5:n<=9223372036854775807) (i3:m<=9223372036854775807):
  Calls prog 32 #[(A,n,cap),(B,m,g0)] w (bM w (.tuple #[bs (ei Z3 st vs).1,((ei Z3 st vs).2:Int)])):=by
 have I:=J (JK c9 a4 e6 d7 n cap m g0 d1 e5 h5 i3);cases b4:hQ Z3 st vs;.rw[b4] at I;rw[Zq0 b4];clear c9 a4 e6 d7 d1 e5 b4;go_in;go_wp21;refine aP I.o λw1 z=>?_;exact ER
 rw[b4] at I;have h4:fN st=true/\lI Z3 st vs=true:=by have:(fN st&&lI Z3 st vs)=true:=b4;rwa [gm] at this
 obtain⟨f9,b0⟩:=h4;obtain⟨f8,g9⟩:=Dg.1 f9;have a7:=A8 b0;obtain⟨h8,f6,i4,E,Ha,h3⟩:=fA (λk h b9=>Dh Z3 b0 k h b9) (λk=>Kv b0 k) d1 (show m=st by omega) c9 a4;have g4:=J a7;have j0:n<=64:=O;have f4:=J f8;have d6:=J b4;have i1:m=n:=O;subst i1;have y:Hid (∀x,ei Z3 st vs=x->ei Z3 st vs=x):=J (λ_ h=>h);generalize e3:ei Z3 st vs=X;rw[e3] at y;have d5:=J e3;clear e3 y;clear c9 a4 e6 d7 d1 e5 b4 f9 b0 f8 g9 a7;go_in;go_wp21;refine aP I.o λw1 z=>?_;have f7:=J z;have h9:∀F G W,(Instr.field 121 (.agg #[F,G]) 0).run prog W=.ok F W:=λF G W=>Zc7 F G W;clear z;go_wp2;go_loopw [6,17] (λi2 d3 wr=>∃k:Nat,k<=m/\d3=(k:Int)/\i2=.string (bs (ZJ (st.take k) (vs.take k)))/\Hid (Below w w wr)) (λ_ d3 _=>(m-intOf d3).toNat);exact⟨0,cf _,rfl,by rw[qA,qA];rfl,f7⟩;clear f7 I;obtain⟨k,i8,rfl,rfl,hb⟩:=hrel;by_cases ab:k<m
 .have b7:k<st.length:=Fs;have d2:k<vs.length:=(by rw[g4.o];exact b7);obtain⟨i5,j1,rfl,c0,c1⟩:=Dk (Ha.o.below hb.o) k b7;obtain⟨c5,c3,rfl,g8,d0⟩:=QB (h3.o.below hb.o) k d2;have d8:=JN st vs k b7 d2;have b2:=h8.o k b7 d2;have h7:=(f6.o k).1;obtain⟨g1,f2⟩:=Hq b2;obtain⟨⟨a,c⟩,hs⟩:=ay st[k];rw[hs] at c0 c1 d8 b2 g1;simp only at c0 c1;generalize vs[k]=v at*;have d4:dS (a,c)=true:=(by unfold fO at b2;rw[gm] at b2;exact b2.1);have i0:a=0\/a=1\/a=2\/a=3:=by rcases XJ d4 with h|⟨h|h|h,_⟩<;>simp at h<;>omega
  have a3:=J (λ(X:aq) (h:Below (wr.alloc (.cells #[a,c] 68)).drew (wr.alloc (.cells #[a,c] 68)).drew X)=>Um (p:=c3+k) (W:=(wr.alloc (.cells #[a,c] 68)).drew) rfl g8 d0 h);have a5:=J ((hb.o.alloc hb.o.size (.cells #[a,c] 68)).drew);have h0:=a3.o (wr.alloc (.cells #[a,c] 68)).drew (bf _ _);have i6:(0:Int)<=k:=O;have i7:(k:Int)<m:=O;have f5:bs (ZJ (st.take (k+1)) (vs.take (k+1)))=bs (ZJ (st.take k) (vs.take k))++bs (ko (a,c) (aH v)):=(by rw[d8,Z9]);have a0:(bs (ZJ (st.take k) (vs.take k))).size+(bs (ko (a,c) (aH v))).size<=9223372036854775807:=(by rw[Z0,Z0];omega);obtain⟨q,I,b8⟩:=bD f5 b2 d4;have b0:(aH v).length<=128:=f2;have f3:=J b0;clear d8 b2 h7 g1 f2 hs f5 d4 b7 d2 hb b0;obtain⟨T,g3⟩:=ay (bs (ZJ (st.take k) (vs.take k)));rw[g3] at q a0⊢;clear g3;rcases i0 with rfl|rfl|rfl|rfl
  .obtain⟨g5,g7⟩:=XI b8.o rfl;simp only at g5 g7;obtain⟨N,rfl⟩:∃N:Nat,c=(N:Int):=⟨c.toNat,O⟩;have a4:=I.o;have g6:fs (aH v)=true:=by unfold fO sD at a4;rw[gm] at a4;have b9:gH (N:Int) (aH v)=true:=a4.2;unfold gH at b9;rw[gm] at b9;exact b9.1
   have a9:=J (λW=>Rz N O W);have y:=J (λW=>ZlJ (aH v) g6 W);rw[Zc] at y;have M:ko (0,(N:Int)) (aH v)=ct (kA (aH v))++ct (kz (aH v)):=(by unfold ko;rw[aQ rfl]);rw[M] at q a0;clear a4 g6 M g5 g7 I b8;generalize bs (ct (kA (aH v))++ct (kz (aH v)))=R at*;have e9:¬9223372036854775807<T.size+R.size:=O;clear a0;go_wp2
   go_region_held3 (λX=>X.cell? (wr,0)=(0:Int)/\X.cell? (wr,1)=N/\X.cell? (c5,c3+k)=v) (first|with_reducible assumption) (first
    |(go_at_call 67;with_reducible refine(a9.o _).mono ?_;rintro r c4 ⟨b1,b3,rfl,_,_,aa⟩;have g:=a3.o _ aa;have u:=J aa;clear aa)
    |(go_at_call 91;with_reducible refine(y.o _).mono ?_;rintro r e8 ⟨rfl,a6⟩;have t:=u.o.trans (a6.mono u.o.size);have l:=a3.o _ t;clear a6;have a1:=J (a5.o.trans (t.mono a5.o.size));clear t));exact EH
  .have a9:=J (λW=>RA c W);have y:=J (λW=>X1 v (by have:=f3.o;rw[Z2] at this;omega) W);have M:ko (1,c) (aH v)=text v:=PH;rw[M] at q a0;clear M I b8;generalize bs (text v)=R at*;have e9:¬9223372036854775807<T.size+R.size:=O;clear a0;go_wp2
   go_region_held3 (λX=>X.cell? (wr,0)=(1:Int)/\X.cell? (wr,1)=c/\X.cell? (c5,c3+k)=v) (first|with_reducible assumption) (first
    |(go_at_call 67;with_reducible refine(a9.o _).mono ?_;rintro r c4 ⟨rfl,aa⟩;have g:=a3.o _ aa;have u:=J aa;clear aa)
    |(go_at_call 78;with_reducible refine(y.o _).mono ?_;rintro r e8 ⟨rfl,a6⟩;have t:=u.o.trans (a6.mono u.o.size);have l:=a3.o _ t;clear a6;have a1:=J (a5.o.trans (t.mono a5.o.size));clear t));exact EH
  .have a9:=J (λW=>RB c W);have y:=J (λW=>X1 v (by have:=f3.o;rw[Z2] at this;omega) W);have M:ko (2,c) (aH v)=text v:=PH;rw[M] at q a0;clear M I b8;generalize bs (text v)=R at*;have e9:¬9223372036854775807<T.size+R.size:=O;clear a0;go_wp2
   go_region_held3 (λX=>X.cell? (wr,0)=(2:Int)/\X.cell? (wr,1)=c/\X.cell? (c5,c3+k)=v) (first|with_reducible assumption) (first
    |(go_at_call 67;with_reducible refine(a9.o _).mono ?_;rintro r c4 ⟨rfl,aa⟩;have g:=a3.o _ aa;have u:=J aa;clear aa)
    |(go_at_call 78;with_reducible refine(y.o _).mono ?_;rintro r e8 ⟨rfl,a6⟩;have t:=u.o.trans (a6.mono u.o.size);have l:=a3.o _ t;clear a6;have a1:=J (a5.o.trans (t.mono a5.o.size));clear t));exact EH
  have a9:=J (λW=>RC c W);have y:=J (λW=>ZlK v W);have M:bs (ko (3,c) (aH v))=⟨#[]⟩:=(by unfold ko;rw[aD (by simp),aQ rfl];rfl);rw[M] at q a0;clear M I b8;generalize (⟨#[]⟩:aT)=R at y q a0;have e9:¬9223372036854775807<T.size+R.size:=O;clear a0;go_wp2
  go_region_held3 (λX=>X.cell? (wr,0)=(3:Int)/\X.cell? (wr,1)=c/\X.cell? (c5,c3+k)=v) (first|with_reducible assumption) (first
   |(go_at_call 67;with_reducible refine(a9.o _).mono ?_;rintro r c4 ⟨rfl,aa⟩;have g:=a3.o _ aa;have u:=J aa;clear aa)
   |(go_at_call 98;with_reducible refine(y.o _).mono ?_;rintro r e8 ⟨rfl,rfl⟩;have t:=u.o;have l:=a3.o _ t;have a1:=J (a5.o.trans (t.mono a5.o.size));clear t));exact EH
 have h6:k=m:=O;subst h6;have c7:st.take k=st:=d' Fq;have c8:vs.take k=vs:=d' (by rw[g4.o,<-E.o];exact aU);have e4:=(f6.o k).2;rw[c7,c8];have e7:=E.o;by_cases a8:ZJ st vs=[];.have Q:=d5.o;rw[ZnA d6.o a8] at Q;have b6:=J Q.symm;have c6:=YU ([]:ax);rw[dd rfl] at c6;rw[a8];clear e4 e7 Q a8 c7 c8;generalize bs ([]:ax)=S0 at c6⊢;go_wp2;go_returns;exact⟨by rw[b6.o];rfl,hb.o⟩
 have c6:=YU (ZJ st vs);rw[cI a8] at c6;have a2:=J (λW=>Dj 4 O (ZJ st vs) O W);have d9:rJ 4 (ZJ st vs)=.agg #[(4:Int),bs (ZJ st vs)]:=rfl;rw[d9] at a2;rcases b5:Zo 4 (ZJ st vs) with _|d
 .have Q:=d5.o;rw[ZjV d6.o a8 b5] at Q;have b6:=J Q.symm;rw[b5] at a2;unfold mV at a2;simp only at a2;clear e4 e7 Q a8 c7 c8 b5 d9;generalize bs (ZJ st vs)=S at*;go_wp21;with_reducible refine(a2.o _).mono ?_
  rintro x c4 ⟨rfl,aa⟩;have u:=J (hb.o.trans (aa.mono hb.o.size));clear aa;go_wp2;go_returns;exact⟨by rw[b6.o];rfl,u.o⟩
 have Q:=d5.o;rw[ZjW d6.o a8 b5] at Q;have b6:=J Q.symm;rw[b5] at a2;unfold mV at a2;simp only at a2;clear e4 e7 Q a8 c7 c8 b5 d9;generalize bs (ZJ st vs)=S at*;generalize g2:bs d=D at*;have h1:=J g2;clear g2;go_wp21;with_reducible refine(a2.o _).mono ?_
 rintro x c4 ⟨rfl,aa⟩;have u:=J (hb.o.trans (aa.mono hb.o.size));clear aa;go_wp2;go_returns;exact⟨by rw[b6.o,<-h1.o];rfl,u.o⟩
end Go.Proofs.Y
namespace Wv
open Go.Proofs.Tryz Go Go.RowKit
variable{c d:ax}{k n:Nat}{st:List (Int×Int)}
theorem ZpZ (h:fN st=false):kD Z3 st d=([],1):=by unfold kD;rw[aQ h]
theorem Zr0 (h:fN st=true) (g:sJ d=none):kD Z3 st d=([],12):=by unfold kD;rw[aD uK,g]
theorem Zr1 {T:ax} (h:fN st=true) (g:sJ d=some T):kD Z3 st d=match ra st T with
  |none=>([],12)
  |some (vs,r)=>if r=[]/\hQ Z3 st vs=true then(vs,0) else([],12):=by unfold kD;rw[aD uK,g];rfl
theorem Ze3 {data:ax} (h:ZI data=some (k,c,n)):c.length<=1000000000:=by have h1:=(XU h).1;have g:=X7 (k:=k) (c:=c);rw[h1] at g;have:=of_decide_eq_true g.symm;omega
theorem ZnB:sJ []=some []:=by unfold sJ;rw[aQ rfl]
theorem Zq1 (h:d≠[]) (g:ZI d=none):sJ d=none:=by unfold sJ;rw[aD h,g]
theorem ZjX (h:d≠[]) (g:ZI d=some (k,c,n)):sJ d=if n=d/\k=4/\c≠[] then some c else none:=by unfold sJ;rw[aD h,g]
end Wv
namespace Go.Proofs.Y
open Tryz Wv Go.RowKit
variable{st:List (Int×Int)}{w:aq}
theorem Zc8 (F G:aI) (w:aq):(Instr.field 121 (.agg #[F,G]) 1).run prog w=.ok G w:=dw
theorem Zqk (s:aT) (w:aq):cK 80 #[s] w λe w'=>∃b,e=.returned (.pointer (some ⟨b,0,none⟩))/\RV w' b s 0/\w.heap.size<=b/\Below w w w':=
 (ZT s w).mono λe w' h=>⟨_,h.1,h.2.1,aU,h.2.2⟩
def Es (st:List (Int×Int)) (T:ax) (k:Nat) (g:a') (t:aT) (e:Nat):Prop:=(e=0->ra (st.take k) T=some (g,aH t))/\(e≠0->ra (st.take k) T=none)
theorem ZfA {T:ax} {k:Nat} {q:a'} {t v B:aT} {e y:Nat} (E:k<st) (D:B5 st[k] t e v B y) (h:Es st T k q t e):Es st T (k+1) (q++[v]) B y:=by have g:=UB st k E T;obtain⟨F,G,_⟩:=D;by_cases u:e=0;rw[h.1 u] at g;simp only at g;have l:=G u;rcases z:jH st[k] (aH t) with _|p;rw[z] at g l;simp only at g l;exact⟨λh=>absurd h l,λ_=>g⟩;obtain⟨x,r⟩:=p;rw[z] at g l;simp only at g l;obtain⟨q1,q2,q3⟩:=l;rw[q1,q2];exact⟨λ_=>g,λh=>absurd q3 h⟩;rw[h.2 u] at g;exact⟨λh=>absurd h (F u),λ_=>g⟩
def BI (w:aq) (r:a'×Nat) (x:Ending) (w':aq):Prop:=∃v,x=.returned (.tuple #[v,r.2])/\sV w' v r.1/\Below w w w'
theorem Qe {w':aq} (e:Nat) (hb:Below w w w'):BI w ([],e) (.returned (.tuple #[.slice none 0 0,e])) w':=⟨_,rfl,sV.nil _,hb⟩
theorem Z90 {A:bN} (l7:At w A (pv st)) (data:ax) (hd:data.length<=1000000000) (m6:gl w) (n cap:Nat) (l5:n=st) (m8:n<=9223372036854775807):
  Calls prog 49 #[(A,n,cap),bs data] w λx w'=>BI w (kD Z3 st data) x w':=by
 have l:=J (JJ l7 n cap l5 m8);cases k8:fN st;.rw[k8] at l;rw[ZpZ k8];clear l7 l5 k8 m6 hd;generalize bs data=S at*;go_in;go_wp21;refine aP l.o λw1 z=>?_;go_wp2;go_returns;exact Qe 1 z
 rw[k8] at l;obtain⟨n0,n3⟩:=Dg.1 k8;have n7:n<=64:=O;obtain⟨g5,I,Ha,d9,a0,k9⟩:=fA n0 l5 l7 m6 (λ(W:aq) (A B:bN) (vs:a') h1 h2 a7 h4 cap m bd h5 h6=>JK (w:=W) (A:=A) (B:=B) (st:=st) (vs:=vs) h1 h2 a7 h4 n cap m bd l5 h5 m8 h6) (λh=>Zr0 (d:=data) k8 h);have l0:=J (λT h=>Zr1 (d:=data) (T:=T) k8 h);have n4:∀F G W,(Instr.field 121 (.agg #[F,G]) 1).run prog W=.ok G W:=λF G W=>Zc8 F G W;have n1:=YU data;have u:=J (λW=>JR data hd W);have l9:(bs data).size=data:=Z0 data;generalize n2:kD Z3 st data=X;rw[n2] at k9 l0;clear l7 l5 k8 n0 n3 m6 n2;by_cases k7:data=[];.have m4:sJ data=some []:=(by rw[k7];exact ZnB);rw[dd k7] at n1;obtain⟨T,m1⟩:∃T:ax,[]=T:=⟨_,rfl⟩;rw[m1] at m4;have h9:Hid (T.length<=1000000000):=J (by rw[<-m1];exact cf _);have h0:Hid (bs T=⟨#[]⟩):=J (by rw[<-m1];rfl);have g9:=J (l0.o T m4);have g4:=J (λW=>Zqk ⟨#[]⟩ W);clear m1 k7 hd u l9 m4 l0 k9;generalize bs data=S at*;go_in;go_wp21;refine aP l.o λw1 z=>?_;have a2:=J z;clear z;exact WP
 rw[cI k7] at n1;rcases E:ZI data with _|p;.have l1:ux data=.tuple #[.agg #[(0:Int),.string ⟨#[]⟩],(0:Int),(12:Int)]:=Fe;rw[l1] at u;have c7:=J (k9.o (Zq1 k7 E));clear l1 E k7 l9 k9 l0 a0;generalize bs data=S at*;go_in;go_wp21;refine aP l.o λw1 z=>?_;have a2:=J z;clear z;go_wp21;refine aP (u.o _) λw2 aa=>?_;have M:=a2.o.trans (aa.mono a2.o.size);have a1:=J (M.alloc M.size (.cells #[(0:Int),.string ⟨#[]⟩] 87));clear aa M;go_wp2;go_returns;rw[c7.o];exact Qe 12 a1.o
 obtain⟨kk,c,q⟩:=p;have l1:ux data=.tuple #[.agg #[kk,bs c],q,(0:Int)]:=Fo;rw[l1] at u;have l2:=ZjX k7 E;have m3:=Ze3 E;have l6:=YU c;by_cases R:q=data/\kk=4/\c≠[];.rw[aQ R] at l2;obtain⟨g1,g2,g3⟩:=R;rw[cI g3] at l6;have l8:((q:Int) !=data.length)=false:=(by rw[g1];exact yx _);subst g2;have h9:=J m3;have h0:Hid (bs c=bs c):=J rfl;have g9:=J (l0.o c l2);have g4:=J (λW=>Zqk (bs c) W);clear l1 E k7 l2 m3 g1 g3 k9 l0;obtain⟨dl,l3⟩:=ay data.length;rw[l3] at l8 l9;clear l3 hd;generalize bs data=S at*;obtain⟨y,m2⟩:=ay (bs c);have h0:Hid (bs c=y):=J m2;rw[m2] at g4 l6 u;clear m2;go_in;go_wp21;refine aP l.o λw1 z=>?_;have m7:=J z;clear z;go_wp21;refine aP (u.o _) λn6 aa=>?_;have M:=m7.o.trans (aa.mono m7.o.size);have a2:=J (M.alloc M.size (.cells #[(4:Int),y] 87));clear aa M m7;generalize m5:c=T at*;clear m5;exact WP
 rw[aD R] at l2;have c7:=J (k9.o l2)
 have m9:q≠data\/(q=data/\kk≠4)\/(q=data/\kk=4/\c=[]):=by
  by_cases h1:q=data;.by_cases h2:kk=4;by_cases a7:c=[];exact .inr (.inr ⟨h1,h2,a7⟩);exact absurd ⟨h1,h2,a7⟩ R;exact .inr (.inl ⟨h1,h2⟩)
  exact .inl h1
 clear l1 E k7 R l2 m3 k9 l0 a0;obtain⟨dl,l3⟩:=ay data.length;rw[l3] at m9 l9;clear l3 hd;generalize bs data=S at*;rcases m9 with g1|⟨g1,g2⟩|⟨g1,g2,g3⟩;have l8:((q:Int) !=dl)=true:=eV;clear g1 l6;exact Np;have l8:((q:Int) !=dl)=false:=(by rw[g1];exact yx _);have n5:((kk:Int) !=4)=true:=eV;clear g1 g2 l6;exact Np;have l8:((q:Int) !=dl)=false:=(by rw[g1];exact yx _);subst g2;rw[dd g3] at l6;clear g1 g3;generalize bs c=y at*;go_in;go_wp21;refine aP l.o λw1 z=>?_;have a2:=J z;clear z;go_wp21;refine aP (u.o _) λw2 aa=>?_;have M:=a2.o.trans (aa.mono a2.o.size);have a1:=J (M.alloc M.size (.cells #[(4:Int),y] 87));clear aa M;go_wp2;go_returns;rw[c7.o];exact Qe 12 a1.o
