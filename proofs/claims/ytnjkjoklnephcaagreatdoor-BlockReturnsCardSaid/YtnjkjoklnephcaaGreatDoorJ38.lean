import Derived.Test.YtnjkjoklnephcaaGreatDoorJ28
import Derived.Test.YtnjkjoklnephcaaGreatDoorJ37
set_option linter.all false
set_option maxRecDepth 100000
set_option maxHeartbeats 0
section
variable{P Q:Prop}
theorem Fs(h:P:=by rw[u.o,l];rfl):P:=h
theorem E9(h:P:=by go_wp2;go_returns;exact⟨Z4 E.o.symm,F.o⟩):P:=h
theorem E'{P:Prop}(h:P:=by go_wp2;go_returns;exact⟨Z4 E.o.symm,a1.o⟩):P:=h
theorem RA(h:P:=by unfold pN at a0;simp only[Cg,uN] at a0;omega):P:=h
theorem Ri(h:P:=by unfold iR text;rw[az (by simp),az (by simp)];rfl):P:=h
theorem EO(h:P:=by clear h0 g l;go_wp2;refine⟨⟨k+1,ab,by go_num,by rw[q.o],M⟩,?_⟩;simp[intOf]<;>omega):P:=h
theorem OM(h:P:=by go_wp2;refine⟨⟨k+1,y,ab,by go_num,rfl,J (λh=>by omega),g,J a1.o⟩,?_⟩;simp[intOf]<;>omega):P:=h
theorem Nz(h:P:=by generalize bs c=D at*;go_in;go_wp21;refine aO l.o λw1 z=>?_;have a2:=J z;clear z;go_wp21;refine aO (a3.o _) λw2 aa=>?_;have y:=a2.o.trans (aa.mono a2.o.size);have M:=J (y.alloc y.size (.cells #[kk,D] 87));clear aa y;go_wp2;go_returns;rw[c7.o];exact Qh 12 M.o):P:=h
theorem WP(h:P:=by
 go_wp21;refine(g5.o _).mono ?_;rintro x w2 ⟨b,rfl,h3,h9,aa⟩;have a1:=J (a2.o.trans (aa.mono a2.o.size));have f7:w<=b:=cp a2.o.size h9;have i5:RV w2 b (bs T) 0:=(by rw[<-h0.o] at h3;exact h3);have b9:=J i5;clear aa h9 h3 i5 a2 g5;go_wp2;go_loopw [11,49] (λj3 g8 wr=>∃(k:Nat) (c5:bd) (t:aS) (e:Nat),k<=n/\g8=k/\c5=k/\Hid (wr.ownsRow w 9 1 j3 k (dZ c5))/\Hid (RV wr b t e)/\Hid (t.size<=1000000000)/\Hid (Ey st T k c5 t e)/\Hid (∀s∈c5,s.size<=2000000000)/\Hid (Below w w wr)) (λ_ g8 _=>(n-intOf g8).toNat);case atStart=>exact⟨0,[],bs T,0,cf _,rfl,rfl,J Zm,b9,J (by rw[Z0];exact i0.o),J ⟨λ_=>by rw[po];rfl,λh=>absurd rfl h⟩,J (λs h=>by cases h),a1⟩
 clear a1 b9;obtain⟨k,c5,t,e,hk,rfl,f6,a9,B,e4,g2,d8,hb⟩:=hrel;obtain⟨A5,k0,i1,rfl⟩:=Za a9.o;by_cases ab:k<n
 .have a8:k<st:=(by rw[<-I.o];exact ab);obtain⟨g0,g4,rfl,c0,c1⟩:=Dp (Ha.o.below hb.o) k a8;have g7:=g6.o st[k] (dr _);have b7:=J (λ(v d9:aS) (e':Nat) (z:Ca st[k] t e v d9 e')=>ZfH a8 z g2.o);obtain⟨⟨a,c⟩,a0⟩:=ay st[k];rw[a0] at c0 c1 g7 b7;simp only at c0 c1;have j5:a=0\/a=1\/a=2\/a=3:=by rcases YJ g7 with h|⟨h|h|h,_⟩<;>simp at h<;>omega
  have h8:=(bi wr wr).alloc aW (.cells #[a,c] 68);obtain⟨F,d3,q,g3⟩:=dm (B.o.below h8 (Bk.lt B.o)) (Z6 a9.o (Fr.of_below (S:=nob) h8) (λ_ _ f=>f)) (hb.o.alloc hb.o.size (.cells #[a,c] 68)) g7;have k5:(0:Int)<=k:=(by omega);have k6:(k:Int)<n:=(by omega);have k4:=e4.o;clear g7 a0 a8 hb a9 B h8 g2 e4;rcases j5 with rfl|rfl|rfl|rfl
  .obtain⟨i6,i7⟩:=YI g3.o rfl;simp only at i6 i7;obtain⟨N,rfl⟩:∃N:Nat,c=(N:Int):=⟨c.toNat,by omega⟩;have G:=J (λW=>RZ N (by omega) W);have z:=Zaw (n:=N) (by omega) (by omega) t e;have a3:=J (λW b1 b3 h k1 k3=>Zd3 N (by omega) (by omega) (w:=W) (b:=b) (b1:=b1) (b3:=b3) (s:=t) (e:=e) h (by omega) k1 k3);obtain⟨V,e6⟩:=ay ((bs (wn (aH (Zb t e ((N+7)/8:Nat)).1) (aH (Zb (Zb t e ((N+7)/8:Nat)).2.1 (Zb t e ((N+7)/8:Nat)).2.2 ((N+7)/8:Nat)).1) N)));obtain⟨f9,d5⟩:=ay ((Zb (Zb t e ((N+7)/8:Nat)).2.1 (Zb t e ((N+7)/8:Nat)).2.2 ((N+7)/8:Nat)));rw[e6,d5] at z a3;obtain⟨c4,d9,e'⟩:=f9;simp only at z a3;clear e6 d5 i6 i7 g3;have c9:=J (b7.o _ _ _ z);have e5:=z.2.2.2;have h7:=z.2.2.1;clear z b7;go_wp21;refine(G.o _).mono ?_;rintro x w3 ⟨b1,b3,rfl,k1,k3,y⟩;have j1:=J k1;have j6:=J k3;clear k1 k3;obtain⟨b2,l,M⟩:=bF (show RV w3 b t e from F.o.below y (Bk.lt F.o)) (Z6 d3.o (Fr.of_below (S:=nob) y) (λ_ _ f=>f)) (q.o.trans (y.mono q.o.size));clear y F d3 q G;go_wp21;refine aO (a3.o _ b1 b3 b2.o j1.o j6.o) λb0 ⟨d1,a5⟩=>?_;have c6:=Z1 l.o b2.o (by decide);have b6:=Z6 l.o a5 (λg R h=>c6 (by rw[R,show g=b from h]));have u:=Zs M.o M.o.size f7 a5;obtain⟨v',a6,b5,d4,d6,d7⟩:=ZU (P:=prog) 23 9 _ _ underlying23 Qw rfl (w:=b0) b6 u u.size (.string V) rfl (by unfold maxLen;omega) (by omega);obtain⟨e8,b8,c3⟩:=bF (show RV a6 b d9 e' from d7 _ _ _ d1 (by decide)) b5 d4;rw[<-X8] at c3;have f2:=J d6;have f3:=J (show ∀s∈c5++[V],s.size<=2000000000 from λs a0=>by rcases kY.1 a0 with h|h;exact d8.o s h;rw[js.1 h];omega);clear d1 a5 c6 b6 u b5 d4 d6 d7 b2 l M a3 d8
   go_wp2_with (
    at_builtin;refine Z5 (by with_reducible rfl) rfl _ _ _ rfl _ _ (by rfl) (by rfl) b8.o ?_);refine⟨⟨k+1,c5++[V],d9,e',ab,by go_num,by rw[bT,f6];rfl,c3,e8,J (by omega),c9,f3,f2⟩,?_⟩;simp[intOf]<;>omega
  .have G:=J (λW=>RM c W);have z:=R3 (a:=1) (c:=c) (by omega) t e;have a3:=J (λW (h:RV W b t e)=>TL h (by omega));obtain⟨f9,d5⟩:=ay (ZC t e 4096);rw[d5] at z a3;obtain⟨V,d9,e'⟩:=f9;simp only at z a3;clear d5 g3;have c9:=J (b7.o _ _ _ z);have e5:=z.2.2.2;have h7:=z.2.2.1;clear z b7;go_wp21;refine aO (G.o _) λw3 y=>?_;obtain⟨b2,l,M⟩:=bF (show RV w3 b t e from F.o.below y (Bk.lt F.o)) (Z6 d3.o (Fr.of_below (S:=nob) y) (λ_ _ f=>f)) (q.o.trans (y.mono q.o.size));clear y F d3 q G;go_wp21;refine aO (a3.o _ b2.o) λb0 ⟨d1,a5⟩=>?_;have c6:=Z1 l.o b2.o (by decide);have b6:=Z6 l.o a5 (λg R h=>c6 (by rw[R,show g=b from h]));have u:=Zs M.o M.o.size f7 a5;obtain⟨v',a6,b5,d4,d6,d7⟩:=ZU (P:=prog) 23 9 _ _ underlying23 Qw rfl (w:=b0) b6 u u.size (.string V) rfl (by unfold maxLen;omega) (by omega);obtain⟨e8,b8,c3⟩:=bF (show RV a6 b d9 e' from d7 _ _ _ d1 (by decide)) b5 d4;rw[<-X8] at c3;have f2:=J d6;have f3:=J (show ∀s∈c5++[V],s.size<=2000000000 from λs a0=>by rcases kY.1 a0 with h|h;exact d8.o s h;rw[js.1 h];omega);clear d1 a5 c6 b6 u b5 d4 d6 d7 b2 l M a3 d8
   go_wp2_with (
    at_builtin;refine Z5 (by with_reducible rfl) rfl _ _ _ rfl _ _ (by rfl) (by rfl) b8.o ?_);refine⟨⟨k+1,c5++[V],d9,e',ab,by go_num,by rw[bT,f6];rfl,c3,e8,J (by omega),c9,f3,f2⟩,?_⟩;simp[intOf]<;>omega
  .have G:=J (λW=>RQ c W);have z:=R3 (a:=2) (c:=c) (by omega) t e;have a3:=J (λW (h:RV W b t e)=>TL h (by omega));obtain⟨f9,d5⟩:=ay (ZC t e 4096);rw[d5] at z a3;obtain⟨V,d9,e'⟩:=f9;simp only at z a3;clear d5 g3;have c9:=J (b7.o _ _ _ z);have e5:=z.2.2.2;have h7:=z.2.2.1;clear z b7;go_wp21;refine aO (G.o _) λw3 y=>?_;obtain⟨b2,l,M⟩:=bF (show RV w3 b t e from F.o.below y (Bk.lt F.o)) (Z6 d3.o (Fr.of_below (S:=nob) y) (λ_ _ f=>f)) (q.o.trans (y.mono q.o.size));clear y F d3 q G;go_wp21;refine aO (a3.o _ b2.o) λb0 ⟨d1,a5⟩=>?_;have c6:=Z1 l.o b2.o (by decide);have b6:=Z6 l.o a5 (λg R h=>c6 (by rw[R,show g=b from h]));have u:=Zs M.o M.o.size f7 a5;obtain⟨v',a6,b5,d4,d6,d7⟩:=ZU (P:=prog) 23 9 _ _ underlying23 Qw rfl (w:=b0) b6 u u.size (.string V) rfl (by unfold maxLen;omega) (by omega);obtain⟨e8,b8,c3⟩:=bF (show RV a6 b d9 e' from d7 _ _ _ d1 (by decide)) b5 d4;rw[<-X8] at c3;have f2:=J d6;have f3:=J (show ∀s∈c5++[V],s.size<=2000000000 from λs a0=>by rcases kY.1 a0 with h|h;exact d8.o s h;rw[js.1 h];omega);clear d1 a5 c6 b6 u b5 d4 d6 d7 b2 l M a3 d8
   go_wp2_with (
    at_builtin;refine Z5 (by with_reducible rfl) rfl _ _ _ rfl _ _ (by rfl) (by rfl) b8.o ?_);refine⟨⟨k+1,c5++[V],d9,e',ab,by go_num,by rw[bT,f6];rfl,c3,e8,J (by omega),c9,f3,f2⟩,?_⟩;simp[intOf]<;>omega
  have G:=J (λW=>RR c W);have z:=Z7j (c:=c) t e;have a3:=J (λW (h:RV W b t e)=>((Zd4 b W).mono λx W' h2=>(show x=.returned (.string ⟨#[]⟩)/\RV W' b t e/\Fr (only b) W W' from⟨h2.1,h2.2▸h,h2.2▸Fr.refl _ _⟩)));obtain⟨V,e6⟩:=ay ((⟨#[]⟩:aS));rw[e6] at z a3;clear e6 g3;obtain⟨d9,j0⟩:=ay t;obtain⟨e',i8⟩:=ay e;have c9:=J (b7.o _ _ _ z);have e5:=z.2.2.2;have h7:=z.2.2.1;clear z b7;subst j0;subst i8;go_wp21;refine aO (G.o _) λw3 y=>?_;obtain⟨b2,l,M⟩:=bF (show RV w3 b t e from F.o.below y (Bk.lt F.o)) (Z6 d3.o (Fr.of_below (S:=nob) y) (λ_ _ f=>f)) (q.o.trans (y.mono q.o.size));clear y F d3 q G;go_wp21;refine aO (a3.o _ b2.o) λb0 ⟨d1,a5⟩=>?_;have c6:=Z1 l.o b2.o (by decide);have b6:=Z6 l.o a5 (λg R h=>c6 (by rw[R,show g=b from h]));have u:=Zs M.o M.o.size f7 a5;obtain⟨v',a6,b5,d4,d6,d7⟩:=ZU (P:=prog) 23 9 _ _ underlying23 Qw rfl (w:=b0) b6 u u.size (.string V) rfl (by unfold maxLen;omega) (by omega);obtain⟨e8,b8,c3⟩:=bF (show RV a6 b t e from d7 _ _ _ d1 (by decide)) b5 d4;rw[<-X8] at c3;have f2:=J d6;have f3:=J (show ∀s∈c5++[V],s.size<=2000000000 from λs a0=>by rcases kY.1 a0 with h|h;exact d8.o s h;rw[js.1 h];omega);clear d1 a5 c6 b6 u b5 d4 d6 d7 b2 l M a3 d8
  go_wp2_with (
   at_builtin;refine Z5 (by with_reducible rfl) rfl _ _ _ rfl _ _ (by rfl) (by rfl) b8.o ?_);refine⟨⟨k+1,c5++[V],t,e,ab,by go_num,by rw[bT,f6];rfl,c3,e8,J (by omega),c9,f3,f2⟩,?_⟩;simp[intOf]<;>omega
 have h5:k=n:=(by omega);subst h5;have e1:st.take k=st:=dU (by rw[I.o];exact aW);have e9:=g2.o;unfold Ey at e9;rw[e1] at e9;have g1:=J (C' B.o);obtain⟨j8,k7,j4,_⟩:=Zi a9.o;injection j4 with h1 h2 a7;have i9:=h2.symm;subst i9;clear h1 a7;by_cases p:iP t e=0
 .have h4:e=0/\t.size=0:=by unfold iP at p;split at p;omega;rename_i h;exact⟨p,by omega⟩
  have D:=g9.o;rw[e9.1 h4.1] at D;have i2:aH t=[]:=gx (by rw[Z2];exact h4.2);rw[i2] at D;simp only at D;rw[p] at g1;have e7:=J D;have i3:=J f6;clear D i2 e9 e1 g2 p h4 e4 f6;go_wp21;refine aO g1.o λw3 b4=>?_;have y:=Zs hb.o hb.o.size f7 b4;have c6:=Z1 a9.o B.o (by decide);have f4:=Z6 a9.o b4 (λg R h=>c6 (by rw[R,show g=b from h]));obtain⟨j9,k2,j7,c8⟩:=Zi f4;injection j7 with h1 _ a7;subst h1;obtain⟨d2,M,f5⟩:=bF (Q.o w3 _ _ c5 (Ha.o.below y) c8 (e3.o.below y) (λs a0=>by have:=d8.o s a0;omega) cap k i1 i3.o.symm (by omega)) y c8;clear b4 y c6 f4 c8 a9 B hb g1 Q a7 d8;cases f8:gr Z3 st c5 with
  |true=>have D:=e7.o;rw[aP ⟨trivial,f8⟩] at D;have c7:=J D;rw[f8] at d2;clear D f8 e7;go_wp21;refine aO d2.o λb0 u=>?_;have E:Hid (BO w X (.returned (.tuple #[(A5,k,i1),(0:Int)])) b0):=J (by rw[c7.o];exact⟨_,rfl,⟨_,_,by rw[i3.o],f5.o.below u⟩,M.o.trans (u.mono M.o.size)⟩);clear u c7 f5;go_wp2;go_returns;exact E.o
  |false=>have D:=e7.o;rw[az (by simp[f8])] at D;have c7:=J D;rw[f8] at d2;clear D f8 e7;go_wp21;refine aO d2.o λb0 u=>?_;have E:Hid (BO w X (.returned (.tuple #[.slice none 0 0,(12:Int)])) b0):=J (by rw[c7.o];exact Qh 12 (M.o.trans (u.mono M.o.size)));clear u c7 f5;go_wp2;go_returns;exact E.o
 have i4:X=([],12):=by have D:=g9.o;by_cases h6:e=0;have j2:t.size≠0:=λh=>p (by unfold iP;rw[az (by omega)];exact h6);rw[e9.1 h6] at D;simp only at D;rw[az (λh=>j2 (by have:=congrArg List.length h.1;rw[Z2] at this;exact this))] at D;exact D;rw[e9.2 h6] at D;exact D
 have e2:((iP t e:Int) !=0)=true:=(by rw[kx];omega);have c7:=J i4;generalize iP t e=a4 at*;clear e9 e1 g2 p e4 i4;go_wp21;refine aO g1.o λw3 b4=>?_;have y:=Zs hb.o hb.o.size f7 b4;have E:Hid (BO w X (.returned (.tuple #[.slice none 0 0,(12:Int)])) w3):=J (by rw[c7.o];exact Qh 12 y);clear y b4 c7 a9 B hb g1 Q d8;go_wp2;go_returns;exact E.o):P:=h
end
namespace Go.Proofs.Y
open Tryz Wv Go.RowKit
variable{A:bS}{st:List (Int×Int)}{w:au}
theorem Dp (p:At w A (pv st)) (k:Nat) (h:k<st):∃b o,A=some ⟨b,o,none⟩/\w.cell? ⟨b,o+k*2,none⟩=some (.int .i64 st[k].1)/\w.cell? ⟨b,o+k*2+1,none⟩=some (.int .i64 st[k].2):=by have q:=zi st k h;obtain⟨b,o,l,_,c0⟩:=p.get (k*2) _ q.1;obtain⟨u,y,g,_,c1⟩:=p.get (k*2+1) _ q.2;rw[l] at g;injection g with g;injection g with h1 t;subst h1;subst t;exact⟨b,o,l,c0,c1⟩
theorem JT (D:At w A (pv st)) (n cap:Nat) (G:n=st) (a0:n<=9223372036854775807):
  Calls prog 56 #[(A,n,cap)] w (bN w (ee st)):=by
 obtain⟨Ha,I,Q⟩:=bF D G (λa b W=>UE a b W);have u:Hid (ee st=(st.all dF&&decide (st.length<=64))):=J rfl;clear D G;go_in;go_wp2;go_loopw [7] (λt wr=>∃k:Nat,k<=n/\t=k/\Hid ((st.take k).all dF=true)/\Hid (Below w w wr)) (λt _=>(n-intOf t).toNat);exact⟨0,cf _,rfl,J rfl,J (bi _ _)⟩;obtain⟨k,a4,rfl,B,hb⟩:=hrel;by_cases ab:k<n
 .have y:k<st:=im;obtain⟨a1,a5,rfl,c0,c1⟩:=Dp (Ha.o.below hb.o) k y;have z:st.take (k+1)=st.take k++[st[k]]:=dD y;have M:st[k]∈st:=dr _;obtain⟨⟨a,c⟩,hs⟩:=ay st[k];rw[hs] at c0 c1 z M;simp only at c0 c1;have g:=J (hb.o.alloc hb.o.size (.cells #[a,c] 68));have p:=J (Q.o a c);have a2:(0:Int)<=k:=O;have a3:(k:Int)<n:=O;cases l:dF (a,c);.have E:Hid (ee st=false):=J (by rw[u.o,Cg];left;rw[IE];exact⟨_,M,by rw[l];decide⟩);rw[l] at p;go_wp21;refine aO (p.o _) λw1 q=>?_;have F:=J (g.o.trans (q.mono g.o.size));exact E9
  have S:Hid ((st.take (k+1)).all dF=true):=J (by rw[z,List.all_append,B.o];simp[l]);rw[l] at p;go_wp21;refine aO (p.o _) λw1 q=>?_;have F:=J (g.o.trans (q.mono g.o.size));go_wp2;refine⟨⟨k+1,ab,ck,S,F⟩,?_⟩;simp[intOf]<;>omega
 have R:k=n:=O;subst R;have E:Hid (ee st=decide ((k:Int)<=64)):=J (by have h:=B.o;rw[dU oh] at h;rw[u.o,h,<-I.o,Bool.true_and];simp only[decide_eq_decide];omega);go_wp2;go_returns;exact⟨Z4 E.o.symm,hb.o⟩
end Go.Proofs.Y
namespace Wv
open Go.Proofs.Tryz Go Go.RowKit
theorem Zh6 (dv:ax->Bool) (st:List (Int×Int)) (vs:bd) (k:Nat) (h:k<st) (g:k<vs):kC dv (st.drop k) (vs.drop k)=(fx dv st[k] (aH vs[k])&&kC dv (st.drop (k+1)) (vs.drop (k+1))):=by rw[kw h,kw g];rfl
end Wv
namespace Go.Proofs.Y
open Tryz Wv Go.RowKit
section
variable{A:bS}{l:bd}{st:List (Int×Int)}{v:aJ}{w:au}
def dZ (l:bd):List aJ:=l.map Value.string
theorem ZnZ (l:bd) (k:Nat) (h:k<l):(dZ l)[k]? =some (.string l[k]):=by rw[dZ,jV,fD h];rfl
theorem XO (g:At w A (dZ l)) (k:Nat) (h:k<l):∃b o,A=some ⟨b,o,none⟩/\b<w.heap.size/\w.cell? ⟨b,o+k,none⟩=some (.string l[k]):=
 g.get k _ (ZnZ l k h)
theorem Below.cellAt {w':au} {B:Nat} (h:Below B w w') {p:Addr} (k:p.block<B) (g:w.cell? p=some v):w'.cell? p=some v:=by rw[World.cell?_of_block (h.block _ k)];exact g
theorem UC {W X:au} {g p:Nat} {a c:Int} {v:aS} (k:W.heap=(w.alloc (.cells #[a,c] 68)).heap) (z:g<w) (y:w.cell? (g,p)=v) (hb:Below W W X):
  X.cell? (w,0)=a/\X.cell? (w,1)=c/\X.cell? (g,p)=v:=by
 have t:Bk W w 68 #[a,c]:=by unfold Bk;rw[k];exact Bk.new w 68 #[a,c]
 have l:=t.below hb t.lt;have u:W.cell? (g,p)=v:=by have q:(w.alloc (.cells #[a,c] 68)).cell? (g,p)=v:=Below.cellAt (((bi w w).alloc aW _)) z y;simp only[World.cell?,k] at q⊢;exact q
 exact⟨l.cell 0,l.cell 1,Below.cellAt hb (by rw[k];exact fp) u⟩
theorem Gc {B:bS} {vs:bd} (a2:At w A (pv st)) (b4:At w B (dZ vs)) (b3:gL w) (a8:∀s∈vs,s.size<=1099511627776) (n cap m c4:Nat) (a3:n=st) (b2:m=vs) (c3:n<=9223372036854775807) (d6:m<=9223372036854775807):
  Calls prog 24 #[(A,n,cap),(B,m,c4)] w (bN w (gr Z3 st vs)):=by
 obtain⟨M,Ha,b9,b8,I,E⟩:=fF (JT a2 n cap a3 c3) a2 b4 b3 a3 b2;have u:Hid (gr Z3 st vs=(ee st&&kC Z3 st vs)):=J rfl;have b7:=J (λa b (s:aS) (h:s∈vs) W (a1:gL W)=>Tg a b (aH s) (by rw[Z2];exact a8 s h) a1);clear a2 b4 b3 a8 a3 b2;cases l:ee st;.rw[l] at M;have z:Hid (gr Z3 st vs=false):=J Fs;clear l;go_in;go_wp21;refine aO M.o λw1 q=>?_;go_wp2;go_returns;exact⟨Z4 z.o.symm,q⟩
 rw[l] at M;have z:Hid (gr Z3 st vs=kC Z3 st vs):=J Fs;clear l;by_cases c7:m=n
 .subst c7;go_in;go_wp21;refine aO M.o λw1 q=>?_;have b0:=J q;clear q;go_wp2;go_loopw [19] (λa5 wr=>∃k:Nat,k<=m/\a5=k/\Hid (kC Z3 st vs=kC Z3 (st.drop k) (vs.drop k))/\Hid (Below w w wr)) (λa5 _=>(m-intOf a5).toNat);exact⟨0,cf _,rfl,J rfl,b0⟩;clear b0;obtain⟨k,d4,rfl,t,hb⟩:=hrel;by_cases ab:k<m
  .have Q:k<st:=im;have R:k<vs:=FA;obtain⟨d1,d5,rfl,c0,c1⟩:=Dp (Ha.o.below hb.o) k Q;obtain⟨b1,a4,rfl,b6,d0⟩:=XO (b9.o.below hb.o) k R;have F:=Zh6 Z3 st vs k Q R;have g:=J (b7.o st[k].1 st[k].2 vs[k] (dr _));obtain⟨⟨a,c⟩,hs⟩:=ay st[k];rw[hs] at c0 c1 F g;simp only at c0 c1 g;rw[Zd] at g;generalize vs[k]=v at*;have a6:=J (λ(W X:au) (a1:W.heap=(wr.alloc (.cells #[a,c] 68)).heap) (h:Below W.heap.size W X)=>UC (p:=a4+k) a1 b6 d0 h);have D:=J (hb.o.alloc hb.o.size (.cells #[a,c] 68));have h0:=a6.o (wr.alloc (.cells #[a,c] 68)).drew (wr.alloc (.cells #[a,c] 68)).drew rfl (bi _ _);have b5:=J (λ(X:au) h=>a6.o (wr.alloc (.cells #[a,c] 68)).drew X rfl h);have a7:=J (b8.o.below D.o.drew);have d2:(0:Int)<=k:=O;have d3:(k:Int)<m:=O;cases y:fx Z3 (a,c) (aH v)
   .rw[y] at g;have G:Hid (gr Z3 st vs=false):=J (by rw[z.o,t.o,F,y];rfl);clear F hs y Q R hb t;go_wp2
    go_region_held3 (λX=>X.cell? (wr,0)=a/\X.cell? (wr,1)=c/\X.cell? (b1,a4+k)=v) (first|with_reducible assumption) (first
     |(go_at_call 57;with_reducible refine(g.o _ a7.o).mono ?_;rintro r c8 ⟨rfl,aa⟩;have a0:=b5.o _ aa;have S:=J (D.o.drew.trans (aa.mono D.o.drew.size));clear aa));clear h0 a0;go_wp2;go_returns;exact⟨Z4 G.o.symm,S.o⟩
   rw[y] at g;have c6:Hid (kC Z3 st vs=kC Z3 (st.drop (k+1)) (vs.drop (k+1))):=J (by rw[t.o,F,y];rfl);clear F hs y Q R hb t;go_wp2
   go_region_held3 (λX=>X.cell? (wr,0)=a/\X.cell? (wr,1)=c/\X.cell? (b1,a4+k)=v) (first|with_reducible assumption) (first
    |(go_at_call 57;with_reducible refine(g.o _ a7.o).mono ?_;rintro r c8 ⟨rfl,aa⟩;have a0:=b5.o _ aa;have S:=J (D.o.drew.trans (aa.mono D.o.drew.size));clear aa));clear h0 a0;go_wp2;refine⟨⟨k+1,ab,ck,c6,S⟩,?_⟩;simp[intOf]<;>omega
  have c5:k=m:=O;subst c5;have G:Hid (gr Z3 st vs=true):=J (by rw[z.o,t.o,oe oh,oe Fz];rfl);clear t;go_wp2;go_returns;exact⟨Z4 G.o.symm,hb.o⟩
 have c9:((m:Int) !=n)=true:=fb;have G:Hid (gr Z3 st vs=false):=J (by rw[z.o];cases h:kC Z3 st vs;rfl;have:=Bf h;have:=I.o;have:=E.o;omega);go_in;go_wp21;refine aO M.o λw1 q=>?_;go_wp2;go_returns;exact⟨Z4 G.o.symm,q⟩
theorem Qw:(prog.info? 9).map (λi=>(i.zero,i.size,i.bytes))=some (some (.string ByteArray.empty),1,16):=dE
def sP (w:au) (v:aJ) (l:bd):Prop:=∃A cap,v=.slice A l cap/\At w A (dZ l)
theorem sP.nil (w:au):sP w (.slice none 0 0) []:=⟨none,0,rfl,At.nil _ _⟩
theorem Zn8 {base e:Nat} (h:w.ownsRow base e 1 v l (dZ l)):sP w v l:=E8
theorem X8 (l:bd) (s:aS):dZ (l++[s])=dZ l++[.string s]:=by unfold dZ;rw[jv];rfl
theorem UZ (y:At w A (pv st)) (n cap:Nat) (z:n=st) (a4:n<=9223372036854775807):
  Calls prog 25 #[(A,n,cap)] w λx w'=>∃v,x=.returned v/\sP w' v (XR st)/\Below w w w':=by
 obtain⟨p,Ha,I,a3⟩:=dm (JT y n cap z a4) y z (λa b W=>Zh9 a b W);have u:Hid (XR st=if ee st=false then[] else st.map (λs=>bs (YW s))):=J rfl;have a2:=J (λh=>(Be (st:=st)).1 h);clear y z;cases l:ee st;.rw[l] at p;have g:Hid (XR st=[]):=J Fs;go_in;go_wp21;refine aO p.o λw1 q=>?_;go_wp2;go_returns;exact⟨_,rfl,by rw[g.o];exact sP.nil _,q⟩
 rw[l] at p;have g:Hid (XR st=st.map (λs=>bs (YW s))):=J Fs;obtain⟨b0,a1⟩:=a2.o l;have b7:=J b0;have c9:n<=64:=(by rw[I.o];exact a1);go_in;go_wp21;refine aO p.o λw1 q=>?_;have a8:=J q;go_wp2;go_loopw [3,11] (λs3 B wr=>∃k:Nat,k<=n/\B=k/\Hid (wr.ownsRow w 9 1 s3 k (dZ ((st.take k).map (λs=>bs (YW s)))))/\Hid (Below w w wr)) (λ_ B _=>(n-intOf B).toNat);exact⟨0,cf _,rfl,J Zm,a8⟩;obtain⟨k,c8,rfl,t,hb⟩:=hrel;obtain⟨A5,b6,c3,_⟩:=Zi t.o;subst c3;by_cases ab:k<n
 .have E:k<st:=im;obtain⟨c5,d1,rfl,c0,c1⟩:=Dp (Ha.o.below hb.o) k E;have F:st.take (k+1)=st.take k++[st[k]]:=dD E;have M:=b7.o st[k] (dr _);obtain⟨⟨a,c⟩,hs⟩:=ay st[k];rw[hs] at c0 c1 F M;simp only at c0 c1;have Q:=J (a3.o a c);rw[M,aP rfl] at Q;have D:=J (hb.o.alloc hb.o.size (.cells #[a,c] 68));have a5:=J (Z6 t.o (Fr.of_below (S:=nob) ((bi wr wr).alloc aW (.cells #[a,c] 68))) (λ_ _ f=>f));have b8:=J (show dZ ((st.take (k+1)).map (λs=>bs (YW s)))=dZ ((st.take k).map (λs=>bs (YW s)))++[.string (bs (YW (a,c)))] by rw[F,jv,<-X8];rfl);have c6:(0:Int)<=k:=O;have c7:(k:Int)<n:=O;generalize bs (YW (a,c))=X at*;go_wp21;refine aO (Q.o _) λc4 aa=>?_;have b1:=Z6 a5.o (Fr.of_below (S:=nob) aa) (λ_ _ f=>f);have R:=D.o.trans (aa.mono D.o.size);obtain⟨d2,d3,a7,b2,a6,_⟩:=ZU (P:=prog) 23 9 _ _ underlying23 Qw rfl (w:=c4) b1 R R.size (.string X) rfl gn O;have b3:=J a7;have G:=J b2;rw[<-b8.o] at G;have b9:=J a6
  go_wp2_with (
   at_builtin;refine Z5 iW rfl _ _ _ rfl _ _ (by rfl) (by rfl) b3.o ?_);refine⟨⟨k+1,ab,ck,G,b9⟩,?_⟩;simp[intOf]<;>omega
 have b5:k=n:=O;subst b5;have b4:Hid (sP wr (.slice A5 k b6) (XR st)):=J (by have h:=t.o;rw[dU oh,<-g.o] at h;have a0:(XR st)=k:=(by rw[g.o,dc,<-I.o]);rw[<-a0] at h;have:=Zn8 h;rw[a0] at this;exact this);go_wp2;go_returns;exact⟨_,rfl,b4.o,hb.o⟩
end
variable{A:bS}{L:List (List (Int×aS))}{l:List (Int×Int)}{w:au}
def kW (w:au) (A:bS) (L:List (List (Int×aS))):Prop:=
 ∀i (h:i<L.length),∃b o B cap,A=some ⟨b,o,none⟩/\b<w.heap.size/\w.cell? ⟨b,o+i,none⟩=some (.slice B L[i].length cap)/\At w B (cv L[i])
theorem kW.below {w':au} (h:kW w A L) (hb:Below w w w'):kW w' A L:=by intro i hi;obtain⟨b,o,B,cap,k,ab,h1,g⟩:=h i hi;exact⟨b,o,B,cap,k,eD ab hb.size,(hb.cell (p:=⟨b,_,none⟩) ab).trans h1,g.below hb⟩
theorem yi.b (h:yi w A L):kW w A L:=λi hi=>by obtain⟨b,o,B,cap,k,ab,h1,g,l⟩:=h i hi;exact⟨b,o,B,cap,k,ab,h1,g⟩
theorem Yi (M:At w A (pv l)) (k:Nat) (h:k<l):∃b o,A=some ⟨b,o,none⟩/\b<w.heap.size/\w.cell? ⟨b,o+k*2,none⟩=some (.int .i64 l[k].1)/\w.cell? ⟨b,o+k*2+1,none⟩=some (.int .i64 l[k].2):=by have u:=zi l k h;exact IM
theorem ZmC (st:List (Int×Int)) (n:Nat) (g:n=st):(((XR st).length:Int)==(n:Int))=ee st:=by subst g;unfold XR;cases k:ee st;rw[aP rfl,lN];intro h;have:st=[]:=gx (by simp only[vQ] at h;omega);subst this;cases k;rw[az aZ,dc,IF]
theorem QX {st:List (Int×Int)} (k:At w A (pv st)) (n cap:Nat) (g:n=st) (t:n<=9223372036854775807):
  Calls prog 44 #[(A,n,cap)] w (bN w (ee st)):=by have p:=J (UZ k n cap g t);have l:=J (ZmC st n g);clear k g;go_in;go_wp21;refine(p.o).mono ?_;rintro x w1 ⟨v,rfl,⟨A2,y,rfl,u⟩,hb⟩;have q:=J hb;clear hb u;go_wp2;go_returns;exact⟨Z4 l.o,q.o⟩
theorem GC (a c:Int) (q:Bool) (lv:Int) (w:au):
  Calls prog 50 #[.agg #[a,c],q,lv] w (bN w (eG (a,c) q lv)):=by
 have k:=J ((bi w w).alloc aW (.cells #[a,c] 68));have g:Hid (eG (a,c) q lv=(!q&&((lv==0)||(lv==1)&&(a !=3)))):=J rfl;generalize eG (a,c) q lv=R at*
 cases q<;>cases h0:(lv==0)<;>cases h1:(lv==1)<;>cases l:(a !=3)<;>(
  rw[h0,h1,l] at g;go_in;go_wp2;go_returns;exact⟨Z4 g.o.symm,k.o⟩)
theorem ZiU {f t a:Int} {k:Nat} (h:k<l):sy f t a (l.drop k)=(decide (f+1<=l[k].1)&&decide (l[k].1<l[k].2)&&decide (l[k].2<=t+1)&&decide (a<l[k].1)&&sy f t l[k].2 (l.drop (k+1))):=by rw[kw h];rfl
theorem Ud (M:At w A (pv l)) (n cap:Nat) (F:n=l) (a3:n<=9223372036854775807) (f t:Int) (b0: -1<=f) (an:f<=4398046511104) (b2: -1<=t) (b5:t<=4398046511104):
  Calls prog 35 #[f,t,(A,n,cap)] w (bN w (mZ f t l)):=by
 have Ha:=J M;have I:=J F;have u:Hid (mZ f t l=(sy f t f l&&decide (n<=16))):=J (by rw[F];rfl);have j1:IntKind.i64.wrap (f+1)=f+1:=lP;have j2:IntKind.i64.wrap (t+1)=t+1:=lP;clear M F;go_in;go_wp2;go_loopw [7,13] (λa2 G wr=>∃(k:Nat) (q:Int),k<=n/\G=k/\a2=q/\Hid (k=0->q=f)/\Hid (sy f t f l=sy f t q (l.drop k))/\Hid (Below w w wr)) (λ_ G _=>(n-intOf G).toNat);exact⟨0,f,cf _,rfl,rfl,J (λ_=>rfl),J rfl,J (bi _ _)⟩;obtain⟨k,q,b1,rfl,rfl,Q,D,hb⟩:=hrel;by_cases ab:k<n;.have B:k<l:=im;obtain⟨a4,b3,rfl,b4,c0,c1⟩:=Yi (Ha.o.below hb.o) k B;have z:=ZiU (f:=f) (t:=t) (a:=q) B;obtain⟨⟨x,y⟩,hs⟩:=ay l[k];rw[hs] at c0 c1 z;simp only at c0 c1 z;have p:=J (D.o.trans z);have a1:=J (hb.o.alloc hb.o.size (.cells #[x,y] 77));have a5:(0:Int)<=k:=O;have a9:(k:Int)<n:=O;have a0:k=0->q=f:=Q.o;clear z hs B D Q;by_cases R:x<f+1;have E:Hid (mZ f t l=false):=J (by rw[u.o,p.o,cG (show ¬f+1<=x by omega)];rfl);exact E';by_cases c2:y<=x;have E:Hid (mZ f t l=false):=J (by rw[u.o,p.o,cG (show ¬x<y by omega)];simp);exact E';by_cases a6:t+1<y;have E:Hid (mZ f t l=false):=J (by rw[u.o,p.o,cG (show ¬y<=t+1 by omega)];simp);exact E';by_cases a7:(0:Int)<k;by_cases a8:x<=q;have E:Hid (mZ f t l=false):=J (by rw[u.o,p.o,cG (show ¬q<x by omega)];simp);exact E';have g:Hid (sy f t f l=sy f t y (l.drop (k+1))):=J (by rw[p.o,cT (show f+1<=x by omega),cT (show x<y by omega),cT (show y<=t+1 by omega),cT (show q<x by omega)];rfl);exact OM;have g:Hid (sy f t f l=sy f t y (l.drop (k+1))):=J (by rw[p.o,cT (show f+1<=x by omega),cT (show x<y by omega),cT (show y<=t+1 by omega),cT (show q<x by have:=a0 O;omega)];rfl);exact OM
 have S:k=n:=O;subst S;have E:Hid (mZ f t l=decide ((k:Int)<=16)):=J (by rw[u.o,D.o,List.drop_of_length_le oh];show(true&&decide (k<=16))=_;rw[Bool.true_and,decide_eq_decide];omega);go_wp2;go_returns;exact⟨Z4 E.o.symm,hb.o⟩
end Go.Proofs.Y
namespace Wv
open Go.Proofs.Tryz Go Go.RowKit Go.Proofs.Y
variable{B:bS}{l:List (Int×aS)}{xs:List aJ}
def pq (w:au) (xs:List aJ) (L:List (List (Int×aS))):Prop:=
 xs.length=L/\∀i (h:i<L.length),∃B cap,xs[i]? =some (.slice B L[i].length cap)/\At w B (cv L[i])
theorem pq.below {w w':au} {L:List (List (Int×aS))} (h:pq w xs L) (hb:Below w w w'):pq w' xs L:=
 ⟨h.1,λi hi=>by obtain⟨B,cap,h1,g⟩:=h.2 i hi;exact⟨B,cap,h1,g.below hb⟩⟩
theorem pq.keep {w w':au} {S:Nat->Prop} {L:List (List (Int×aS))} (h:pq w xs L) (l:Fr S w w') (k:∀i (hi:i<L.length),L[i]≠[]->∀(B:bS) (n c:Nat),xs[i]? =some (Value.slice B n c)->∀b o,B=some ⟨b,o,none⟩->¬S b):pq w' xs L:=
 ⟨h.1,λi hi=>by obtain⟨B,cap,h1,g⟩:=h.2 i hi;refine⟨B,cap,h1,?_⟩;by_cases h0:L[i]=[];rw[h0];exact At.nil _ _;exact g.keep l (k i hi h0 B _ _ h1)⟩
theorem Zou {w:au} (h:At w B (cv l)) (h0:l≠[]) (b o:Nat) (g:B=some ⟨b,o,none⟩):b<w:=by
 match l,h0 with
 |c::r,_=>obtain⟨k,q,h1,p,_⟩:=h 0 (by unfold cv;simp);rw[g] at h1;injection h1 with h1;injection h1 with h1 _;omega
theorem pq.nil (w:au):pq w [] []:=⟨rfl,λi hi=>absurd hi (tU _)⟩
theorem pq.snoc {w:au} {L:List (List (Int×aS))} (h:pq w xs L) (cap:Nat) (u:At w B (cv l)):pq w (xs++[.slice B l cap]) (L++[l]):=by refine⟨by rw[bT,bT,h.1];rfl,λi hi=> ?_⟩;rw[bT,pi] at hi;rcases Nat.lt_or_ge i L.length with h1|h1;obtain⟨k,p,q,t⟩:=h.2 i h1;grind;have g:i=L.length:=O;subst g;refine⟨B,cap,?_,?_⟩;rw[pR (by rw[h.1];grind),h.1,fv];simp;grind
theorem pq.chb {w:au} {A:bS} {L:List (List (Int×aS))} (h:pq w xs L) (g:At w A xs):kW w A L:=by intro i hi;obtain⟨B,cap,h1,k⟩:=h.2 i hi;obtain⟨b,o,l,ab,p⟩:=g.get i _ h1;grind
def rf (Y:Nat) (w:au) (A:bS) (L:List (List (Int×aS))):Prop:=∃xs,pq w xs L/\At w A xs/\(∀b o,A=some ⟨b,o,none⟩->Y<=b)/\∀(i:Nat) (hi:i<L),L[i]≠[]->∀(B:bS) (n c:Nat),xs[i]? =some (Value.slice B n c)->∀b o,B=some ⟨b,o,none⟩->Y<=b
section
variable {Y Y':Nat} {w w':au} {A:bS} {L:List (List (Int×aS))}
theorem rf.b (h:rf Y w A L):kW w A L:=by obtain⟨xs,h1,g,_⟩:=h;exact h1.chb g
theorem rf.keep {S:Nat->Prop} (h:rf Y w A L) (g:Fr S w w') (u:∀k,S k->k<Y):rf Y w' A L:=by obtain⟨xs,h1,l,p,q⟩:=h;exact⟨xs,h1.keep g (λi hi h0 B n c e b o t k=>aI),l.keep g (λb o e k=>aI),p,q⟩
theorem rf.below (h:rf Y w A L) (hb:Below w w w'):rf Y w' A L:=h.keep (Fr.of_below (S:=nob) hb) (λ_ k=>k.elim)
theorem rf.mono (h:rf Y w A L) (g:Y'<=Y):rf Y' w A L:=by obtain⟨xs,h1,l,p,q⟩:=h;exact⟨xs,h1,l,λb o e=>cp g (p b o e),λi hi h0 B n c e b o k=>cp g (q i hi h0 B n c e b o k)⟩
end
end Wv
namespace Go.Proofs.Y
open Tryz Wv Go.RowKit
theorem p_ (d:aS) (a b:Nat):d.extract a (a+b)=bs (((aH d).drop a).take b):=by apply xc;apply pV.1;simp only[bs,aH,ByteArray.data_extract,Array.toList_extract,List.extract_eq_take_drop,Ci];rw[show a+b-a=b from by exact O]
theorem Zb5 (d:aS) (hd:d.size<=1099511627776) (o l:Int) (w:au):
  Calls prog 381 #[d,o,l] w λx w'=>x=.returned (.tuple (if pN d.size (o,l)=false then #[.string ⟨#[]⟩,(2:Int)] else #[bs (tH (aH d) (o,l)),(0:Int)]))/\w=w':=by cases a0:pN d.size (o,l);rw[aP rfl];have t:o<0\/l<0\/(d.size:Int)<o\/(d.size:Int)-o<l:=RA;clear a0;by_cases h1:o<0;exact xh;by_cases g:l<0;exact xh;by_cases k:(d.size:Int)<o;exact xh;have p:(d.size:Int)-o<l:=O;exact xh;rw[az aZ];unfold pN at a0;simp only[gm,fE] at a0;obtain⟨⟨⟨h1,g⟩,k⟩,p⟩:=a0;obtain⟨a,rfl⟩:=Int.eq_ofNat_of_zero_le h1;obtain⟨b,rfl⟩:=Int.eq_ofNat_of_zero_le g;have q:Hid (bs (tH (aH d) ((a:Int),(b:Int)))=d.extract a (a+b)):=J (p_ d a b).symm;have u:¬(a:Int)<0:=O;have y:¬(b:Int)<0:=O;have z:¬(d.size:Int)<a:=O;have B:¬(d.size:Int)-a<(b:Int):=O;rw[q.o];exact xh
theorem ZO {α:Type} {l:List α} {i:Nat} (d:α) (h:i<l):l.getD i d=l[i]:=by rw[qA,fD h];rfl
abbrev eN (f t:Int) (A1:bS) (n1 k1:Nat) (A2:bS) (n2 k2:Nat) (A3:bS) (n3 k3:Nat):Array aJ:= #[.int .i64 f,.int .i64 t,.slice A1 n1 k1,.slice A2 n2 k2,.slice A3 n3 k3]
theorem ZhN {w:au} {A1 A2 A3:bS} {vs:bd} {ch:List (List d')} (h1:At w A1 (dZ vs)) (G:kW w A2 ch) (f t:Int) (n1 k1 n2 k2 n3 k3:Nat) (a4:n1=vs) (a5:n2=ch) (i:Nat) (D:i<vs) (q:i<ch)
  (b8:n1<=9223372036854775807) (b9:n2<=9223372036854775807) (R:∀l∈ch,l.length<=9223372036854775807) (g:Int):
  Calls prog 39 #[.agg (eN f t A1 n1 k1 A2 n2 k2 A3 n3 k3),i,g] w (bN w (tg (jN vs i) (gi ch i) g)):=by
 obtain⟨b1,a7,rfl,q1,c1⟩:=XO h1 i D;obtain⟨a2,a8,B,b7,rfl,q2,c2,M⟩:=G i q;have a6:=R _ (dr q);rw[show jN vs i=vs[i] from ZO _ D,show gi ch i=ch[i] from ZO _ q];generalize vs[i]=b at*;generalize ch[i]=l at*;obtain⟨n,z⟩:=ay l.length;rw[z] at c2 a6;have i0:(0:Int)<=i:=O;have i1:(i:Int)<n1:=O;have b6:(i:Int)<n2:=O;obtain⟨I,S,a1⟩:=bF z M ((bi w w).alloc aW (.cells (eN f t (some ⟨b1,a7,none⟩) n1 k1 (some ⟨a2,a8,none⟩) n2 k2 A3 n3 k3) 27));clear h1 G R z M a4 a5 D q;go_in;go_wp2;go_loopw [7,21] (λa9 y wr=>∃(k:Nat) (d:aS),k<=n/\y=k/\a9=.string d/\Hid (d=tg b (l.take k) g)/\Hid (Below w w wr)) (λ_ y _=>(n-intOf y).toNat);exact⟨0,b,cf _,rfl,rfl,J rfl,a1⟩;obtain⟨k,d,b5,rfl,rfl,hd,hb⟩:=hrel;by_cases ab:k<n
 .have E:k<l.length:=xi;obtain⟨b0,c3,rfl,c4,c0,c1⟩:=xy (S.o.below hb.o) k E;have p:=VF g (l.take k) b l[k];rw[<-dD E,<-hd.o] at p;obtain⟨⟨x,v⟩,hs⟩:=ay l[k];rw[hs] at c0 c1 p;simp only at c0 c1 p;have F:=J (hb.o.alloc hb.o.size (.cells #[x,v] 81));have b3:(0:Int)<=k:=O;have b4:(k:Int)<n:=O;by_cases Q:x<=g;.have u:=J (p.trans (aP Q));go_wp2;refine⟨⟨k+1,v,ab,ck,rfl,J u.o.symm,J F.o⟩,?_⟩;simp[intOf]<;>omega
  have u:=J (p.trans (az Q));go_wp2;refine⟨⟨k+1,d,ab,ck,rfl,J u.o.symm,J F.o⟩,?_⟩;simp[intOf]<;>omega
 have a3:k=n:=O;subst a3;have a0:Hid (d=tg b l g):=J (by rw[hd.o,dU oh]);go_wp2;go_returns;exact⟨Bj a0.o,hb.o⟩
variable{st:List (Int×Int)}{vs:bd}
theorem Zcf (F G:aJ) (w:au):(Instr.field 121 (.agg #[F,G]) 0).run prog w=.ok F w:=dE
theorem Zq7 (h:gr Z3 st vs=false):ej Z3 st vs=([],1):=by unfold ej;rw[aP h]
theorem ZnG (h:gr Z3 st vs=true) (g:ZD st vs=[]):ej Z3 st vs=([],0):=by unfold ej;rw[az uO,aP g]
theorem Zk5 {d:ax} (h:gr Z3 st vs=true) (g:ZD st vs≠[]) (k:Zp 4 (ZD st vs)=some d):ej Z3 st vs=(d,0):=by unfold ej;rw[az uO,az g,k]
theorem Zk4 (h:gr Z3 st vs=true) (g:ZD st vs≠[]) (k:Zp 4 (ZD st vs)=none):ej Z3 st vs=([],9):=by unfold ej;rw[az uO,az g,k]
theorem Sq {w:au} {A B:bS} (c9:At w A (pv st)) (a4:At w B (dZ vs)) (e7:gL w) (d7:∀s∈vs,s.size<=1099511627776) (n cap m f8:Nat) (d1:n=st) (e6:m=vs) (h5:n<=9223372036854775807) (i3:m<=9223372036854775807):
  Calls prog 32 #[(A,n,cap),(B,m,f8)] w (bN w (.tuple #[bs (ej Z3 st vs).1,((ej Z3 st vs).2:Int)])):=by
 have I:=J (Gc c9 a4 e7 d7 n cap m f8 d1 e6 h5 i3);cases b4:gr Z3 st vs;.rw[b4] at I;rw[Zq7 b4];clear c9 a4 e7 d7 d1 e6 b4;go_in;go_wp21;refine aO I.o λw1 z=>?_;exact EZ
 rw[b4] at I;have h4:ee st=true/\kC Z3 st vs=true:=by have:(ee st&&kC Z3 st vs)=true:=b4;rwa [gm] at this
 obtain⟨f7,b0⟩:=h4;obtain⟨g0,g9⟩:=Be.1 f7;have a7:=Bf b0;obtain⟨h8,f6,i4,E,Ha,h3⟩:=fF (λk h b9=>C9 Z3 b0 k h b9) (λk=>KD b0 k) d1 (show m=st by omega) c9 a4;have g4:=J a7;have i9:n<=64:=O;have f4:=J g0;have d6:=J b4;have i1:m=n:=O;subst i1;have y:Hid (∀x,ej Z3 st vs=x->ej Z3 st vs=x):=J (λ_ h=>h);generalize e4:ej Z3 st vs=X;rw[e4] at y;have d3:=J e4;clear e4 y;clear c9 a4 e7 d7 d1 e6 b4 f7 b0 g0 g9 a7;go_in;go_wp21;refine aO I.o λw1 z=>?_;have f9:=J z;have h9:∀F G W,(Instr.field 121 (.agg #[F,G]) 0).run prog W=.ok F W:=λF G W=>Zcf F G W;clear z;go_wp2;go_loopw [6,17] (λi2 d5 wr=>∃k:Nat,k<=m/\d5=(k:Int)/\i2=.string (bs (ZD (st.take k) (vs.take k)))/\Hid (Below w w wr)) (λ_ d5 _=>(m-intOf d5).toNat);exact⟨0,cf _,rfl,by rw[po,po];rfl,f9⟩;clear f9 I;obtain⟨k,i8,rfl,rfl,hb⟩:=hrel;by_cases ab:k<m
 .have b7:k<st.length:=FA;have d2:k<vs.length:=(by rw[g4.o];exact b7);obtain⟨i5,j0,rfl,c0,c1⟩:=Dp (Ha.o.below hb.o) k b7;obtain⟨c5,c3,rfl,g8,d0⟩:=XO (h3.o.below hb.o) k d2;have d9:=JW st vs k b7 d2;have b2:=h8.o k b7 d2;have h7:=(f6.o k).1;obtain⟨g1,f2⟩:=Hz b2;obtain⟨⟨a,c⟩,hs⟩:=ay st[k];rw[hs] at c0 c1 d9 b2 g1;simp only at c0 c1;generalize vs[k]=v at*;have d4:dF (a,c)=true:=(by unfold fx at b2;rw[gm] at b2;exact b2.1);have i0:a=0\/a=1\/a=2\/a=3:=by rcases YJ d4 with h|⟨h|h|h,_⟩<;>simp at h<;>omega
  have a3:=J (λ(X:au) (h:Below (wr.alloc (.cells #[a,c] 68)).drew (wr.alloc (.cells #[a,c] 68)).drew X)=>UC (p:=c3+k) (W:=(wr.alloc (.cells #[a,c] 68)).drew) rfl g8 d0 h);have a5:=J ((hb.o.alloc hb.o.size (.cells #[a,c] 68)).drew);have h0:=a3.o (wr.alloc (.cells #[a,c] 68)).drew (bi _ _);have i6:(0:Int)<=k:=O;have i7:(k:Int)<m:=O;have f5:bs (ZD (st.take (k+1)) (vs.take (k+1)))=bs (ZD (st.take k) (vs.take k))++bs (iR (a,c) (aH v)):=(by rw[d9,Z8]);have a1:(bs (ZD (st.take k) (vs.take k))).size+(bs (iR (a,c) (aH v))).size<=9223372036854775807:=(by rw[Z0,Z0];omega);obtain⟨q,I,b8⟩:=bF f5 b2 d4;have b0:(aH v).length<=128:=f2;have f3:=J b0;clear d9 b2 h7 g1 f2 hs f5 d4 b7 d2 hb b0;obtain⟨T,g3⟩:=ay (bs (ZD (st.take k) (vs.take k)));rw[g3] at q a1⊢;clear g3;rcases i0 with rfl|rfl|rfl|rfl
  .obtain⟨g5,g7⟩:=YI b8.o rfl;simp only at g5 g7;obtain⟨N,rfl⟩:∃N:Nat,c=(N:Int):=⟨c.toNat,O⟩;have a4:=I.o;have g6:fH (aH v)=true:=by unfold fx rJ at a4;rw[gm] at a4;have b9:gW (N:Int) (aH v)=true:=a4.2;unfold gW at b9;rw[gm] at b9;exact b9.1
   have a9:=J (λW=>RZ N O W);have y:=J (λW=>ZlO (aH v) g6 W);rw[Zd] at y;have Q:iR (0,(N:Int)) (aH v)=cy (ki (aH v))++cy (kh (aH v)):=(by unfold iR;rw[aP rfl]);rw[Q] at q a1;clear a4 g6 Q g5 g7 I b8;generalize bs (cy (ki (aH v))++cy (kh (aH v)))=R at*;have e9:¬9223372036854775807<T.size+R.size:=O;clear a1;go_wp2
   go_region_held3 (λX=>X.cell? (wr,0)=(0:Int)/\X.cell? (wr,1)=N/\X.cell? (c5,c3+k)=v) (first|with_reducible assumption) (first
    |(go_at_call 67;with_reducible refine(a9.o _).mono ?_;rintro r c4 ⟨b1,b3,rfl,_,_,aa⟩;have g:=a3.o _ aa;have u:=J aa;clear aa)
    |(go_at_call 91;with_reducible refine(y.o _).mono ?_;rintro r e8 ⟨rfl,a6⟩;have t:=u.o.trans (a6.mono u.o.size);have l:=a3.o _ t;clear a6;have M:=J (a5.o.trans (t.mono a5.o.size));clear t));exact EO
  .have a9:=J (λW=>RM c W);have y:=J (λW=>X6 v (by have:=f3.o;rw[Z2] at this;omega) W);have Q:iR (1,c) (aH v)=text v:=Ri;rw[Q] at q a1;clear Q I b8;generalize bs (text v)=R at*;have e9:¬9223372036854775807<T.size+R.size:=O;clear a1;go_wp2
   go_region_held3 (λX=>X.cell? (wr,0)=(1:Int)/\X.cell? (wr,1)=c/\X.cell? (c5,c3+k)=v) (first|with_reducible assumption) (first
    |(go_at_call 67;with_reducible refine(a9.o _).mono ?_;rintro r c4 ⟨rfl,aa⟩;have g:=a3.o _ aa;have u:=J aa;clear aa)
    |(go_at_call 78;with_reducible refine(y.o _).mono ?_;rintro r e8 ⟨rfl,a6⟩;have t:=u.o.trans (a6.mono u.o.size);have l:=a3.o _ t;clear a6;have M:=J (a5.o.trans (t.mono a5.o.size));clear t));exact EO
  .have a9:=J (λW=>RQ c W);have y:=J (λW=>X6 v (by have:=f3.o;rw[Z2] at this;omega) W);have Q:iR (2,c) (aH v)=text v:=Ri;rw[Q] at q a1;clear Q I b8;generalize bs (text v)=R at*;have e9:¬9223372036854775807<T.size+R.size:=O;clear a1;go_wp2
   go_region_held3 (λX=>X.cell? (wr,0)=(2:Int)/\X.cell? (wr,1)=c/\X.cell? (c5,c3+k)=v) (first|with_reducible assumption) (first
    |(go_at_call 67;with_reducible refine(a9.o _).mono ?_;rintro r c4 ⟨rfl,aa⟩;have g:=a3.o _ aa;have u:=J aa;clear aa)
    |(go_at_call 78;with_reducible refine(y.o _).mono ?_;rintro r e8 ⟨rfl,a6⟩;have t:=u.o.trans (a6.mono u.o.size);have l:=a3.o _ t;clear a6;have M:=J (a5.o.trans (t.mono a5.o.size));clear t));exact EO
  have a9:=J (λW=>RR c W);have y:=J (λW=>ZlP v W);have Q:bs (iR (3,c) (aH v))=⟨#[]⟩:=(by unfold iR;rw[az (by simp),aP rfl];rfl);rw[Q] at q a1;clear Q I b8;generalize (⟨#[]⟩:aS)=R at y q a1;have e9:¬9223372036854775807<T.size+R.size:=O;clear a1;go_wp2
  go_region_held3 (λX=>X.cell? (wr,0)=(3:Int)/\X.cell? (wr,1)=c/\X.cell? (c5,c3+k)=v) (first|with_reducible assumption) (first
   |(go_at_call 67;with_reducible refine(a9.o _).mono ?_;rintro r c4 ⟨rfl,aa⟩;have g:=a3.o _ aa;have u:=J aa;clear aa)
   |(go_at_call 98;with_reducible refine(y.o _).mono ?_;rintro r e8 ⟨rfl,rfl⟩;have t:=u.o;have l:=a3.o _ t;have M:=J (a5.o.trans (t.mono a5.o.size));clear t));exact EO
 have h6:k=m:=O;subst h6;have c7:st.take k=st:=dU Fz;have c8:vs.take k=vs:=dU (by rw[g4.o,<-E.o];exact aW);have e5:=(f6.o k).2;rw[c7,c8];have e3:=E.o;by_cases a8:ZD st vs=[];.have a0:=d3.o;rw[ZnG d6.o a8] at a0;have b6:=J a0.symm;have c6:=YZ ([]:ax);rw[cT rfl] at c6;rw[a8];clear e5 e3 a0 a8 c7 c8;generalize bs ([]:ax)=S0 at c6⊢;go_wp2;go_returns;exact⟨by rw[b6.o];rfl,hb.o⟩
 have c6:=YZ (ZD st vs);rw[cG a8] at c6;have a2:=J (λW=>Do 4 O (ZD st vs) O W);have d8:rG 4 (ZD st vs)=.agg #[(4:Int),bs (ZD st vs)]:=rfl;rw[d8] at a2;rcases b5:Zp 4 (ZD st vs) with _|d
 .have a0:=d3.o;rw[Zk4 d6.o a8 b5] at a0;have b6:=J a0.symm;rw[b5] at a2;unfold nj at a2;simp only at a2;clear e5 e3 a0 a8 c7 c8 b5 d8;generalize bs (ZD st vs)=S at*;go_wp21;with_reducible refine(a2.o _).mono ?_
  rintro x c4 ⟨rfl,aa⟩;have u:=J (hb.o.trans (aa.mono hb.o.size));clear aa;go_wp2;go_returns;exact⟨by rw[b6.o];rfl,u.o⟩
 have a0:=d3.o;rw[Zk5 d6.o a8 b5] at a0;have b6:=J a0.symm;rw[b5] at a2;unfold nj at a2;simp only at a2;clear e5 e3 a0 a8 c7 c8 b5 d8;generalize bs (ZD st vs)=S at*;generalize g2:bs d=D at*;have h1:=J g2;clear g2;go_wp21;with_reducible refine(a2.o _).mono ?_
 rintro x c4 ⟨rfl,aa⟩;have u:=J (hb.o.trans (aa.mono hb.o.size));clear aa;go_wp2;go_returns;exact⟨by rw[b6.o,<-h1.o];rfl,u.o⟩
end Go.Proofs.Y
namespace Wv
open Go.Proofs.Tryz Go Go.RowKit
variable{c d:ax}{k n:Nat}{st:List (Int×Int)}
theorem Zq6 (h:ee st=false):km Z3 st d=([],1):=by unfold km;rw[aP h]
theorem Zr8 (h:ee st=true) (g:sE d=none):km Z3 st d=([],12):=by unfold km;rw[az uO,g]
theorem Zr9 {T:ax} (h:ee st=true) (g:sE d=some T):km Z3 st d=match rb st T with
  |none=>([],12)
  |some (vs,r)=>if r=[]/\gr Z3 st vs=true then(vs,0) else([],12):=by unfold km;rw[az uO,g];rfl
theorem Zec {data:ax} (h:ZJ data=some (k,c,n)):c.length<=1000000000:=by have h1:=(XZ h).1;have g:=YF (k:=k) (c:=c);rw[h1] at g;have:=of_decide_eq_true g.symm;omega
theorem ZnH:sE []=some []:=by unfold sE;rw[aP rfl]
theorem Zq8 (h:d≠[]) (g:ZJ d=none):sE d=none:=by unfold sE;rw[az h,g]
theorem Zk6 (h:d≠[]) (g:ZJ d=some (k,c,n)):sE d=if n=d/\k=4/\c≠[] then some c else none:=by unfold sE;rw[az h,g]
end Wv
namespace Go.Proofs.Y
open Tryz Wv Go.RowKit
variable{st:List (Int×Int)}{w:au}
theorem Zcg (F G:aJ) (w:au):(Instr.field 121 (.agg #[F,G]) 1).run prog w=.ok G w:=dE
theorem Zqq (s:aS) (w:au):dt 80 #[s] w λe w'=>∃b,e=.returned (.pointer (some ⟨b,0,none⟩))/\RV w' b s 0/\w.heap.size<=b/\Below w w w':=
 (ZT s w).mono λe w' h=>⟨_,h.1,h.2.1,aW,h.2.2⟩
def Ey (st:List (Int×Int)) (T:ax) (k:Nat) (g:bd) (t:aS) (e:Nat):Prop:=(e=0->rb (st.take k) T=some (g,aH t))/\(e≠0->rb (st.take k) T=none)
theorem ZfH {T:ax} {k:Nat} {q:bd} {t v B:aS} {e y:Nat} (E:k<st) (D:Ca st[k] t e v B y) (h:Ey st T k q t e):Ey st T (k+1) (q++[v]) B y:=by have g:=UT st k E T;obtain⟨F,G,_⟩:=D;by_cases u:e=0;rw[h.1 u] at g;simp only at g;have l:=G u;rcases z:jK st[k] (aH t) with _|p;rw[z] at g l;simp only at g l;exact⟨λh=>absurd h l,λ_=>g⟩;obtain⟨x,r⟩:=p;rw[z] at g l;simp only at g l;obtain⟨q1,q2,q3⟩:=l;rw[q1,q2];exact⟨λ_=>g,λh=>absurd q3 h⟩;rw[h.2 u] at g;exact⟨λh=>absurd h (F u),λ_=>g⟩
def BO (w:au) (r:bd×Nat) (x:Ending) (w':au):Prop:=∃v,x=.returned (.tuple #[v,r.2])/\sP w' v r.1/\Below w w w'
theorem Qh {w':au} (e:Nat) (hb:Below w w w'):BO w ([],e) (.returned (.tuple #[.slice none 0 0,e])) w':=⟨_,rfl,sP.nil _,hb⟩
theorem Z95 {A:bS} (l8:At w A (pv st)) (data:ax) (hd:data.length<=1000000000) (m7:gL w) (n cap:Nat) (l6:n=st) (m9:n<=9223372036854775807):
  Calls prog 49 #[(A,n,cap),bs data] w λx w'=>BO w (km Z3 st data) x w':=by
 have l:=J (JT l8 n cap l6 m9);cases k9:ee st;.rw[k9] at l;rw[Zq6 k9];clear l8 l6 k9 m7 hd;generalize bs data=S at*;go_in;go_wp21;refine aO l.o λw1 z=>?_;go_wp2;go_returns;exact Qh 1 z
 rw[k9] at l;obtain⟨n0,n4⟩:=Be.1 k9;have n7:n<=64:=O;obtain⟨g6,I,Ha,e3,Q,l0⟩:=fF n0 l6 l8 m7 (λ(W:au) (A B:bS) (vs:bd) h1 h2 a7 h4 cap m aU h5 h6=>Gc (w:=W) (A:=A) (B:=B) (st:=st) (vs:=vs) h1 h2 a7 h4 n cap m aU l6 h5 m9 h6) (λh=>Zr8 (d:=data) k9 h);have l1:=J (λT h=>Zr9 (d:=data) (T:=T) k9 h);have n5:∀F G W,(Instr.field 121 (.agg #[F,G]) 1).run prog W=.ok G W:=λF G W=>Zcg F G W;have n2:=YZ data;have a3:=J (λW=>J2 data hd W);have m1:(bs data).size=data:=Z0 data;generalize n3:km Z3 st data=X;rw[n3] at l0 l1;clear l8 l6 k9 n0 n4 m7 n3;by_cases k8:data=[];.have m5:sE data=some []:=(by rw[k8];exact ZnH);rw[cT k8] at n2;obtain⟨T,m2⟩:∃T:ax,[]=T:=⟨_,rfl⟩;rw[m2] at m5;have i0:Hid (T.length<=1000000000):=J (by rw[<-m2];exact cf _);have h0:Hid (bs T=⟨#[]⟩):=J (by rw[<-m2];rfl);have g9:=J (l1.o T m5);have g5:=J (λW=>Zqq ⟨#[]⟩ W);clear m2 k8 hd a3 m1 m5 l1 l0;generalize bs data=S at*;go_in;go_wp21;refine aO l.o λw1 z=>?_;have a2:=J z;clear z;exact WP
 rw[cG k8] at n2;rcases E:ZJ data with _|p;.have l2:uD data=.tuple #[.agg #[(0:Int),.string ⟨#[]⟩],(0:Int),(12:Int)]:=Fj;rw[l2] at a3;have c7:=J (l0.o (Zq8 k8 E));clear l2 E k8 m1 l0 l1 Q;generalize bs data=S at*;go_in;go_wp21;refine aO l.o λw1 z=>?_;have a2:=J z;clear z;go_wp21;refine aO (a3.o _) λw2 aa=>?_;have y:=a2.o.trans (aa.mono a2.o.size);have M:=J (y.alloc y.size (.cells #[(0:Int),.string ⟨#[]⟩] 87));clear aa y;go_wp2;go_returns;rw[c7.o];exact Qh 12 M.o
 obtain⟨kk,c,q⟩:=p;have l2:uD data=.tuple #[.agg #[kk,bs c],q,(0:Int)]:=Fx;rw[l2] at a3;have l3:=Zk6 k8 E;have m4:=Zec E;have l7:=YZ c;by_cases R:q=data/\kk=4/\c≠[];.rw[aP R] at l3;obtain⟨g1,g2,g3⟩:=R;rw[cG g3] at l7;have l9:((q:Int) !=data.length)=false:=(by rw[g1];exact yH _);subst g2;have i0:=J m4;have h0:Hid (bs c=bs c):=J rfl;have g9:=J (l1.o c l3);have g5:=J (λW=>Zqq (bs c) W);clear l2 E k8 l3 m4 g1 g3 l0 l1;obtain⟨dl,l5⟩:=ay data.length;rw[l5] at l9 m1;clear l5 hd;generalize bs data=S at*;obtain⟨D,m3⟩:=ay (bs c);have h0:Hid (bs c=D):=J m3;rw[m3] at g5 l7 a3;clear m3;go_in;go_wp21;refine aO l.o λw1 z=>?_;have m8:=J z;clear z;go_wp21;refine aO (a3.o _) λn6 aa=>?_;have y:=m8.o.trans (aa.mono m8.o.size);have a2:=J (y.alloc y.size (.cells #[(4:Int),D] 87));clear aa y m8;generalize m6:c=T at*;clear m6;exact WP
 rw[az R] at l3;have c7:=J (l0.o l3)
 have n1:q≠data\/(q=data/\kk≠4)\/(q=data/\kk=4/\c=[]):=by
  by_cases h1:q=data;.by_cases h2:kk=4;by_cases a7:c=[];exact .inr (.inr ⟨h1,h2,a7⟩);exact absurd ⟨h1,h2,a7⟩ R;exact .inr (.inl ⟨h1,h2⟩)
  exact .inl h1
 clear l2 E k8 R l3 m4 l0 l1 Q;obtain⟨dl,l5⟩:=ay data.length;rw[l5] at n1 m1;clear l5 hd;generalize bs data=S at*;rcases n1 with g1|⟨g1,g2⟩|⟨g1,g2,g3⟩;have l9:((q:Int) !=dl)=true:=fb;clear g1 l7;exact Nz;have l9:((q:Int) !=dl)=false:=(by rw[g1];exact yH _);have n8:((kk:Int) !=4)=true:=fb;clear g1 g2 l7;exact Nz;have l9:((q:Int) !=dl)=false:=(by rw[g1];exact yH _);subst g2;rw[cT g3] at l7;clear g1 g3;generalize bs c=D at*;go_in;go_wp21;refine aO l.o λw1 z=>?_;have a2:=J z;clear z;go_wp21;refine aO (a3.o _) λw2 aa=>?_;have y:=a2.o.trans (aa.mono a2.o.size);have M:=J (y.alloc y.size (.cells #[(4:Int),D] 87));clear aa y;go_wp2;go_returns;rw[c7.o];exact Qh 12 M.o
