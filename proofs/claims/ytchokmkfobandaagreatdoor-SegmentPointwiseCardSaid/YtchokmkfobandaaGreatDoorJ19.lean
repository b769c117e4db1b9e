import Derived.Test.YtchokmkfobandaaGreatDoorJ09
import Derived.Test.YtchokmkfobandaaGreatDoorJ10
import Derived.Test.YtchokmkfobandaaGreatDoorJ12
set_option linter.unusedVariables false
set_option linter.unusedSimpArgs false
set_option maxRecDepth 100000
set_option maxHeartbeats 8000000
namespace Go.Proofs.YtchokmkfobandaaGreatDoor
open Go.RowKit Go.Proofs Wv Wv.Vi Wv.Rc Wv.Mo
def Z6o:Nat->Nat->Nat->Nat->List Nat->En->List Nat×En
 |0,_,_,_,t,e=>(t,e)
 |n+1,q,v,m,t,e=>Z6o n q v (2*m+v/2 ^ n % 2) (t.set (q+m) (Z13 (t.getD (q+m) 0) (v/2 ^ n % 2))) (ebit (t.getD (q+m) 0) (v/2 ^ n % 2) e)
def Z2v:Nat->Nat->Nat->List Nat->De->Nat×List Nat×De
 |0,_,m,t,d=>(m,t,d)
 |n+1,q,m,t,d=>Z2v n q (2*m+dbt (t.getD (q+m) 0) d) (t.set (q+m) (Z13 (t.getD (q+m) 0) (dbt (t.getD (q+m) 0) d))) (dbit (t.getD (q+m) 0) d)
theorem Z6E (n q v m:Nat) (t:List Nat) (e:En):Z6o (n+1) q v m t e=Z6o n q v (2*m+v/2 ^ n % 2) (t.set (q+m) (Z13 (t.getD (q+m) 0) (v/2 ^ n % 2))) (ebit (t.getD (q+m) 0) (v/2 ^ n % 2) e):=rfl
theorem Z6F (n q m:Nat) (t:List Nat) (d:De):Z2v (n+1) q m t d=Z2v n q (2*m+dbt (t.getD (q+m) 0) d) (t.set (q+m) (Z13 (t.getD (q+m) 0) (dbt (t.getD (q+m) 0) d))) (dbit (t.getD (q+m) 0) d):=rfl
def subL (q L:Nat) (t:List Nat):List Nat:=(t.drop q).take L
def putL (q:Nat) (t u:List Nat):List Nat:=t.take q++u++t.drop (q+u.length)
theorem Z7N {q L:Nat} {t:List Nat} (h:q+L<=t.length):(subL q L t).length=L:=by unfold subL;rw[List.length_take,List.length_drop];omega
theorem ZbG {q L:Nat} {t:List Nat} (h:q+L<=t.length):putL q t (subL q L t)=t:=by
 unfold putL;rw[Z7N h];unfold subL;rw[List.append_assoc,<-List.drop_drop,List.take_append_drop,List.take_append_drop]
theorem Z8Y {q L m:Nat} {t:List Nat} (hm:m<L):(subL q L t).getD m 0=t.getD (q+m) 0:=by
 unfold subL;simp[List.getD,List.getElem?_take_of_lt hm]
theorem ZbH {q L m z:Nat} {t u:List Nat} (h:q+L<=t.length) (hm:m<L) (hu:u.length=L):putL q (t.set (q+m) z) u=putL q t u:=by
 unfold putL;rw[hu,List.take_set,List.drop_set];rw[List.set_eq_of_length_le (by rw[List.length_take];omega),if_pos (by omega)]
theorem ZbI {q L m z:Nat} {t:List Nat} (h:q+L<=t.length) (hm:m<L):subL q L (t.set (q+m) z)=(subL q L t).set m z:=by
 unfold subL;rw[List.drop_set,if_neg (by omega),List.take_set,Nat.add_sub_cancel_left]
theorem ZbJ (n:Nat):∀(q v m L:Nat) {t:List Nat} {e:En},q+L<=t.length->(m+1)*2 ^ n<=2*L->Z6o n q v m t e=(putL q t (tenc n v m (subL q L t) e).1,(tenc n v m (subL q L t) e).2)/\(tenc n v m (subL q L t) e).1.length=L:=by
 induction n with
 |zero=>intro q v m L t e h _;exact⟨by show(t,e)=_;rw[tenc,ZbG h],Z7N h⟩
 |succ n ih=>
  intro q v m L t e h hm;have sY:m<L:=Z1Q (n:=n) hm;have hb:v/2 ^ n % 2<2:=(by omega);rw[Z6E,Z8v];have hl:q+L<=(t.set (q+m) (Z13 (t.getD (q+m) 0) (v/2 ^ n % 2))).length:=(by rw[List.length_set];exact h);obtain⟨i1,i2⟩:=ih q v (2*m+v/2 ^ n % 2) L (t:=t.set (q+m) (Z13 (t.getD (q+m) 0) (v/2 ^ n % 2))) (e:=ebit (t.getD (q+m) 0) (v/2 ^ n % 2) e) hl (Z0U hb hm);rw[ZbI h sY] at i1 i2;rw[Z8Y sY];exact⟨by rw[i1,ZbH h sY i2],i2⟩
theorem ZbK (n:Nat):∀(q m L:Nat) {t:List Nat} {d:De},q+L<=t.length->(m+1)*2 ^ n<=2*L->Z2v n q m t d=((tdec n m (subL q L t) d).1,putL q t (tdec n m (subL q L t) d).2.1,(tdec n m (subL q L t) d).2.2)/\(tdec n m (subL q L t) d).2.1.length=L:=by
 induction n with
 |zero=>intro q m L t d h _;exact⟨by show(m,t,d)=_;rw[tdec,ZbG h],Z7N h⟩
 |succ n ih=>
  intro q m L t d h hm;have sY:m<L:=Z1Q (n:=n) hm;have hb:=Z5y (t.getD (q+m) 0) d;rw[Z6F,Z8w,Z8Y sY];have hl:q+L<=(t.set (q+m) (Z13 (t.getD (q+m) 0) (dbt (t.getD (q+m) 0) d))).length:=(by rw[List.length_set];exact h);obtain⟨i1,i2⟩:=ih q (2*m+dbt (t.getD (q+m) 0) d) L (t:=t.set (q+m) (Z13 (t.getD (q+m) 0) (dbt (t.getD (q+m) 0) d))) (d:=dbit (t.getD (q+m) 0) d) hl (Z0U (by omega) hm);rw[ZbI h sY] at i1 i2;exact⟨by rw[i1,ZbH h sY i2],i2⟩
structure TrA (w:World) (b o g q n:Nat) (t:List Nat):Prop where
 c0:w.cell? ⟨b,o,none⟩=some (.int .i64 (n:Int))
 c1:w.cell? ⟨b,o+1,none⟩=some (.slice (some ⟨g,q,none⟩) (2 ^ n) (2 ^ n))
 nd:Bk w g 3 (nc t)
 ne:b≠g
 lt:b<w.heap.size
theorem TrA.drew {w:World} {b o g q n:Nat} {t:List Nat} (h:TrA w b o g q n t):TrA w.drew b o g q n t:=⟨h.c0,h.c1,h.nd,h.ne,h.lt⟩
theorem TrA.fr {S:Nat->Prop} {w w':World} {b o g q n:Nat} {t:List Nat} (h:TrA w b o g q n t) (hf:Fr S w w') (h1:¬S b) (h2:¬S g):TrA w' b o g q n t:=
 ⟨by rw[hf.cell (p:=⟨b,o,none⟩) h.lt h1];exact h.c0,by rw[hf.cell (p:=⟨b,o+1,none⟩) h.lt h1];exact h.c1,h.nd.fr hf h2,h.ne,Nat.lt_of_lt_of_le h.lt hf.size⟩
theorem TrA.put {w:World} {b o g q n:Nat} {t:List Nat} (h:TrA w b o g q n t) (m z:Nat):TrA (w.setCell ⟨g,m,none⟩ (.int .i64 (z:Int))) b o g q n (t.set m z):=by
 have hf:Fr (only g) w (w.setCell ⟨g,m,none⟩ (.int .i64 (z:Int))):=(Fr.refl (only g) w).setCell (p:=⟨g,m,none⟩) (.inl rfl) _;have ay:¬only g b:=h.ne;refine⟨by rw[hf.cell (p:=⟨b,o,none⟩) h.lt ay];exact h.c0,by rw[hf.cell (p:=⟨b,o+1,none⟩) h.lt ay];exact h.c1,?_,h.ne,Nat.lt_of_lt_of_le h.lt hf.size⟩;have:=h.nd.put m (.int .i64 (z:Int))
 rwa [Z3C] at this
theorem EnAt.offG {w:World} {g eb m:Nat} {dv x:Value} {e:En} (he:EnAt w eb dv e) (h:¬foot eb dv g):EnAt (w.setCell ⟨g,m,none⟩ x) eb dv e:=
 he.fr (S:=only g) ((Fr.refl (only g) w).setCell (p:=⟨g,m,none⟩) (.inl rfl) x) (λe=>h (.inl e.symm)) (λk hk e=>h (.inr (by rw[hk];exact congrArg some e)))
theorem DAt.offG {w:World} {g eb m:Nat} {x:Value} {d:De} (he:DAt w eb d) (h:g≠eb):DAt (w.setCell ⟨g,m,none⟩ x) eb d:=
 he.fr (S:=only g) ((Fr.refl (only g) w).setCell (p:=⟨g,m,none⟩) (.inl rfl) x) (λe=>h e.symm)
theorem Z5e {w:World} {eb g:Nat} {dv:Value} {e:En} {t:List Nat} (he:EnAt w eb dv e) (h:Bk w g 3 (nc t)):¬foot eb dv g:=λhs=>by
 rcases hs with hs|hs
 ·exact Bk.apart h he.1 (by decide) hs
 ·exact Z02 he.2 h (by decide) hs
theorem Z6G {w w1:World} {eb b:Nat} {dv dr:Value} (h:¬foot eb dv b) (ho:Z0k w dv dr) (hb:b<w.heap.size):¬foot eb dr b:=λhs=>by
 rcases hs with hs|hs
 ·exact h (.inl hs)
 ·rcases ho with ho|ho
  ·exact h (.inr (ho▸hs))
  ·have:=ho b hs;omega
theorem ZbL {n:Nat} (h:n<=8):2 ^ n<=256:=Nat.le_trans (Nat.pow_le_pow_right (by omega) h) (by decide)
theorem Z8Z {w:World} {b o g q n eb:Nat} {dv:Value} {t:List Nat} {e:En} (h:TrA w b o g q n t) (hn:n<=8) (CT:q+2 ^ n<=t.length) (fw:t.length<=1000000) (ht:TOk t) (he:EnAt w eb dv e) (Fp:¬foot eb dv b) (hv:Val 0 e) (v:Nat) (yh:v<=9223372036854775807) (hl:e.out.length<=800000):
  Calls Tryz.prog 132 #[.pointer (some ⟨b,o,none⟩),.pointer (some ⟨eb,0,none⟩),.int .i64 (v:Int)] w λx w'=>x=.returned (.tuple #[])/\TrA w' b o g q n (Z6o n q v 1 t e).1/\∃cD,EnAt w' eb cD (Z6o n q v 1 t e).2/\Fr (Z50 g eb dv) w w'/\Z0k w dv cD:=by
 have ha:=and1;have c0:=h.c0;have cl:=h.lt;obtain⟨N,hN⟩:∃N,(2:Nat) ^ n=N:=⟨_,rfl⟩;have yU:N<=256:=(by rw[<-hN];exact ZbL hn);have fI:(1+1)*2 ^ n<=2*N:=(by rw[hN];omega);have HN:=h_ hN;rw[hN] at CT;clear hN;go_enter Tryz.func132,Tryz.ntmps132;go_wp2;go_loopw [6,7] (λmv i wr=>∃(j m:Nat) (dr:Value) (u:List Nat) (x:En),j<=n/\i=.int .i64 ((j:Int)-1)/\mv=.int .i64 m/\Hid ((m+1)*2 ^ j<=2*N)/\TrA wr b o g q n u/\TOk u/\u.length=t.length/\EnAt wr eb dr x/\Val 0 x/\Hid (Z6o j q v m u x=Z6o n q v 1 t e)/\Fr (Z50 g eb dv) w wr/\Z0k w dv dr/\x.out.length+2*j<=800000+2*n) (λ_ i _=>(intOf i+1).toNat);case atStart=>exact⟨n,1,dv,t,e,Nat.le_refl _,rfl,rfl,h_ fI,h,ht,rfl,he,hv,h_ rfl,Fr.refl _ _,.inl rfl,by omega⟩
 case round=>
  clear c0 h ht he hv fI;obtain⟨j,m,dr,u,x,hj,rfl,rfl,hm,hu,iR,oZ,hx,fL,mO,hf,el,Ky⟩:=hrel;by_cases ab:0<j
  ·obtain⟨k,rfl⟩:∃k,j=k+1:=⟨j-1,by omega⟩;have yV:m<N:=Z1Q (n:=k) hm.o;have mP:q+m<u.length:=(by omega);have aN:=Z6E k q v m u x;have i1:((k+1:Nat):Int)-1=(k:Int):=(by omega);rw[i1];obtain⟨y,hy⟩:∃y,v/2 ^ k % 2=y:=⟨_,rfl⟩;have lE:y<2:=(by omega);have i2:(v:Int)/2 ^ k % 2=(y:Int):=(by rw[<-hy,Int.natCast_emod,Int.natCast_ediv,Int.natCast_pow];rfl);have hp:=Z2F iR mP;have Fq:=h_ (show(2*m+y+1)*2 ^ k<=2*N from Z0U (L:=N) lE hm.o);have q1:=hu.c1;rw[HN.o] at q1;have qm:=hu.nd.cell (q+m);rw[Z1V u (q+m) mP] at qm;obtain⟨z,hz⟩:∃z,u.getD (q+m) 0=z:=⟨_,rfl⟩;rw[hy,hz] at aN;rw[hz] at qm hp;have Ft:(m:Int)<(N:Int):=(by omega);have Hb:=h_ (Z7i hx fL z y hp.1 hp.2 lE (by omega));have Ha:=h_ (Z41 z y hp.1 hp.2 lE);have sM:=Z40 z y x;have hval:=Z2b fL (b:=y) hp.1 hp.2;have PW:=Z5e hx hu.nd;have Fu:=Z6G (w1:=wr) Fp el cl;have ox:TOk (u.set (q+m) (Z13 z y)):=Z2G iR (q+m) (Z1G hp);have p7:(u.set (q+m) (Z13 z y)).length=t.length:=(by rw[List.length_set];exact oZ);have aR:=h_ aN;have Hu:=h_ hu;have Fv:=h_ p7;have lD:k<=7:=(by omega);clear aN hu hy hz hx fL iR hm mP oZ p7;go_wp2_with fail;refine(Hb.o).mono ?_;rintro r w1 ⟨rfl,yi,cF,ah,dz⟩;have fo:=Hu.o.fr ah Fu PW;have r1:=fo.c1;rw[HN.o] at r1;have rm:=fo.nd.cell (q+m);have fm:=fo.nd.frozen (q+m);have oy:(nc u)[q+m]? =some (.int .i64 (z:Int)):=(Hu.o.nd.cell (q+m)).symm.trans qm;rw[oy] at rm;clear q1 qm oy;have hs:=hf.size;have Fw:=Z5e cF fo.nd;go_wp2;go_region_with ((go_at_call 177;refine(Ha.o _).mono ?_;rintro r w9 ⟨rfl,rfl⟩))
   all_goals
    go_wp2;go_roundw;case rel=>exact⟨k,2*m+y,yi,u.set (q+m) (Z13 z y),ebit z y x,by omega,rfl,by congr 1,Fq,(fo.put (q+m) _).drew,ox,Fv.o,(cF.offG Fw).drew,hval,h_ (by rw[<-aR.o];exact mO.o),(Zen (Z7m hf ah el)).drew,el.trans dz hs,by omega⟩
    case measure=>simp[intOf]<;>omega
  ·have hU:j=0:=(by omega);subst hU;go_wp2;go_end0;have:=mO.o;rw[Z6o] at this;rw[<-this];exact⟨rfl,hu,dr,hx,hf,el⟩
theorem ZfQ (n:Nat):∀(q m L:Nat) (t:List Nat) (d:De),TOk t->q+L<=t.length->(m+1)*2 ^ n<=2*L->DV 0 d->TOk (Z2v n q m t d).2.1/\(Z2v n q m t d).2.1.length=t.length/\DV 0 (Z2v n q m t d).2.2/\m*2 ^ n<=(Z2v n q m t d).1/\(Z2v n q m t d).1<(m+1)*2 ^ n:=by
 induction n with
 |zero=>intro q m L t d h1 _ _ h3;exact⟨h1,rfl,h3,by simp[Z2v],by simp[Z2v]⟩
 |succ n ih=>
  intro q m L t d h1 hq h2 h3;have sY:m<L:=Z1Q (n:=n) h2;have hp:=Z2F h1 (show q+m<t.length by omega);have hb:=Z5y (t.getD (q+m) 0) d;obtain⟨a,b,c,p,r⟩:=ih q (2*m+dbt (t.getD (q+m) 0) d) L _ (dbit (t.getD (q+m) 0) d) (Z2G h1 (q+m) (Z1G (b:=dbt (t.getD (q+m) 0) d) hp)) (by rw[List.length_set];exact hq) (Z0U (by omega) h2) (Z8u h3 hp.1 hp.2);rw[Z2v];refine⟨a,by rw[b,List.length_set],c,Nat.le_trans ?_ p,Nat.lt_of_lt_of_le r ?_⟩
  ·rw[Nat.pow_succ,Nat.mul_comm _ 2,<-Nat.mul_assoc];exact Nat.mul_le_mul_right _ (by omega)
  ·rw[Nat.pow_succ,Nat.mul_comm _ 2,<-Nat.mul_assoc];exact Nat.mul_le_mul_right _ (by omega)
theorem Z90 {w:World} {b o g q n eb:Nat} {t:List Nat} {d:De} (h:TrA w b o g q n t) (hn:n<=8) (CT:q+2 ^ n<=t.length) (fw:t.length<=1000000) (ht:TOk t) (he:DAt w eb d) (il:b≠eb) (hv:DV 0 d):
  Calls Tryz.prog 222 #[.pointer (some ⟨b,o,none⟩),.pointer (some ⟨eb,0,none⟩)] w λx w'=>x=.returned (.int .i64 (((Z2v n q 1 t d).1-2 ^ n:Nat):Int))/\TrA w' b o g q n (Z2v n q 1 t d).2.1/\DAt w' eb (Z2v n q 1 t d).2.2/\Fr (Z6h g eb) w w':=by
 have c0:=h.c0;have cl:=h.lt;obtain⟨N,hN⟩:∃N,(2:Nat) ^ n=N:=⟨_,rfl⟩;have yU:N<=256:=(by rw[<-hN];exact ZbL hn);have fI:(1+1)*2 ^ n<=2*N:=(by rw[hN];omega);have jA:=(ZfQ n q 1 N t d ht (by rw[<-hN];exact CT) fI hv).2.2.2;rw[hN] at jA CT fI;rw[hN];have HN:=h_ hN;have Fx:(2:Int) ^ n=(N:Int):=(by rw[<-hN,Int.natCast_pow];rfl);have rF:Hid ((1+1)*2 ^ (n-0)<=2*N):=h_ (by rw[Nat.sub_zero,HN.o];omega);clear hN;go_enter Tryz.func222,Tryz.ntmps222;go_wp2;go_loopw [5,11] (λmv i wr=>∃(j m:Nat) (u:List Nat) (x:De),j<=n/\i=.int .i64 (j:Int)/\mv=.int .i64 m/\Hid ((m+1)*2 ^ (n-j)<=2*N)/\TrA wr b o g q n u/\TOk u/\u.length=t.length/\DAt wr eb x/\DV 0 x/\Hid (Z2v (n-j) q m u x=Z2v n q 1 t d)/\Fr (Z6h g eb) w wr) (λ_ i _=>(n-intOf i).toNat);case atStart=>exact⟨0,1,t,d,Nat.zero_le _,rfl,rfl,rF,h,ht,rfl,he,hv,h_ rfl,Fr.refl _ _⟩
 case round=>
  clear c0 h ht he hv fI rF;obtain⟨j,m,u,x,hj,rfl,rfl,hm,hu,iR,oZ,hx,fL,mO,hf⟩:=hrel;by_cases ab:j<n
  ·have di:(j:Int)<(n:Int):=(by omega);obtain⟨k,hk⟩:∃k,n-j=k+1:=⟨n-j-1,by omega⟩;have ym:n-(j+1)=k:=(by omega);rw[hk] at hm mO;have yV:m<N:=Z1Q (n:=k) hm.o;have mP:q+m<u.length:=(by omega);have aN:=Z6F k q m u x;have hp:=Z2F iR mP;have yn:=Z5y (u.getD (q+m) 0) x;have q1:=hu.c1;rw[HN.o] at q1;have qm:=hu.nd.cell (q+m);rw[Z1V u (q+m) mP] at qm;obtain⟨z,hz⟩:∃z,u.getD (q+m) 0=z:=⟨_,rfl⟩;rw[hz] at aN yn qm hp;obtain⟨y,hy⟩:∃y,dbt z x=y:=⟨_,rfl⟩;rw[hy] at aN yn;have lE:y<2:=(by omega);have Fq:=h_ (show(2*m+y+1)*2 ^ k<=2*N from Z0U (L:=N) lE hm.o);have Ft:(m:Int)<(N:Int):=(by omega);have Hb:=Z7l hx fL z hp.1 hp.2;rw[hy] at Hb;have Hb:=h_ Hb;have Ha:=h_ (Z41 z y hp.1 hp.2 lE);have hval:=Z8u fL hp.1 hp.2;have yW:g≠eb:=Bk.apart hu.nd hx (by decide);have ox:TOk (u.set (q+m) (Z13 z y)):=Z2G iR (q+m) (Z1G hp);have p7:(u.set (q+m) (Z13 z y)).length=t.length:=(by rw[List.length_set];exact oZ);have Fv:=h_ p7;have aR:=h_ aN;have Hu:=h_ hu;have yo:=h_ ym;clear aN hu hy hz hx fL iR hm mP oZ p7 hk ym jA;go_wp2_with fail;refine(Hb.o).mono ?_;rintro r w1 ⟨rfl,cF,ah⟩;have fo:=Hu.o.fr ah il yW;have r1:=fo.c1;rw[HN.o] at r1;have rm:=fo.nd.cell (q+m);have fm:=fo.nd.frozen (q+m);have oy:(nc u)[q+m]? =some (.int .i64 (z:Int)):=(Hu.o.nd.cell (q+m)).symm.trans qm;rw[oy] at rm;clear q1 qm oy;go_wp2;go_region_with ((go_at_call 177;refine(Ha.o _).mono ?_;rintro r w9 ⟨rfl,rfl⟩))
   all_goals
    go_wp2;go_roundw;case rel=>exact⟨j+1,2*m+y,u.set (q+m) (Z13 z y),dbit z x,by omega,by go_num,by congr 1,by rw[yo.o];exact Fq,(fo.put (q+m) _).drew,ox,Fv.o,(cF.offG yW).drew,hval,h_ (by rw[yo.o,<-aR.o];exact mO.o),((hf.trans' ah (λi hi e=>.inr e)).setCell (p:=⟨g,q+m,none⟩) (.inl (.inl rfl)) _).drew⟩
    case measure=>simp[intOf]<;>omega
  ·have im:n=j:=(by omega);subst im;have hh:=mO.o;rw[Nat.sub_self,Z2v] at hh;have q0:=hu.c0;have jw:(Z2v n q 1 t d).1=m:=(by rw[<-hh]);rw[jw] at jA;have oz:N<=m:=(by omega);have mP:m<2*N:=(by omega);have Hh:=h_ hh;have Fy:¬(n:Int)<(n:Int):=(by omega);clear jA jw hh hm;go_wp2;go_ret;rw[<-Hh.o];exact⟨Z0w (by simp only;omega),hu,hx,hf⟩
open Wv.Lz
theorem ZfR {L:Nat} {l:List (List Nat)} (h:∀t∈l,t.length=L):l.flatten.length=L*l.length:=by
 induction l with
 |nil=>simp
 |cons t r ih=>
  rw[List.flatten_cons,List.length_append,h t List.mem_cons_self,ih (λx hx=>h x (List.mem_cons_of_mem _ hx)),List.length_cons,Nat.mul_add];omega
theorem Z5K {L:Nat} :∀ {l:List (List Nat)},(∀t∈l,t.length=L)->∀ {j:Nat},j<l.length->subL (L*j) L l.flatten=l.getD j []/\∀u:List Nat,u.length=L->putL (L*j) l.flatten u=(l.set j u).flatten
 |[],_,j,hj=>by simp at hj
 |t::r,h,j,hj=>by
  have ht:=h t List.mem_cons_self;have hr:=λx hx=>h x (List.mem_cons_of_mem _ hx);cases j with
  |zero=>
   refine⟨?_,λu hu=> ?_⟩
   ·show subL 0 L (t++r.flatten)=t;unfold subL;rw[List.drop_zero,<-ht,List.take_left]
   ·show putL 0 (t++r.flatten) u=u++r.flatten;unfold putL;rw[List.take_zero,List.nil_append,Nat.zero_add,hu,<-ht,List.drop_left]
  |succ j=>
   obtain⟨i1,i2⟩:=Z5K (L:=L) (l:=r) hr (j:=j) (by simpa using hj);have e:L*(j+1)=t.length+L*j:=(by rw[ht,Nat.mul_add];omega);refine⟨?_,λu hu=> ?_⟩
   ·show subL (L*(j+1)) L (t++r.flatten)=r.getD j [];unfold subL at i1⊢;rw[e,<-i1,List.drop_append,List.drop_eq_nil_of_le (by omega),List.nil_append,Nat.add_sub_cancel_left]
   ·show putL (L*(j+1)) (t++r.flatten) u=t++(r.set j u).flatten;rw[<-i2 u hu];unfold putL;rw[e,List.take_append,List.take_of_length_le (by omega),Nat.add_sub_cancel_left,Nat.add_assoc,List.drop_append,List.drop_eq_nil_of_le (by omega),List.nil_append,Nat.add_sub_cancel_left];simp only[List.append_assoc]
theorem ZbM {l:List (List Nat)} (h:∀t∈l,TOk t):TOk l.flatten:=by
 intro x hx;obtain⟨t,ht,hx⟩:=List.mem_flatten.1 hx;exact h t ht x hx
theorem ZiW:(List.replicate 8 (tr0 8)).flatten=List.replicate 2048 1024:=by decide+kernel
def Z3B (M j:Nat):List Nat:=List.replicate j 1024++List.replicate (M-j) 0
theorem Z91 {M j:Nat} (h:j<M):(Z3B M j).set j 1024=Z3B M (j+1):=by
 unfold Z3B;rw[List.set_append_right _ _ (by simp),List.length_replicate,Nat.sub_self,show M-j=(M-(j+1))+1 from by omega,List.replicate_succ,List.set_cons_zero,List.replicate_succ',List.append_assoc];rfl
theorem Z4T {M j:Nat} (h:j<=M):(Z3B M j).length=M:=by simp[Z3B];omega
theorem ZfS (M:Nat):Z3B M M=List.replicate M 1024:=by simp[Z3B]
theorem Z6H (M:Nat):nc (Z3B M 0)=Array.replicate M (.int .i64 0):=by
 apply Array.toList_inj.1;simp[nc,Z3B]
def trc (g j:Nat):Array Value:=((List.range 8).flatMap (λk=>if k<j then[Value.int .i64 8,.slice (some ⟨g,256*k,none⟩) 256 256] else[.int .i64 0,.slice none 0 0])).toArray
theorem ZnP (g:Nat) {j:Nat} (h:j<8):(trc g j)[2*j]? =some (.int .i64 0)/\(trc g j)[2*j+1]? =some (.slice none 0 0)/\((trc g j).setIfInBounds (2*j) (.int .i64 8)).setIfInBounds (2*j+1) (.slice (some ⟨g,256*j,none⟩) 256 256)=trc g (j+1):=by
 rcases(show j=0\/j=1\/j=2\/j=3\/j=4\/j=5\/j=6\/j=7 by omega) with rfl|rfl|rfl|rfl|rfl|rfl|rfl|rfl<;>exact⟨rfl,rfl,rfl⟩
theorem ZcQ (w:World):
  Calls Tryz.prog 115 #[.int .i64 1,.int .i64 1] w λx w'=>x=.returned (.slice (some ⟨w.heap.size+1,0,none⟩) 1 1)/\Bk w' w.heap.size 3 (nc (tr0 1))/\Bk w' (w.heap.size+1) 157 #[.int .i64 1,.slice (some ⟨w.heap.size,0,none⟩) 2 2]/\Below w.heap.size w w':=by
 have bE:=Z1g (P:=Tryz.prog) 31 3 _ _ Tryz.underlying31 Z0R rfl 2 2 rfl (by omega) (by omega) w;rw[<-Z6H] at bE;have oD:∀w:World,(Instr.makeSlice 158 (.int .i64 1) (.int .i64 1)).run Tryz.prog w=.ok (.slice (some ⟨w.heap.size,0,none⟩) 1 1) (w.alloc (.cells #[.int .i64 0,.slice none 0 0] 157)):=λ_=>(by kernel_rfl);go_enter Tryz.func115,Tryz.ntmps115;go_wp2;go_loopw [6,17] (λ_ i wr=>∃j:Nat,j<=2/\i=.int .i64 j/\Bk wr w.heap.size 3 (nc (Z3B 2 j))/\Below w.heap.size w wr/\wr.heap.size=w.heap.size+1) (λ_ i _=>(2-intOf i).toNat);case atStart=>exact⟨0,by omega,rfl,Bk.new _ _ _,(Below.refl _ _).alloc (Nat.le_refl _) _,by simp⟩
 case round=>
  obtain⟨j,hj,rfl,aC,hf,ad⟩:=hrel;by_cases ab:j<2
  ·have hc:=aC.cell j;rw[Z1V _ _ (by rw[Z4T hj];exact ab)] at hc;have fc:=aC.frozen j;have hp:=aC.put j (.int .i64 ((1024:Nat):Int));rw[Z3C,Z91 ab] at hp;have Hp:=h_ hp;have Hz:=h_ ad;clear hp aC ad bE;go_wp2;go_roundw;case rel=>exact⟨j+1,by omega,by go_num,Hp.o,hf.setCell (p:=⟨w.heap.size,j,none⟩) (Nat.le_refl _) _,by simpa using Hz.o⟩
   case measure=>simp[intOf]<;>omega
  ·have lG:j=2:=(by omega);subst lG;have Hz:=h_ ad;have jV:=h_ aC;clear ad aC bE;go_wp2;rw[Hz.o];have ah:=hf.alloc hf.size (.cells #[.int .i64 0,.slice none 0 0] 157);have a8:=jV.o.alloc (.cells #[.int .i64 0,.slice none 0 0] 157);have ae:Bk (wr.alloc (.cells #[.int .i64 0,.slice none 0 0] 157)) (w.heap.size+1) 157 #[.int .i64 0,.slice none 0 0]:=Hz.o▸Bk.new wr _ _;go_loopw [8,9,10,28] (λ_ _ _ i jB=>∃j:Nat,j<=1/\i=.int .i64 j/\(j=0->Bk jB (w.heap.size+1) 157 #[.int .i64 0,.slice none 0 0])/\(j=1->Bk jB (w.heap.size+1) 157 #[.int .i64 1,.slice (some ⟨w.heap.size,0,none⟩) 2 2])/\Bk jB w.heap.size 3 (nc (Z3B 2 2))/\Below w.heap.size w jB) (λ_ _ _ i _=>(1-intOf i).toNat);case atStart=>exact⟨0,by omega,rfl,λ_=>ae,λh=>by omega,a8,ah⟩
   case round=>
    clear ah a8 ae hf;obtain⟨j,hj,rfl,h0,h1,hb,hf⟩:=hrel;by_cases ab:j<1
    ·have hU:j=0:=(by omega);subst hU;have aA:=h0 rfl;have q0:=aA.cell 0;have q1:=aA.cell 1;have p0:=aA.frozen 0;have p1:=aA.frozen 1;simp at q0 q1;have aI:=h_ aA;clear h0 h1 aA ab;go_wp2;go_region;go_wp2;go_roundw
     case rel=>
      refine⟨1,by omega,rfl,λh=>by omega,λ_=> ?_,?_,?_⟩
      ·have h9:=(aI.o.put 0 (.int .i64 1)).put 1 (.slice (some ⟨w.heap.size,0,none⟩) 2 2);have h8:=h9.drew;simpa using h8
      ·exact((hb.off (p:=⟨w.heap.size+1,0,none⟩) (by simp) _).off (p:=⟨w.heap.size+1,1,none⟩) (by simp) _).drew
      ·exact((hf.setCell (p:=⟨w.heap.size+1,0,none⟩) (by simp) _).setCell (p:=⟨w.heap.size+1,1,none⟩) (by simp) _).drew
     case measure=>simp[intOf]
    ·have nK:j=1:=(by omega);subst nK;have a7:=h_ (h1 rfl);clear h0 h1;go_wp2;go_ret;exact⟨rfl,by rw[show tr0 1=Z3B 2 2 from by decide];exact hb,a7.o,hf⟩
theorem ZcR (w:World):
  Calls Tryz.prog 115 #[.int .i64 8,.int .i64 8] w λx w'=>x=.returned (.slice (some ⟨w.heap.size+1,0,none⟩) 8 8)/\Bk w' w.heap.size 3 (nc (List.replicate 2048 1024))/\Bk w' (w.heap.size+1) 157 (trc w.heap.size 8)/\Below w.heap.size w w':=by
 have bE:=Z1g (P:=Tryz.prog) 31 3 _ _ Tryz.underlying31 Z0R rfl 2048 2048 rfl (by omega) (by omega) w;rw[<-Z6H] at bE;obtain⟨TC,rG⟩:∃T,trc w.heap.size 0=T:=⟨_,rfl⟩;have oD:∀W:World,(Instr.makeSlice 158 (.int .i64 8) (.int .i64 8)).run Tryz.prog W=.ok (.slice (some ⟨W.heap.size,0,none⟩) 8 8) (W.alloc (.cells TC 157)):=λ_=>(by rw[<-rG];kernel_rfl);have uH:=h_ rG;have ar:=h_ (ZfS 2048);obtain⟨HM,L8⟩:∃f:Nat->List Nat,(λj=>Z3B 2048 j)=f:=⟨_,rfl⟩;have yX:∀j,Z3B 2048 j=HM j:=λj=>congrFun L8 j;have aT:=h_ (λj (h:j<2048)=>(Z91 h:(Z3B 2048 j).set j 1024=_));have aq:=h_ (λj (h:j<=2048)=>(Z4T h:(Z3B 2048 j).length=2048));simp only[yX] at aT aq ar bE;clear rG L8 yX;go_enter Tryz.func115,Tryz.ntmps115;go_wp2;go_loopw [6,17] (λ_ i wr=>∃j:Nat,j<=2048/\i=.int .i64 j/\Bk wr w.heap.size 3 (nc (HM j))/\Below w.heap.size w wr/\wr.heap.size=w.heap.size+1) (λ_ i _=>(2048-intOf i).toNat);case atStart=>exact⟨0,by omega,rfl,Bk.new _ _ _,(Below.refl _ _).alloc (Nat.le_refl _) _,by simp⟩
 case round=>
  obtain⟨j,hj,rfl,aC,hf,ad⟩:=hrel;by_cases ab:j<2048
  ·have hc:=aC.cell j;rw[Z1V _ _ (by rw[aq.o j hj];exact ab)] at hc;have fc:=aC.frozen j;have hp:=aC.put j (.int .i64 ((1024:Nat):Int));rw[Z3C,aT.o j ab] at hp;have Hp:=h_ hp;have Hz:=h_ ad;have di:(j:Int)<2048:=(by omega);clear hp aC ad bE;go_wp2;go_roundw;case rel=>exact⟨j+1,by omega,by go_num,Hp.o,hf.setCell (p:=⟨w.heap.size,j,none⟩) (Nat.le_refl _) _,by simpa using Hz.o⟩
   case measure=>simp[intOf]<;>omega
  ·have lG:j=2048:=(by omega);subst lG;have Hz:=h_ ad;have jV:=h_ aC;clear ad aC bE;go_wp2;rw[Hz.o];have ah:=hf.alloc hf.size (.cells TC 157);have a8:=jV.o.alloc (.cells TC 157);have ae:Bk (wr.alloc (.cells TC 157)) (w.heap.size+1) 157 (trc w.heap.size 0):=(by rw[uH.o];exact Hz.o▸Bk.new wr _ _);go_loopw [8,9,10,28] (λ_ _ _ i jB=>∃j:Nat,j<=8/\i=.int .i64 j/\Hid (Bk jB (w.heap.size+1) 157 (trc w.heap.size j))/\Hid (Bk jB w.heap.size 3 (nc (HM 2048)))/\Hid (Below w.heap.size w jB)) (λ_ _ _ i _=>(8-intOf i).toNat);case atStart=>exact⟨0,by omega,rfl,h_ ae,h_ a8,h_ ah⟩
   case round=>
    clear ah a8 ae hf;obtain⟨j,hj,rfl,h0,hb,hf⟩:=hrel;by_cases ab:j<8
    ·obtain⟨t0,t1,t2⟩:=ZnP w.heap.size ab;have q0:=h0.o.cell (2*j);have q1:=h0.o.cell (2*j+1);have p0:=h0.o.frozen (2*j);have p1:=h0.o.frozen (2*j+1);rw[t0] at q0;rw[t1] at q1;have Hp:=(h0.o.put (2*j) (.int .i64 8)).put (2*j+1) (.slice (some ⟨w.heap.size,256*j,none⟩) 256 256);rw[t2] at Hp;have Hp:=h_ Hp;have Hb:=h_ ((hb.o.off (p:=⟨w.heap.size+1,2*j,none⟩) (by simp) (.int .i64 8)).off (p:=⟨w.heap.size+1,2*j+1,none⟩) (by simp) (.slice (some ⟨w.heap.size,256*j,none⟩) 256 256));have Hf:=h_ ((hf.o.setCell (p:=⟨w.heap.size+1,2*j,none⟩) (by simp) (.int .i64 8)).setCell (p:=⟨w.heap.size+1,2*j+1,none⟩) (by simp) (.slice (some ⟨w.heap.size,256*j,none⟩) 256 256));clear t0 t1 t2 h0 hb hf;rcases(show j=0\/j=1\/j=2\/j=3\/j=4\/j=5\/j=6\/j=7 by omega) with rfl|rfl|rfl|rfl|rfl|rfl|rfl|rfl
     all_goals
      clear ab;simp only[Nat.reduceMul,Nat.reduceAdd] at q0 q1 p0 p1 Hp Hb Hf;go_wp2;go_region;go_wp2;go_roundw;case rel=>first|exact⟨1,by decide,rfl,h_ Hp.o.drew,h_ Hb.o.drew,h_ Hf.o.drew⟩|exact⟨2,by decide,rfl,h_ Hp.o.drew,h_ Hb.o.drew,h_ Hf.o.drew⟩|exact⟨3,by decide,rfl,h_ Hp.o.drew,h_ Hb.o.drew,h_ Hf.o.drew⟩|exact⟨4,by decide,rfl,h_ Hp.o.drew,h_ Hb.o.drew,h_ Hf.o.drew⟩|exact⟨5,by decide,rfl,h_ Hp.o.drew,h_ Hb.o.drew,h_ Hf.o.drew⟩|exact⟨6,by decide,rfl,h_ Hp.o.drew,h_ Hb.o.drew,h_ Hf.o.drew⟩|exact⟨7,by decide,rfl,h_ Hp.o.drew,h_ Hb.o.drew,h_ Hf.o.drew⟩|exact⟨8,by decide,rfl,h_ Hp.o.drew,h_ Hb.o.drew,h_ Hf.o.drew⟩
      case measure=>simp[intOf]
    ·have nK:j=8:=(by omega);subst nK;go_wp2;go_ret;exact⟨rfl,by rw[<-ar.o];exact hb.o,h0.o,hf.o⟩
end Go.Proofs.YtchokmkfobandaaGreatDoor
