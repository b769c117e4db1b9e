import Derived.Test.YtchokmkfobandaaGreatDoorJ09
import Derived.Test.YtchokmkfobandaaGreatDoorJ11
set_option linter.unusedVariables false
set_option linter.unusedSimpArgs false
set_option maxRecDepth 100000
set_option maxHeartbeats 8000000
namespace Go.Proofs.YtchokmkfobandaaGreatDoor
open Go.RowKit Go.Proofs Wv Wv.Vi Wv.Rc Wv.Mo
def Z2t:Nat->Nat->Nat->Nat->List Nat->En->List Nat×En
 |0,_,_,_,t,e=>(t,e)
 |n+1,q,v,m,t,e=>Z2t n q v (2*m+v/2 ^ n % 2) (t.set (q+m) (Y3 (t.getD (q+m) 0) (v/2 ^ n % 2))) (ebit (t.getD (q+m) 0) (v/2 ^ n % 2) e)
def Xv:Nat->Nat->Nat->List Nat->De->Nat×List Nat×De
 |0,_,m,t,d=>(m,t,d)
 |n+1,q,m,t,d=>Xv n q (2*m+dbt (t.getD (q+m) 0) d) (t.set (q+m) (Y3 (t.getD (q+m) 0) (dbt (t.getD (q+m) 0) d))) (dbit (t.getD (q+m) 0) d)
theorem Z2K (n q v m:Nat) (t:List Nat) (e:En):Z2t (n+1) q v m t e=Z2t n q v (2*m+v/2 ^ n % 2) (t.set (q+m) (Y3 (t.getD (q+m) 0) (v/2 ^ n % 2))) (ebit (t.getD (q+m) 0) (v/2 ^ n % 2) e):=rfl
theorem Z2L (n q m:Nat) (t:List Nat) (d:De):Xv (n+1) q m t d=Xv n q (2*m+dbt (t.getD (q+m) 0) d) (t.set (q+m) (Y3 (t.getD (q+m) 0) (dbt (t.getD (q+m) 0) d))) (dbit (t.getD (q+m) 0) d):=rfl
def subL (q L:Nat) (t:List Nat):List Nat:=(t.drop q).take L
def putL (q:Nat) (t u:List Nat):List Nat:=t.take q++u++t.drop (q+u.length)
theorem Z3P {q L:Nat} {t:List Nat} (h:q+L<=t.length):(subL q L t).length=L:=by unfold subL;rw[Vau,Va2];omega
theorem Z7K {q L:Nat} {t:List Nat} (h:q+L<=t.length):putL q t (subL q L t)=t:=by
 unfold putL;rw[Z3P h];unfold subL;rw[Vay,<-Vcz,Vcb,Vcb]
theorem Z4X {q L m:Nat} {t:List Nat} (hm:m<L):(subL q L t).getD m 0=t.getD (q+m) 0:=by
 unfold subL;simp[List.getD,List.getElem?_take_of_lt hm]
theorem Z7L {q L m z:Nat} {t u:List Nat} (h:q+L<=t.length) (hm:m<L) (hu:u.length=L):putL q (t.set (q+m) z) u=putL q t u:=by
 unfold putL;rw[hu,List.take_set,List.drop_set];rw[List.set_eq_of_length_le (by rw[Vau];omega),Vaf (by omega)]
theorem Z7M {q L m z:Nat} {t:List Nat} (h:q+L<=t.length) (hm:m<L):subL q L (t.set (q+m) z)=(subL q L t).set m z:=by
 unfold subL;rw[List.drop_set,Vad (by omega),List.take_set,Nat.add_sub_cancel_left]
theorem Z7N (n:Nat):∀(q v m L:Nat) {t:List Nat} {e:En},q+L<=t.length->(m+1)*2 ^ n<=2*L->Z2t n q v m t e=(putL q t (tenc n v m (subL q L t) e).1,(tenc n v m (subL q L t) e).2)/\(tenc n v m (subL q L t) e).1.length=L:=by
 induction n with
 |zero=>intro q v m L t e h _;exact⟨by show(t,e)=_;rw[tenc,Z7K h],Z3P h⟩
 |succ n ih=>
  intro q v m L t e h hm;have tO:m<L:=YV (n:=n) hm;have hb:v/2 ^ n % 2<2:=(by omega);rw[Z2K,Z4v];have hl:q+L<=(t.set (q+m) (Y3 (t.getD (q+m) 0) (v/2 ^ n % 2))).length:=(by rw[Vbh];exact h);obtain⟨i1,i2⟩:=ih q v (2*m+v/2 ^ n % 2) L (t:=t.set (q+m) (Y3 (t.getD (q+m) 0) (v/2 ^ n % 2))) (e:=ebit (t.getD (q+m) 0) (v/2 ^ n % 2) e) hl (ZT hb hm);rw[Z7M h tO] at i1 i2;rw[Z4X tO];exact⟨by rw[i1,Z7L h tO i2],i2⟩
theorem Z7O (n:Nat):∀(q m L:Nat) {t:List Nat} {d:De},q+L<=t.length->(m+1)*2 ^ n<=2*L->Xv n q m t d=((tdec n m (subL q L t) d).1,putL q t (tdec n m (subL q L t) d).2.1,(tdec n m (subL q L t) d).2.2)/\(tdec n m (subL q L t) d).2.1.length=L:=by
 induction n with
 |zero=>intro q m L t d h _;exact⟨by show(m,t,d)=_;rw[tdec,Z7K h],Z3P h⟩
 |succ n ih=>
  intro q m L t d h hm;have tO:m<L:=YV (n:=n) hm;have hb:=Z1B (t.getD (q+m) 0) d;rw[Z2L,Z4w,Z4X tO];have hl:q+L<=(t.set (q+m) (Y3 (t.getD (q+m) 0) (dbt (t.getD (q+m) 0) d))).length:=(by rw[Vbh];exact h);obtain⟨i1,i2⟩:=ih q (2*m+dbt (t.getD (q+m) 0) d) L (t:=t.set (q+m) (Y3 (t.getD (q+m) 0) (dbt (t.getD (q+m) 0) d))) (d:=dbit (t.getD (q+m) 0) d) hl (ZT (by omega) hm);rw[Z7M h tO] at i1 i2;exact⟨by rw[i1,Z7L h tO i2],i2⟩
structure TrA (w:World) (b o g q n:Nat) (t:List Nat):Prop where
 c0:w.cell? ⟨b,o,none⟩=some (.int .i64 (n:Int))
 c1:w.cell? ⟨b,o+1,none⟩=some (.slice (some ⟨g,q,none⟩) (2 ^ n) (2 ^ n))
 nd:Bk w g 3 (nc t)
 ne:b≠g
 lt:b<w.heap.size
theorem TrA.drew {w:World} {b o g q n:Nat} {t:List Nat} (h:TrA w b o g q n t):TrA w.drew b o g q n t:=⟨h.c0,h.c1,h.nd,h.ne,h.lt⟩
theorem TrA.fr {S:Nat->Prop} {w w':World} {b o g q n:Nat} {t:List Nat} (h:TrA w b o g q n t) (hf:Fr S w w') (h1:¬S b) (h2:¬S g):TrA w' b o g q n t:=
 ⟨by rw[hf.cell (p:=⟨b,o,none⟩) h.lt h1];exact h.c0,by rw[hf.cell (p:=⟨b,o+1,none⟩) h.lt h1];exact h.c1,h.nd.fr hf h2,h.ne,Va5 h.lt hf.size⟩
theorem TrA.put {w:World} {b o g q n:Nat} {t:List Nat} (h:TrA w b o g q n t) (m z:Nat):TrA (w.setCell ⟨g,m,none⟩ (.int .i64 (z:Int))) b o g q n (t.set m z):=by
 have hf:Fr (only g) w (w.setCell ⟨g,m,none⟩ (.int .i64 (z:Int))):=(Fr.refl (only g) w).setCell (p:=⟨g,m,none⟩) (.inl rfl) _;have az:¬only g b:=h.ne;refine⟨by rw[hf.cell (p:=⟨b,o,none⟩) h.lt az];exact h.c0,by rw[hf.cell (p:=⟨b,o+1,none⟩) h.lt az];exact h.c1,?_,h.ne,Va5 h.lt hf.size⟩;have:=h.nd.put m (.int .i64 (z:Int))
 rwa [QD] at this
theorem EnAt.offG {w:World} {g eb m:Nat} {dv x:Value} {e:En} (he:EnAt w eb dv e) (h:¬foot eb dv g):EnAt (w.setCell ⟨g,m,none⟩ x) eb dv e:=
 he.fr (S:=only g) ((Fr.refl (only g) w).setCell (p:=⟨g,m,none⟩) (.inl rfl) x) (λe=>h (.inl e.symm)) (λk hk e=>h (.inr (by rw[hk];exact congrArg some e)))
theorem DAt.offG {w:World} {g eb m:Nat} {x:Value} {d:De} (he:DAt w eb d) (h:g≠eb):DAt (w.setCell ⟨g,m,none⟩ x) eb d:=
 he.fr (S:=only g) ((Fr.refl (only g) w).setCell (p:=⟨g,m,none⟩) (.inl rfl) x) (λe=>h e.symm)
theorem Z1h {w:World} {eb g:Nat} {dv:Value} {e:En} {t:List Nat} (he:EnAt w eb dv e) (h:Bk w g 3 (nc t)):¬foot eb dv g:=λhs=>by
 rcases hs with hs|hs
 ·exact Bk.apart h he.1 (by decide) hs
 ·exact Z2 he.2 h (by decide) hs
theorem Z2M {w w1:World} {eb b:Nat} {dv dr:Value} (h:¬foot eb dv b) (ho:Zo w dv dr) (hb:b<w.heap.size):¬foot eb dr b:=λhs=>by
 rcases hs with hs|hs
 ·exact h (.inl hs)
 ·rcases ho with ho|ho
  ·exact h (.inr (ho▸hs))
  ·have:=ho b hs;omega
theorem Z7P {n:Nat} (h:n<=8):2 ^ n<=256:=Vaq (Vby (by omega) h) (by decide)
theorem Z4Y {w:World} {b o g q n eb:Nat} {dv:Value} {t:List Nat} {e:En} (h:TrA w b o g q n t) (hn:n<=8) (DG:q+2 ^ n<=t.length) (fK:t.length<=1000000) (ht:TOk t) (he:EnAt w eb dv e) (G9:¬foot eb dv b) (hv:Val 0 e) (v:Nat) (yV:v<=9223372036854775807) (hl:e.out.length<=800000):
  Calls Tryz.prog 132 #[.pointer (some ⟨b,o,none⟩),.pointer (some ⟨eb,0,none⟩),.int .i64 (v:Int)] w λx w'=>x=.returned (.tuple #[])/\TrA w' b o g q n (Z2t n q v 1 t e).1/\∃cK,EnAt w' eb cK (Z2t n q v 1 t e).2/\Fr (Z13 g eb dv) w w'/\Zo w dv cK:=by
 have ha:=and1;have c0:=h.c0;have cD:=h.lt;obtain⟨N,hN⟩:∃N,(2:Nat) ^ n=N:=⟨_,rfl⟩;have zG:N<=256:=(by rw[<-hN];exact Z7P hn);have fT:(1+1)*2 ^ n<=2*N:=(by rw[hN];omega);have HN:=h_ hN;rw[hN] at DG;clear hN;go_enter Tryz.func132,Tryz.ntmps132;go_wp2;go_loopw [6,7] (λmv i wr=>∃(j m:Nat) (dr:Value) (u:List Nat) (x:En),j<=n/\i=.int .i64 ((j:Int)-1)/\mv=.int .i64 m/\Hid ((m+1)*2 ^ j<=2*N)/\TrA wr b o g q n u/\TOk u/\u.length=t.length/\EnAt wr eb dr x/\Val 0 x/\Hid (Z2t j q v m u x=Z2t n q v 1 t e)/\Fr (Z13 g eb dv) w wr/\Zo w dv dr/\x.out.length+2*j<=800000+2*n) (λ_ i _=>(intOf i+1).toNat);case atStart=>exact⟨n,1,dv,t,e,UZz,rfl,rfl,h_ fT,h,ht,rfl,he,hv,h_ rfl,Fr.refl _ _,.inl rfl,by omega⟩
 case round=>
  clear c0 h ht he hv fT;obtain⟨j,m,dr,u,x,hj,rfl,rfl,hm,hu,jg,pz,hx,fW,ng,hf,ew,KT⟩:=hrel;by_cases ab:0<j
  ·obtain⟨k,rfl⟩:∃k,j=k+1:=⟨j-1,by omega⟩;have zH:m<N:=YV (n:=k) hm.o;have nh:q+m<u.length:=(by omega);have aQ:=Z2K k q v m u x;have i1:((k+1:Nat):Int)-1=(k:Int):=(by omega);rw[i1];obtain⟨y,hy⟩:∃y,v/2 ^ k % 2=y:=⟨_,rfl⟩;have lY:y<2:=(by omega);have i2:(v:Int)/2 ^ k % 2=(y:Int):=(by rw[<-hy,Int.natCast_emod,Int.natCast_ediv,Int.natCast_pow];rfl);have hp:=XE jg nh;have Ga:=h_ (show(2*m+y+1)*2 ^ k<=2*N from ZT (L:=N) lY hm.o);have q1:=hu.c1;rw[HN.o] at q1;have qm:=hu.nd.cell (q+m);rw[X0 u (q+m) nh] at qm;obtain⟨z,hz⟩:∃z,u.getD (q+m) 0=z:=⟨_,rfl⟩;rw[hy,hz] at aQ;rw[hz] at qm hp;have Gb:(m:Int)<(N:Int):=(by omega);have Hb:=h_ (Z3k hx fW z y hp.1 hp.2 lY (by omega));have Ha:=h_ (Z02 z y hp.1 hp.2 lY);have tC:=Z01 z y x;have hval:=Xe fW (b:=y) hp.1 hp.2;have Rt:=Z1h hx hu.nd;have Gc:=Z2M (w1:=wr) G9 ew cD;have oU:TOk (u.set (q+m) (Y3 z y)):=XF jg (q+m) (YL hp);have pA:(u.set (q+m) (Y3 z y)).length=t.length:=(by rw[Vbh];exact pz);have aT:=h_ aQ;have Hu:=h_ hu;have Gd:=h_ pA;have lX:k<=7:=(by omega);clear aQ hu hy hz hx fW jg hm nh pz pA;go_wp2_with fail;refine(Hb.o).mono ?_;rintro r w1 ⟨rfl,yW,cO,ai,dD⟩;have fF:=Hu.o.fr ai Gc Rt;have r1:=fF.c1;rw[HN.o] at r1;have rm:=fF.nd.cell (q+m);have fm:=fF.nd.frozen (q+m);have oW:(nc u)[q+m]? =some (.int .i64 (z:Int)):=(Hu.o.nd.cell (q+m)).symm.trans qm;rw[oW] at rm;clear q1 qm oW;have hs:=hf.size;have Ge:=Z1h cO fF.nd;go_wp2;go_region_with ((go_at_call 177;refine(Ha.o _).mono ?_;rintro r w9 ⟨rfl,rfl⟩))
   all_goals
    go_wp2;go_roundw;case rel=>exact⟨k,2*m+y,yW,u.set (q+m) (Y3 z y),ebit z y x,by omega,rfl,by congr 1,Ga,(fF.put (q+m) _).drew,oU,Gd.o,(cO.offG Ge).drew,hval,h_ (by rw[<-aT.o];exact ng.o),(Zat (Z3o hf ai ew)).drew,ew.trans dD hs,by omega⟩
    case measure=>simp[intOf]<;>omega
  ·have gI:j=0:=(by omega);subst gI;go_wp2;go_end0;have:=ng.o;rw[Z2t] at this;rw[<-this];exact⟨rfl,hu,dr,hx,hf,ew⟩
theorem ZbX (n:Nat):∀(q m L:Nat) (t:List Nat) (d:De),TOk t->q+L<=t.length->(m+1)*2 ^ n<=2*L->DV 0 d->TOk (Xv n q m t d).2.1/\(Xv n q m t d).2.1.length=t.length/\DV 0 (Xv n q m t d).2.2/\m*2 ^ n<=(Xv n q m t d).1/\(Xv n q m t d).1<(m+1)*2 ^ n:=by
 induction n with
 |zero=>intro q m L t d h1 _ _ h3;exact⟨h1,rfl,h3,by simp[Xv],by simp[Xv]⟩
 |succ n ih=>
  intro q m L t d h1 hq h2 h3;have tO:m<L:=YV (n:=n) h2;have hp:=XE h1 (show q+m<t.length by omega);have hb:=Z1B (t.getD (q+m) 0) d;obtain⟨a,b,c,p,r⟩:=ih q (2*m+dbt (t.getD (q+m) 0) d) L _ (dbit (t.getD (q+m) 0) d) (XF h1 (q+m) (YL (b:=dbt (t.getD (q+m) 0) d) hp)) (by rw[Vbh];exact hq) (ZT (by omega) h2) (Z4u h3 hp.1 hp.2);rw[Xv];refine⟨a,by rw[b,Vbh],c,Vaq ?_ p,Va5 r ?_⟩
  ·rw[Vbr,Vbt _ 2,<-Vb4];exact Vb2 _ (by omega)
  ·rw[Vbr,Vbt _ 2,<-Vb4];exact Vb2 _ (by omega)
theorem Z4Z {w:World} {b o g q n eb:Nat} {t:List Nat} {d:De} (h:TrA w b o g q n t) (hn:n<=8) (DG:q+2 ^ n<=t.length) (fK:t.length<=1000000) (ht:TOk t) (he:DAt w eb d) (iA:b≠eb) (hv:DV 0 d):
  Calls Tryz.prog 222 #[.pointer (some ⟨b,o,none⟩),.pointer (some ⟨eb,0,none⟩)] w λx w'=>x=.returned (.int .i64 (((Xv n q 1 t d).1-2 ^ n:Nat):Int))/\TrA w' b o g q n (Xv n q 1 t d).2.1/\DAt w' eb (Xv n q 1 t d).2.2/\Fr (Z2m g eb) w w':=by
 have c0:=h.c0;have cD:=h.lt;obtain⟨N,hN⟩:∃N,(2:Nat) ^ n=N:=⟨_,rfl⟩;have zG:N<=256:=(by rw[<-hN];exact Z7P hn);have fT:(1+1)*2 ^ n<=2*N:=(by rw[hN];omega);have jP:=(ZbX n q 1 N t d ht (by rw[<-hN];exact DG) fT hv).2.2.2;rw[hN] at jP DG fT;rw[hN];have HN:=h_ hN;have Gf:(2:Int) ^ n=(N:Int):=(by rw[<-hN,Int.natCast_pow];rfl);have se:Hid ((1+1)*2 ^ (n-0)<=2*N):=h_ (by rw[Nat.sub_zero,HN.o];omega);clear hN;go_enter Tryz.func222,Tryz.ntmps222;go_wp2;go_loopw [5,11] (λmv i wr=>∃(j m:Nat) (u:List Nat) (x:De),j<=n/\i=.int .i64 (j:Int)/\mv=.int .i64 m/\Hid ((m+1)*2 ^ (n-j)<=2*N)/\TrA wr b o g q n u/\TOk u/\u.length=t.length/\DAt wr eb x/\DV 0 x/\Hid (Xv (n-j) q m u x=Xv n q 1 t d)/\Fr (Z2m g eb) w wr) (λ_ i _=>(n-intOf i).toNat);case atStart=>exact⟨0,1,t,d,Vat _,rfl,rfl,se,h,ht,rfl,he,hv,h_ rfl,Fr.refl _ _⟩
 case round=>
  clear c0 h ht he hv fT se;obtain⟨j,m,u,x,hj,rfl,rfl,hm,hu,jg,pz,hx,fW,ng,hf⟩:=hrel;by_cases ab:j<n
  ·have dp:(j:Int)<(n:Int):=(by omega);obtain⟨k,hk⟩:∃k,n-j=k+1:=⟨n-j-1,by omega⟩;have yZ:n-(j+1)=k:=(by omega);rw[hk] at hm ng;have zH:m<N:=YV (n:=k) hm.o;have nh:q+m<u.length:=(by omega);have aQ:=Z2L k q m u x;have hp:=XE jg nh;have z7:=Z1B (u.getD (q+m) 0) x;have q1:=hu.c1;rw[HN.o] at q1;have qm:=hu.nd.cell (q+m);rw[X0 u (q+m) nh] at qm;obtain⟨z,hz⟩:∃z,u.getD (q+m) 0=z:=⟨_,rfl⟩;rw[hz] at aQ z7 qm hp;obtain⟨y,hy⟩:∃y,dbt z x=y:=⟨_,rfl⟩;rw[hy] at aQ z7;have lY:y<2:=(by omega);have Ga:=h_ (show(2*m+y+1)*2 ^ k<=2*N from ZT (L:=N) lY hm.o);have Gb:(m:Int)<(N:Int):=(by omega);have Hb:=Z3n hx fW z hp.1 hp.2;rw[hy] at Hb;have Hb:=h_ Hb;have Ha:=h_ (Z02 z y hp.1 hp.2 lY);have hval:=Z4u fW hp.1 hp.2;have zI:g≠eb:=Bk.apart hu.nd hx (by decide);have oU:TOk (u.set (q+m) (Y3 z y)):=XF jg (q+m) (YL hp);have pA:(u.set (q+m) (Y3 z y)).length=t.length:=(by rw[Vbh];exact pz);have Gd:=h_ pA;have aT:=h_ aQ;have Hu:=h_ hu;have z8:=h_ yZ;clear aQ hu hy hz hx fW jg hm nh pz pA hk yZ jP;go_wp2_with fail;refine(Hb.o).mono ?_;rintro r w1 ⟨rfl,cO,ai⟩;have fF:=Hu.o.fr ai iA zI;have r1:=fF.c1;rw[HN.o] at r1;have rm:=fF.nd.cell (q+m);have fm:=fF.nd.frozen (q+m);have oW:(nc u)[q+m]? =some (.int .i64 (z:Int)):=(Hu.o.nd.cell (q+m)).symm.trans qm;rw[oW] at rm;clear q1 qm oW;go_wp2;go_region_with ((go_at_call 177;refine(Ha.o _).mono ?_;rintro r w9 ⟨rfl,rfl⟩))
   all_goals
    go_wp2;go_roundw;case rel=>exact⟨j+1,2*m+y,u.set (q+m) (Y3 z y),dbit z x,by omega,by go_num,by congr 1,by rw[z8.o];exact Ga,(fF.put (q+m) _).drew,oU,Gd.o,(cO.offG zI).drew,hval,h_ (by rw[z8.o,<-aT.o];exact ng.o),((hf.trans' ai (λi hi e=>.inr e)).setCell (p:=⟨g,q+m,none⟩) (.inl (.inl rfl)) _).drew⟩
    case measure=>simp[intOf]<;>omega
  ·have iB:n=j:=(by omega);subst iB;have hh:=ng.o;rw[Va7,Xv] at hh;have q0:=hu.c0;have jL:(Xv n q 1 t d).1=m:=(by rw[<-hh]);rw[jL] at jP;have oY:N<=m:=(by omega);have nh:m<2*N:=(by omega);have Hh:=h_ hh;have Gg:¬(n:Int)<(n:Int):=(by omega);clear jP jL hh hm;go_wp2;go_ret;rw[<-Hh.o];exact⟨Zw (by simp only;omega),hu,hx,hf⟩
open Wv.Lz
theorem ZbY {L:Nat} {l:List (List Nat)} (h:∀t∈l,t.length=L):l.flatten.length=L*l.length:=by
 induction l with
 |nil=>simp
 |cons t r ih=>
  rw[List.flatten_cons,Vab,h t Vap,ih (λx hx=>h x (Var _ hx)),Vaz,Vde];omega
theorem Z1N {L:Nat} :∀ {l:List (List Nat)},(∀t∈l,t.length=L)->∀ {j:Nat},j<l.length->subL (L*j) L l.flatten=l.getD j []/\∀u:List Nat,u.length=L->putL (L*j) l.flatten u=(l.set j u).flatten
 |[],_,j,hj=>by simp at hj
 |t::r,h,j,hj=>by
  have ht:=h t Vap;have hr:=λx hx=>h x (Var _ hx);cases j with
  |zero=>
   refine⟨?_,λu hu=> ?_⟩
   ·show subL 0 L (t++r.flatten)=t;unfold subL;rw[Vco,<-ht,Vcy]
   ·show putL 0 (t++r.flatten) u=u++r.flatten;unfold putL;rw[Vbw,Vbz,Vbo,hu,<-ht,Vcn]
  |succ j=>
   obtain⟨i1,i2⟩:=Z1N (L:=L) (l:=r) hr (j:=j) (by simpa using hj);have e:L*(j+1)=t.length+L*j:=(by rw[ht,Vde];omega);refine⟨?_,λu hu=> ?_⟩
   ·show subL (L*(j+1)) L (t++r.flatten)=r.getD j [];unfold subL at i1⊢;rw[e,<-i1,List.drop_append,Vbf (by omega),Vbz,Nat.add_sub_cancel_left]
   ·show putL (L*(j+1)) (t++r.flatten) u=t++(r.set j u).flatten;rw[<-i2 u hu];unfold putL;rw[e,List.take_append,Vah (by omega),Nat.add_sub_cancel_left,Vc6,List.drop_append,Vbf (by omega),Vbz,Nat.add_sub_cancel_left];simp only[Vay]
theorem Z7Q {l:List (List Nat)} (h:∀t∈l,TOk t):TOk l.flatten:=by
 intro x hx;obtain⟨t,ht,hx⟩:=List.mem_flatten.1 hx;exact h t ht x hx
theorem Zfe:(List.replicate 8 (tr0 8)).flatten=List.replicate 2048 1024:=by decide+kernel
def QC (M j:Nat):List Nat:=List.replicate j 1024++List.replicate (M-j) 0
theorem Z50 {M j:Nat} (h:j<M):(QC M j).set j 1024=QC M (j+1):=by
 unfold QC;rw[Va8 _ _ (by simp),Vaw,Va7,show M-j=(M-(j+1))+1 from by omega,Vbg,List.set_cons_zero,List.replicate_succ',Vay];rfl
theorem Z0U {M j:Nat} (h:j<=M):(QC M j).length=M:=by simp[QC];omega
theorem ZbZ (M:Nat):QC M M=List.replicate M 1024:=by simp[QC]
theorem Z2N (M:Nat):nc (QC M 0)=Array.replicate M (.int .i64 0):=by
 apply Vbj.1;simp[nc,QC]
def trc (g j:Nat):Array Value:=((List.range 8).flatMap (λk=>if k<j then[Value.int .i64 8,.slice (some ⟨g,256*k,none⟩) 256 256] else[.int .i64 0,.slice none 0 0])).toArray
theorem Zkj (g:Nat) {j:Nat} (h:j<8):(trc g j)[2*j]? =some (.int .i64 0)/\(trc g j)[2*j+1]? =some (.slice none 0 0)/\((trc g j).setIfInBounds (2*j) (.int .i64 8)).setIfInBounds (2*j+1) (.slice (some ⟨g,256*j,none⟩) 256 256)=trc g (j+1):=by
 rcases(show j=0\/j=1\/j=2\/j=3\/j=4\/j=5\/j=6\/j=7 by omega) with rfl|rfl|rfl|rfl|rfl|rfl|rfl|rfl<;>exact⟨rfl,rfl,rfl⟩
theorem Z8Y (w:World):
  Calls Tryz.prog 115 #[.int .i64 1,.int .i64 1] w λx w'=>x=.returned (.slice (some ⟨w.heap.size+1,0,none⟩) 1 1)/\Bk w' w.heap.size 3 (nc (tr0 1))/\Bk w' (w.heap.size+1) 157 #[.int .i64 1,.slice (some ⟨w.heap.size,0,none⟩) 2 2]/\Below w.heap.size w w':=by
 have bG:=Yg (P:=Tryz.prog) 31 3 _ _ Tryz.underlying31 ZQ rfl 2 2 rfl (by omega) (by omega) w;rw[<-Z2N] at bG;have oZ:∀w:World,(Instr.makeSlice 158 (.int .i64 1) (.int .i64 1)).run Tryz.prog w=.ok (.slice (some ⟨w.heap.size,0,none⟩) 1 1) (w.alloc (.cells #[.int .i64 0,.slice none 0 0] 157)):=λ_=>(by kernel_rfl);go_enter Tryz.func115,Tryz.ntmps115;go_wp2;go_loopw [6,17] (λ_ i wr=>∃j:Nat,j<=2/\i=.int .i64 j/\Bk wr w.heap.size 3 (nc (QC 2 j))/\Below w.heap.size w wr/\wr.heap.size=w.heap.size+1) (λ_ i _=>(2-intOf i).toNat);case atStart=>exact⟨0,by omega,rfl,Bk.new _ _ _,(Vae _ _).alloc UZz _,by simp⟩
 case round=>
  obtain⟨j,hj,rfl,aD,hf,ad⟩:=hrel;by_cases ab:j<2
  ·have hc:=aD.cell j;rw[X0 _ _ (by rw[Z0U hj];exact ab)] at hc;have fc:=aD.frozen j;have hp:=aD.put j (.int .i64 ((1024:Nat):Int));rw[QD,Z50 ab] at hp;have Hp:=h_ hp;have Hz:=h_ ad;clear hp aD ad bG;go_wp2;go_roundw;case rel=>exact⟨j+1,by omega,by go_num,Hp.o,hf.setCell (p:=⟨w.heap.size,j,none⟩) UZz _,by simpa using Hz.o⟩
   case measure=>simp[intOf]<;>omega
  ·have ma:j=2:=(by omega);subst ma;have Hz:=h_ ad;have kE:=h_ aD;clear ad aD bG;go_wp2;rw[Hz.o];have ai:=hf.alloc hf.size (.cells #[.int .i64 0,.slice none 0 0] 157);have a8:=kE.o.alloc (.cells #[.int .i64 0,.slice none 0 0] 157);have af:Bk (wr.alloc (.cells #[.int .i64 0,.slice none 0 0] 157)) (w.heap.size+1) 157 #[.int .i64 0,.slice none 0 0]:=Hz.o▸Bk.new wr _ _;go_loopw [8,9,10,28] (λ_ _ _ i kP=>∃j:Nat,j<=1/\i=.int .i64 j/\(j=0->Bk kP (w.heap.size+1) 157 #[.int .i64 0,.slice none 0 0])/\(j=1->Bk kP (w.heap.size+1) 157 #[.int .i64 1,.slice (some ⟨w.heap.size,0,none⟩) 2 2])/\Bk kP w.heap.size 3 (nc (QC 2 2))/\Below w.heap.size w kP) (λ_ _ _ i _=>(1-intOf i).toNat);case atStart=>exact⟨0,by omega,rfl,λ_=>af,λh=>by omega,a8,ai⟩
   case round=>
    clear ai a8 af hf;obtain⟨j,hj,rfl,h0,h1,hb,hf⟩:=hrel;by_cases ab:j<1
    ·have gI:j=0:=(by omega);subst gI;have aB:=h0 rfl;have q0:=aB.cell 0;have q1:=aB.cell 1;have p0:=aB.frozen 0;have p1:=aB.frozen 1;simp at q0 q1;have aL:=h_ aB;clear h0 h1 aB ab;go_wp2;go_region;go_wp2;go_roundw
     case rel=>
      refine⟨1,by omega,rfl,λh=>by omega,λ_=> ?_,?_,?_⟩
      ·have h9:=(aL.o.put 0 (.int .i64 1)).put 1 (.slice (some ⟨w.heap.size,0,none⟩) 2 2);have h8:=h9.drew;simpa using h8
      ·exact((hb.off (p:=⟨w.heap.size+1,0,none⟩) (by simp) _).off (p:=⟨w.heap.size+1,1,none⟩) (by simp) _).drew
      ·exact((hf.setCell (p:=⟨w.heap.size+1,0,none⟩) (by simp) _).setCell (p:=⟨w.heap.size+1,1,none⟩) (by simp) _).drew
     case measure=>simp[intOf]
    ·have nY:j=1:=(by omega);subst nY;have a7:=h_ (h1 rfl);clear h0 h1;go_wp2;go_ret;exact⟨rfl,by rw[show tr0 1=QC 2 2 from by decide];exact hb,a7.o,hf⟩
theorem Z8Z (w:World):
  Calls Tryz.prog 115 #[.int .i64 8,.int .i64 8] w λx w'=>x=.returned (.slice (some ⟨w.heap.size+1,0,none⟩) 8 8)/\Bk w' w.heap.size 3 (nc (List.replicate 2048 1024))/\Bk w' (w.heap.size+1) 157 (trc w.heap.size 8)/\Below w.heap.size w w':=by
 have bG:=Yg (P:=Tryz.prog) 31 3 _ _ Tryz.underlying31 ZQ rfl 2048 2048 rfl (by omega) (by omega) w;rw[<-Z2N] at bG;obtain⟨TC,sf⟩:∃T,trc w.heap.size 0=T:=⟨_,rfl⟩;have oZ:∀W:World,(Instr.makeSlice 158 (.int .i64 8) (.int .i64 8)).run Tryz.prog W=.ok (.slice (some ⟨W.heap.size,0,none⟩) 8 8) (W.alloc (.cells TC 157)):=λ_=>(by rw[<-sf];kernel_rfl);have vv:=h_ sf;have ar:=h_ (ZbZ 2048);obtain⟨HM,Lv⟩:∃f:Nat->List Nat,(λj=>QC 2048 j)=f:=⟨_,rfl⟩;have zJ:∀j,QC 2048 j=HM j:=λj=>congrFun Lv j;have aW:=h_ (λj (h:j<2048)=>(Z50 h:(QC 2048 j).set j 1024=_));have av:=h_ (λj (h:j<=2048)=>(Z0U h:(QC 2048 j).length=2048));simp only[zJ] at aW av ar bG;clear sf Lv zJ;go_enter Tryz.func115,Tryz.ntmps115;go_wp2;go_loopw [6,17] (λ_ i wr=>∃j:Nat,j<=2048/\i=.int .i64 j/\Bk wr w.heap.size 3 (nc (HM j))/\Below w.heap.size w wr/\wr.heap.size=w.heap.size+1) (λ_ i _=>(2048-intOf i).toNat);case atStart=>exact⟨0,by omega,rfl,Bk.new _ _ _,(Vae _ _).alloc UZz _,by simp⟩
 case round=>
  obtain⟨j,hj,rfl,aD,hf,ad⟩:=hrel;by_cases ab:j<2048
  ·have hc:=aD.cell j;rw[X0 _ _ (by rw[av.o j hj];exact ab)] at hc;have fc:=aD.frozen j;have hp:=aD.put j (.int .i64 ((1024:Nat):Int));rw[QD,aW.o j ab] at hp;have Hp:=h_ hp;have Hz:=h_ ad;have dp:(j:Int)<2048:=(by omega);clear hp aD ad bG;go_wp2;go_roundw;case rel=>exact⟨j+1,by omega,by go_num,Hp.o,hf.setCell (p:=⟨w.heap.size,j,none⟩) UZz _,by simpa using Hz.o⟩
   case measure=>simp[intOf]<;>omega
  ·have ma:j=2048:=(by omega);subst ma;have Hz:=h_ ad;have kE:=h_ aD;clear ad aD bG;go_wp2;rw[Hz.o];have ai:=hf.alloc hf.size (.cells TC 157);have a8:=kE.o.alloc (.cells TC 157);have af:Bk (wr.alloc (.cells TC 157)) (w.heap.size+1) 157 (trc w.heap.size 0):=(by rw[vv.o];exact Hz.o▸Bk.new wr _ _);go_loopw [8,9,10,28] (λ_ _ _ i kP=>∃j:Nat,j<=8/\i=.int .i64 j/\Hid (Bk kP (w.heap.size+1) 157 (trc w.heap.size j))/\Hid (Bk kP w.heap.size 3 (nc (HM 2048)))/\Hid (Below w.heap.size w kP)) (λ_ _ _ i _=>(8-intOf i).toNat);case atStart=>exact⟨0,by omega,rfl,h_ af,h_ a8,h_ ai⟩
   case round=>
    clear ai a8 af hf;obtain⟨j,hj,rfl,h0,hb,hf⟩:=hrel;by_cases ab:j<8
    ·obtain⟨t0,t1,t2⟩:=Zkj w.heap.size ab;have q0:=h0.o.cell (2*j);have q1:=h0.o.cell (2*j+1);have p0:=h0.o.frozen (2*j);have p1:=h0.o.frozen (2*j+1);rw[t0] at q0;rw[t1] at q1;have Hp:=(h0.o.put (2*j) (.int .i64 8)).put (2*j+1) (.slice (some ⟨w.heap.size,256*j,none⟩) 256 256);rw[t2] at Hp;have Hp:=h_ Hp;have Hb:=h_ ((hb.o.off (p:=⟨w.heap.size+1,2*j,none⟩) (by simp) (.int .i64 8)).off (p:=⟨w.heap.size+1,2*j+1,none⟩) (by simp) (.slice (some ⟨w.heap.size,256*j,none⟩) 256 256));have Hf:=h_ ((hf.o.setCell (p:=⟨w.heap.size+1,2*j,none⟩) (by simp) (.int .i64 8)).setCell (p:=⟨w.heap.size+1,2*j+1,none⟩) (by simp) (.slice (some ⟨w.heap.size,256*j,none⟩) 256 256));clear t0 t1 t2 h0 hb hf;rcases(show j=0\/j=1\/j=2\/j=3\/j=4\/j=5\/j=6\/j=7 by omega) with rfl|rfl|rfl|rfl|rfl|rfl|rfl|rfl
     all_goals
      clear ab;simp only[Nat.reduceMul,Nat.reduceAdd] at q0 q1 p0 p1 Hp Hb Hf;go_wp2;go_region;go_wp2;go_roundw;case rel=>first|exact⟨1,by decide,rfl,h_ Hp.o.drew,h_ Hb.o.drew,h_ Hf.o.drew⟩|exact⟨2,by decide,rfl,h_ Hp.o.drew,h_ Hb.o.drew,h_ Hf.o.drew⟩|exact⟨3,by decide,rfl,h_ Hp.o.drew,h_ Hb.o.drew,h_ Hf.o.drew⟩|exact⟨4,by decide,rfl,h_ Hp.o.drew,h_ Hb.o.drew,h_ Hf.o.drew⟩|exact⟨5,by decide,rfl,h_ Hp.o.drew,h_ Hb.o.drew,h_ Hf.o.drew⟩|exact⟨6,by decide,rfl,h_ Hp.o.drew,h_ Hb.o.drew,h_ Hf.o.drew⟩|exact⟨7,by decide,rfl,h_ Hp.o.drew,h_ Hb.o.drew,h_ Hf.o.drew⟩|exact⟨8,by decide,rfl,h_ Hp.o.drew,h_ Hb.o.drew,h_ Hf.o.drew⟩
      case measure=>simp[intOf]
    ·have nY:j=8:=(by omega);subst nY;go_wp2;go_ret;exact⟨rfl,by rw[<-ar.o];exact hb.o,h0.o,hf.o⟩
end Go.Proofs.YtchokmkfobandaaGreatDoor
