import Derived.Test.YtchokmkfobandaaGreatDoorM09
import Derived.Test.YtchokmkfobandaaGreatDoorM11
set_option linter.unusedVariables false
set_option linter.unusedSimpArgs false
set_option maxRecDepth 100000
set_option maxHeartbeats 8000000
namespace Go.Proofs.YtchokmkfobandaaGreatDoor
open Go.RowKit Go.Proofs Wv Wv.Vi Wv.Rc Wv.Mo
def Z2B:Nat->Nat->Nat->Nat->List Nat->En->List Nat×En
 |0,_,_,_,t,e=>(t,e)
 |n+1,q,v,m,t,e=>Z2B n q v (2*m+v/2 ^ n % 2) (t.set (q+m) (Y7 (t.getD (q+m) 0) (v/2 ^ n % 2))) (ebit (t.getD (q+m) 0) (v/2 ^ n % 2) e)
def Xu:Nat->Nat->Nat->List Nat->De->Nat×List Nat×De
 |0,_,m,t,d=>(m,t,d)
 |n+1,q,m,t,d=>Xu n q (2*m+dbt (t.getD (q+m) 0) d) (t.set (q+m) (Y7 (t.getD (q+m) 0) (dbt (t.getD (q+m) 0) d))) (dbit (t.getD (q+m) 0) d)
theorem Z2R (n q v m:Nat) (t:List Nat) (e:En):Z2B (n+1) q v m t e=Z2B n q v (2*m+v/2 ^ n % 2) (t.set (q+m) (Y7 (t.getD (q+m) 0) (v/2 ^ n % 2))) (ebit (t.getD (q+m) 0) (v/2 ^ n % 2) e):=rfl
theorem Z2S (n q m:Nat) (t:List Nat) (d:De):Xu (n+1) q m t d=Xu n q (2*m+dbt (t.getD (q+m) 0) d) (t.set (q+m) (Y7 (t.getD (q+m) 0) (dbt (t.getD (q+m) 0) d))) (dbit (t.getD (q+m) 0) d):=rfl
def subL (q L:Nat) (t:List Nat):List Nat:=(t.drop q).take L
def putL (q:Nat) (t u:List Nat):List Nat:=t.take q++u++t.drop (q+u.length)
theorem Z3W {q L:Nat} {t:List Nat} (h:q+L<=t.length):(subL q L t).length=L:=by unfold subL;rw[Vau,Va2];omega
theorem Z7K {q L:Nat} {t:List Nat} (h:q+L<=t.length):putL q t (subL q L t)=t:=by
 unfold putL;rw[Z3W h];unfold subL;rw[Vay,<-Vcy,Vcc,Vcc]
theorem Z53 {q L m:Nat} {t:List Nat} (hm:m<L):(subL q L t).getD m 0=t.getD (q+m) 0:=by
 unfold subL;simp[List.getD,List.getElem?_take_of_lt hm]
theorem Z7L {q L m z:Nat} {t u:List Nat} (h:q+L<=t.length) (hm:m<L) (hu:u.length=L):putL q (t.set (q+m) z) u=putL q t u:=by
 unfold putL;rw[hu,List.take_set,List.drop_set];rw[List.set_eq_of_length_le (by rw[Vau];omega),Vaf (by omega)]
theorem Z7M {q L m z:Nat} {t:List Nat} (h:q+L<=t.length) (hm:m<L):subL q L (t.set (q+m) z)=(subL q L t).set m z:=by
 unfold subL;rw[List.drop_set,Vad (by omega),List.take_set,Nat.add_sub_cancel_left]
theorem Z7N (n:Nat):∀(q v m L:Nat) {t:List Nat} {e:En},q+L<=t.length->(m+1)*2 ^ n<=2*L->Z2B n q v m t e=(putL q t (tenc n v m (subL q L t) e).1,(tenc n v m (subL q L t) e).2)/\(tenc n v m (subL q L t) e).1.length=L:=by
 induction n with
 |zero=>intro q v m L t e h _;exact⟨by show(t,e)=_;rw[tenc,Z7K h],Z3W h⟩
 |succ n ih=>
  intro q v m L t e h hm;have tP:m<L:=YV (n:=n) hm;have hb:v/2 ^ n % 2<2:=(by omega);rw[Z2R,Z4A];have hl:q+L<=(t.set (q+m) (Y7 (t.getD (q+m) 0) (v/2 ^ n % 2))).length:=(by rw[Vbh];exact h);obtain⟨i1,i2⟩:=ih q v (2*m+v/2 ^ n % 2) L (t:=t.set (q+m) (Y7 (t.getD (q+m) 0) (v/2 ^ n % 2))) (e:=ebit (t.getD (q+m) 0) (v/2 ^ n % 2) e) hl (ZV hb hm);rw[Z7M h tP] at i1 i2;rw[Z53 tP];exact⟨by rw[i1,Z7L h tP i2],i2⟩
theorem Z7O (n:Nat):∀(q m L:Nat) {t:List Nat} {d:De},q+L<=t.length->(m+1)*2 ^ n<=2*L->Xu n q m t d=((tdec n m (subL q L t) d).1,putL q t (tdec n m (subL q L t) d).2.1,(tdec n m (subL q L t) d).2.2)/\(tdec n m (subL q L t) d).2.1.length=L:=by
 induction n with
 |zero=>intro q m L t d h _;exact⟨by show(m,t,d)=_;rw[tdec,Z7K h],Z3W h⟩
 |succ n ih=>
  intro q m L t d h hm;have tP:m<L:=YV (n:=n) hm;have hb:=Z1H (t.getD (q+m) 0) d;rw[Z2S,Z4B,Z53 tP];have hl:q+L<=(t.set (q+m) (Y7 (t.getD (q+m) 0) (dbt (t.getD (q+m) 0) d))).length:=(by rw[Vbh];exact h);obtain⟨i1,i2⟩:=ih q (2*m+dbt (t.getD (q+m) 0) d) L (t:=t.set (q+m) (Y7 (t.getD (q+m) 0) (dbt (t.getD (q+m) 0) d))) (d:=dbit (t.getD (q+m) 0) d) hl (ZV (by omega) hm);rw[Z7M h tP] at i1 i2;exact⟨by rw[i1,Z7L h tP i2],i2⟩
structure TrA (w:World) (b o g q n:Nat) (t:List Nat):Prop where
 c0:w.cell? ⟨b,o,none⟩=some (.int .i64 (n:Int))
 c1:w.cell? ⟨b,o+1,none⟩=some (.slice (some ⟨g,q,none⟩) (2 ^ n) (2 ^ n))
 nd:Bk w g 3 (nc t)
 ne:b≠g
 lt:b<w.heap.size
theorem TrA.drew {w:World} {b o g q n:Nat} {t:List Nat} (h:TrA w b o g q n t):TrA w.drew b o g q n t:=⟨h.c0,h.c1,h.nd,h.ne,h.lt⟩
theorem TrA.fr {S:Nat->Prop} {w w':World} {b o g q n:Nat} {t:List Nat} (h:TrA w b o g q n t) (hf:Fr S w w') (h1:¬S b) (h2:¬S g):TrA w' b o g q n t:=
 ⟨by rw[hf.cell (p:=⟨b,o,none⟩) h.lt h1];exact h.c0,by rw[hf.cell (p:=⟨b,o+1,none⟩) h.lt h1];exact h.c1,h.nd.fr hf h2,h.ne,Va5 h.lt hf.size⟩
theorem TrA.put {w:World} {b o g q n:Nat} {t:List Nat} (h:TrA w b o g q n t) (m z:Nat):TrA (w.setCell ⟨g,m,none⟩ (.int .i64 (z:Int))) b o g q n (t.set m z):=by
 have hf:Fr (only g) w (w.setCell ⟨g,m,none⟩ (.int .i64 (z:Int))):=(Fr.refl (only g) w).setCell (p:=⟨g,m,none⟩) (.inl rfl) _;have ay:¬only g b:=h.ne;refine⟨by rw[hf.cell (p:=⟨b,o,none⟩) h.lt ay];exact h.c0,by rw[hf.cell (p:=⟨b,o+1,none⟩) h.lt ay];exact h.c1,?_,h.ne,Va5 h.lt hf.size⟩;have:=h.nd.put m (.int .i64 (z:Int))
 rwa [QE] at this
theorem EnAt.offG {w:World} {g eb m:Nat} {dv x:Value} {e:En} (he:EnAt w eb dv e) (h:¬foot eb dv g):EnAt (w.setCell ⟨g,m,none⟩ x) eb dv e:=
 he.fr (S:=only g) ((Fr.refl (only g) w).setCell (p:=⟨g,m,none⟩) (.inl rfl) x) (λe=>h (.inl e.symm)) (λk hk e=>h (.inr (by rw[hk];exact congrArg some e)))
theorem DAt.offG {w:World} {g eb m:Nat} {x:Value} {d:De} (he:DAt w eb d) (h:g≠eb):DAt (w.setCell ⟨g,m,none⟩ x) eb d:=
 he.fr (S:=only g) ((Fr.refl (only g) w).setCell (p:=⟨g,m,none⟩) (.inl rfl) x) (λe=>h e.symm)
theorem Z1m {w:World} {eb g:Nat} {dv:Value} {e:En} {t:List Nat} (he:EnAt w eb dv e) (h:Bk w g 3 (nc t)):¬foot eb dv g:=λhs=>by
 rcases hs with hs|hs
 ·exact Bk.apart h he.1 (by decide) hs
 ·exact Z3 he.2 h (by decide) hs
theorem Z2T {w w1:World} {eb b:Nat} {dv dr:Value} (h:¬foot eb dv b) (ho:Zo w dv dr) (hb:b<w.heap.size):¬foot eb dr b:=λhs=>by
 rcases hs with hs|hs
 ·exact h (.inl hs)
 ·rcases ho with ho|ho
  ·exact h (.inr (ho▸hs))
  ·have:=ho b hs;omega
theorem Z7P {n:Nat} (h:n<=8):2 ^ n<=256:=Vas (Vby (by omega) h) (by decide)
theorem Z54 {w:World} {b o g q n eb:Nat} {dv:Value} {t:List Nat} {e:En} (h:TrA w b o g q n t) (hn:n<=8) (DH:q+2 ^ n<=t.length) (eZ:t.length<=1000000) (ht:TOk t) (he:EnAt w eb dv e) (G9:¬foot eb dv b) (hv:Val 0 e) (v:Nat) (zc:v<=9223372036854775807) (hl:e.out.length<=800000):
  Calls Tryz.prog 132 #[.pointer (some ⟨b,o,none⟩),.pointer (some ⟨eb,0,none⟩),.int .i64 (v:Int)] w λx w'=>x=.returned (.tuple #[])/\TrA w' b o g q n (Z2B n q v 1 t e).1/\∃cO,EnAt w' eb cO (Z2B n q v 1 t e).2/\Fr (Z17 g eb dv) w w'/\Zo w dv cO:=by
 have ha:=and1;have c0:=h.c0;have cF:=h.lt;obtain⟨N,hN⟩:∃N,(2:Nat) ^ n=N:=⟨_,rfl⟩;have zM:N<=256:=(by rw[<-hN];exact Z7P hn);have fR:(1+1)*2 ^ n<=2*N:=(by rw[hN];omega);have HN:=h_ hN;rw[hN] at DH;clear hN;go_enter Tryz.func132,Tryz.ntmps132;go_wp2;go_loopw [6,7] (λmv i wr=>∃(j m:Nat) (dr:Value) (u:List Nat) (x:En),j<=n/\i=.int .i64 ((j:Int)-1)/\mv=.int .i64 m/\Hid ((m+1)*2 ^ j<=2*N)/\TrA wr b o g q n u/\TOk u/\u.length=t.length/\EnAt wr eb dr x/\Val 0 x/\Hid (Z2B j q v m u x=Z2B n q v 1 t e)/\Fr (Z17 g eb dv) w wr/\Zo w dv dr/\x.out.length+2*j<=800000+2*n) (λ_ i _=>(intOf i+1).toNat);case atStart=>exact⟨n,1,dv,t,e,UZz,rfl,rfl,h_ fR,h,ht,rfl,he,hv,h_ rfl,Fr.refl _ _,.inl rfl,by omega⟩
 case round=>
  clear c0 h ht he hv fR;obtain⟨j,m,dr,u,x,hj,rfl,rfl,hm,hu,iY,pD,hx,fW,nm,hf,eC,KP⟩:=hrel;by_cases ab:0<j
  ·obtain⟨k,rfl⟩:∃k,j=k+1:=⟨j-1,by omega⟩;have zN:m<N:=YV (n:=k) hm.o;have nn:q+m<u.length:=(by omega);have aT:=Z2R k q v m u x;have i1:((k+1:Nat):Int)-1=(k:Int):=(by omega);rw[i1];obtain⟨y,hy⟩:∃y,v/2 ^ k % 2=y:=⟨_,rfl⟩;have ma:y<2:=(by omega);have i2:(v:Int)/2 ^ k % 2=(y:Int):=(by rw[<-hy,Int.natCast_emod,Int.natCast_ediv,Int.natCast_pow];rfl);have hp:=XD iY nn;have Ga:=h_ (show(2*m+y+1)*2 ^ k<=2*N from ZV (L:=N) ma hm.o);have q1:=hu.c1;rw[HN.o] at q1;have qm:=hu.nd.cell (q+m);rw[X0 u (q+m) nn] at qm;obtain⟨z,hz⟩:∃z,u.getD (q+m) 0=z:=⟨_,rfl⟩;rw[hy,hz] at aT;rw[hz] at qm hp;have Gb:(m:Int)<(N:Int):=(by omega);have Hb:=h_ (Z3s hx fW z y hp.1 hp.2 ma (by omega));have Ha:=h_ (Z05 z y hp.1 hp.2 ma);have tD:=Z04 z y x;have hval:=Xd fW (b:=y) hp.1 hp.2;have Rj:=Z1m hx hu.nd;have Gc:=Z2T (w1:=wr) G9 eC cF;have p7:TOk (u.set (q+m) (Y7 z y)):=XE iY (q+m) (YK hp);have pE:(u.set (q+m) (Y7 z y)).length=t.length:=(by rw[Vbh];exact pD);have aS:=h_ aT;have Hu:=h_ hu;have Gd:=h_ pE;have lZ:k<=7:=(by omega);clear aT hu hy hz hx fW iY hm nn pD pE;go_wp2_with fail;refine(Hb.o).mono ?_;rintro r w1 ⟨rfl,zd,cR,ai,dI⟩;have fF:=Hu.o.fr ai Gc Rj;have r1:=fF.c1;rw[HN.o] at r1;have rm:=fF.nd.cell (q+m);have fm:=fF.nd.frozen (q+m);have p8:(nc u)[q+m]? =some (.int .i64 (z:Int)):=(Hu.o.nd.cell (q+m)).symm.trans qm;rw[p8] at rm;clear q1 qm p8;have hs:=hf.size;have Ge:=Z1m cR fF.nd;go_wp2;go_region_with ((go_at_call 177;refine(Ha.o _).mono ?_;rintro r w9 ⟨rfl,rfl⟩))
   all_goals
    go_wp2;go_roundw;case rel=>exact⟨k,2*m+y,zd,u.set (q+m) (Y7 z y),ebit z y x,by omega,rfl,by congr 1,Ga,(fF.put (q+m) _).drew,p7,Gd.o,(cR.offG Ge).drew,hval,h_ (by rw[<-aS.o];exact nm.o),(Zau (Z3w hf ai eC)).drew,eC.trans dI hs,by omega⟩
    case measure=>simp[intOf]<;>omega
  ·have gx:j=0:=(by omega);subst gx;go_wp2;go_end0;have:=nm.o;rw[Z2B] at this;rw[<-this];exact⟨rfl,hu,dr,hx,hf,eC⟩
theorem ZbX (n:Nat):∀(q m L:Nat) (t:List Nat) (d:De),TOk t->q+L<=t.length->(m+1)*2 ^ n<=2*L->DV 0 d->TOk (Xu n q m t d).2.1/\(Xu n q m t d).2.1.length=t.length/\DV 0 (Xu n q m t d).2.2/\m*2 ^ n<=(Xu n q m t d).1/\(Xu n q m t d).1<(m+1)*2 ^ n:=by
 induction n with
 |zero=>intro q m L t d h1 _ _ h3;exact⟨h1,rfl,h3,by simp[Xu],by simp[Xu]⟩
 |succ n ih=>
  intro q m L t d h1 hq h2 h3;have tP:m<L:=YV (n:=n) h2;have hp:=XD h1 (show q+m<t.length by omega);have hb:=Z1H (t.getD (q+m) 0) d;obtain⟨a,b,c,p,r⟩:=ih q (2*m+dbt (t.getD (q+m) 0) d) L _ (dbit (t.getD (q+m) 0) d) (XE h1 (q+m) (YK (b:=dbt (t.getD (q+m) 0) d) hp)) (by rw[Vbh];exact hq) (ZV (by omega) h2) (Z4z h3 hp.1 hp.2);rw[Xu];refine⟨a,by rw[b,Vbh],c,Vas ?_ p,Va5 r ?_⟩
  ·rw[Vbs,Vbu _ 2,<-Vb4];exact Vb2 _ (by omega)
  ·rw[Vbs,Vbu _ 2,<-Vb4];exact Vb2 _ (by omega)
theorem Z55 {w:World} {b o g q n eb:Nat} {t:List Nat} {d:De} (h:TrA w b o g q n t) (hn:n<=8) (DH:q+2 ^ n<=t.length) (eZ:t.length<=1000000) (ht:TOk t) (he:DAt w eb d) (iA:b≠eb) (hv:DV 0 d):
  Calls Tryz.prog 222 #[.pointer (some ⟨b,o,none⟩),.pointer (some ⟨eb,0,none⟩)] w λx w'=>x=.returned (.int .i64 (((Xu n q 1 t d).1-2 ^ n:Nat):Int))/\TrA w' b o g q n (Xu n q 1 t d).2.1/\DAt w' eb (Xu n q 1 t d).2.2/\Fr (Z2t g eb) w w':=by
 have c0:=h.c0;have cF:=h.lt;obtain⟨N,hN⟩:∃N,(2:Nat) ^ n=N:=⟨_,rfl⟩;have zM:N<=256:=(by rw[<-hN];exact Z7P hn);have fR:(1+1)*2 ^ n<=2*N:=(by rw[hN];omega);have jJ:=(ZbX n q 1 N t d ht (by rw[<-hN];exact DH) fR hv).2.2.2;rw[hN] at jJ DH fR;rw[hN];have HN:=h_ hN;have Gf:(2:Int) ^ n=(N:Int):=(by rw[<-hN,Int.natCast_pow];rfl);have si:Hid ((1+1)*2 ^ (n-0)<=2*N):=h_ (by rw[Nat.sub_zero,HN.o];omega);clear hN;go_enter Tryz.func222,Tryz.ntmps222;go_wp2;go_loopw [5,11] (λmv i wr=>∃(j m:Nat) (u:List Nat) (x:De),j<=n/\i=.int .i64 (j:Int)/\mv=.int .i64 m/\Hid ((m+1)*2 ^ (n-j)<=2*N)/\TrA wr b o g q n u/\TOk u/\u.length=t.length/\DAt wr eb x/\DV 0 x/\Hid (Xu (n-j) q m u x=Xu n q 1 t d)/\Fr (Z2t g eb) w wr) (λ_ i _=>(n-intOf i).toNat);case atStart=>exact⟨0,1,t,d,Var _,rfl,rfl,si,h,ht,rfl,he,hv,h_ rfl,Fr.refl _ _⟩
 case round=>
  clear c0 h ht he hv fR si;obtain⟨j,m,u,x,hj,rfl,rfl,hm,hu,iY,pD,hx,fW,nm,hf⟩:=hrel;by_cases ab:j<n
  ·have dw:(j:Int)<(n:Int):=(by omega);obtain⟨k,hk⟩:∃k,n-j=k+1:=⟨n-j-1,by omega⟩;have zg:n-(j+1)=k:=(by omega);rw[hk] at hm nm;have zN:m<N:=YV (n:=k) hm.o;have nn:q+m<u.length:=(by omega);have aT:=Z2S k q m u x;have hp:=XD iY nn;have zh:=Z1H (u.getD (q+m) 0) x;have q1:=hu.c1;rw[HN.o] at q1;have qm:=hu.nd.cell (q+m);rw[X0 u (q+m) nn] at qm;obtain⟨z,hz⟩:∃z,u.getD (q+m) 0=z:=⟨_,rfl⟩;rw[hz] at aT zh qm hp;obtain⟨y,hy⟩:∃y,dbt z x=y:=⟨_,rfl⟩;rw[hy] at aT zh;have ma:y<2:=(by omega);have Ga:=h_ (show(2*m+y+1)*2 ^ k<=2*N from ZV (L:=N) ma hm.o);have Gb:(m:Int)<(N:Int):=(by omega);have Hb:=Z3v hx fW z hp.1 hp.2;rw[hy] at Hb;have Hb:=h_ Hb;have Ha:=h_ (Z05 z y hp.1 hp.2 ma);have hval:=Z4z fW hp.1 hp.2;have zO:g≠eb:=Bk.apart hu.nd hx (by decide);have p7:TOk (u.set (q+m) (Y7 z y)):=XE iY (q+m) (YK hp);have pE:(u.set (q+m) (Y7 z y)).length=t.length:=(by rw[Vbh];exact pD);have Gd:=h_ pE;have aS:=h_ aT;have Hu:=h_ hu;have zi:=h_ zg;clear aT hu hy hz hx fW iY hm nn pD pE hk zg jJ;go_wp2_with fail;refine(Hb.o).mono ?_;rintro r w1 ⟨rfl,cR,ai⟩;have fF:=Hu.o.fr ai iA zO;have r1:=fF.c1;rw[HN.o] at r1;have rm:=fF.nd.cell (q+m);have fm:=fF.nd.frozen (q+m);have p8:(nc u)[q+m]? =some (.int .i64 (z:Int)):=(Hu.o.nd.cell (q+m)).symm.trans qm;rw[p8] at rm;clear q1 qm p8;go_wp2;go_region_with ((go_at_call 177;refine(Ha.o _).mono ?_;rintro r w9 ⟨rfl,rfl⟩))
   all_goals
    go_wp2;go_roundw;case rel=>exact⟨j+1,2*m+y,u.set (q+m) (Y7 z y),dbit z x,by omega,by go_num,by congr 1,by rw[zi.o];exact Ga,(fF.put (q+m) _).drew,p7,Gd.o,(cR.offG zO).drew,hval,h_ (by rw[zi.o,<-aS.o];exact nm.o),((hf.trans' ai (λi hi e=>.inr e)).setCell (p:=⟨g,q+m,none⟩) (.inl (.inl rfl)) _).drew⟩
    case measure=>simp[intOf]<;>omega
  ·have iB:n=j:=(by omega);subst iB;have hh:=nm.o;rw[Va7,Xu] at hh;have q0:=hu.c0;have jF:(Xu n q 1 t d).1=m:=(by rw[<-hh]);rw[jF] at jJ;have p9:N<=m:=(by omega);have nn:m<2*N:=(by omega);have Hh:=h_ hh;have Gg:¬(n:Int)<(n:Int):=(by omega);clear jJ jF hh hm;go_wp2;go_ret;rw[<-Hh.o];exact⟨ZM (by simp only;omega),hu,hx,hf⟩
open Wv.Lz
theorem ZbY {L:Nat} {l:List (List Nat)} (h:∀t∈l,t.length=L):l.flatten.length=L*l.length:=by
 induction l with
 |nil=>simp
 |cons t r ih=>
  rw[List.flatten_cons,Vab,h t Vap,ih (λx hx=>h x (Vat _ hx)),Vaz,Vdg];omega
theorem Z1T {L:Nat} :∀ {l:List (List Nat)},(∀t∈l,t.length=L)->∀ {j:Nat},j<l.length->subL (L*j) L l.flatten=l.getD j []/\∀u:List Nat,u.length=L->putL (L*j) l.flatten u=(l.set j u).flatten
 |[],_,j,hj=>by simp at hj
 |t::r,h,j,hj=>by
  have ht:=h t Vap;have hr:=λx hx=>h x (Vat _ hx);cases j with
  |zero=>
   refine⟨?_,λu hu=> ?_⟩
   ·show subL 0 L (t++r.flatten)=t;unfold subL;rw[Vcn,<-ht,Vcx]
   ·show putL 0 (t++r.flatten) u=u++r.flatten;unfold putL;rw[Vbw,Vbz,Vbo,hu,<-ht,Vcm]
  |succ j=>
   obtain⟨i1,i2⟩:=Z1T (L:=L) (l:=r) hr (j:=j) (by simpa using hj);have e:L*(j+1)=t.length+L*j:=(by rw[ht,Vdg];omega);refine⟨?_,λu hu=> ?_⟩
   ·show subL (L*(j+1)) L (t++r.flatten)=r.getD j [];unfold subL at i1⊢;rw[e,<-i1,List.drop_append,Vbb (by omega),Vbz,Nat.add_sub_cancel_left]
   ·show putL (L*(j+1)) (t++r.flatten) u=t++(r.set j u).flatten;rw[<-i2 u hu];unfold putL;rw[e,List.take_append,Vai (by omega),Nat.add_sub_cancel_left,Vc7,List.drop_append,Vbb (by omega),Vbz,Nat.add_sub_cancel_left];simp only[Vay]
theorem Z7Q {l:List (List Nat)} (h:∀t∈l,TOk t):TOk l.flatten:=by
 intro x hx;obtain⟨t,ht,hx⟩:=List.mem_flatten.1 hx;exact h t ht x hx
theorem Zfj:(List.replicate 8 (tr0 8)).flatten=List.replicate 2048 1024:=by decide+kernel
def QD (M j:Nat):List Nat:=List.replicate j 1024++List.replicate (M-j) 0
theorem Z56 {M j:Nat} (h:j<M):(QD M j).set j 1024=QD M (j+1):=by
 unfold QD;rw[Va8 _ _ (by simp),Vaw,Va7,show M-j=(M-(j+1))+1 from by omega,Vbg,List.set_cons_zero,List.replicate_succ',Vay];rfl
theorem Z0Z {M j:Nat} (h:j<=M):(QD M j).length=M:=by simp[QD];omega
theorem ZbZ (M:Nat):QD M M=List.replicate M 1024:=by simp[QD]
theorem Z2U (M:Nat):nc (QD M 0)=Array.replicate M (.int .i64 0):=by
 apply Vbj.1;simp[nc,QD]
def trc (g j:Nat):Array Value:=((List.range 8).flatMap (λk=>if k<j then[Value.int .i64 8,.slice (some ⟨g,256*k,none⟩) 256 256] else[.int .i64 0,.slice none 0 0])).toArray
theorem Zkn (g:Nat) {j:Nat} (h:j<8):(trc g j)[2*j]? =some (.int .i64 0)/\(trc g j)[2*j+1]? =some (.slice none 0 0)/\((trc g j).setIfInBounds (2*j) (.int .i64 8)).setIfInBounds (2*j+1) (.slice (some ⟨g,256*j,none⟩) 256 256)=trc g (j+1):=by
 rcases(show j=0\/j=1\/j=2\/j=3\/j=4\/j=5\/j=6\/j=7 by omega) with rfl|rfl|rfl|rfl|rfl|rfl|rfl|rfl<;>exact⟨rfl,rfl,rfl⟩
theorem Z8Y (w:World):
  Calls Tryz.prog 115 #[.int .i64 1,.int .i64 1] w λx w'=>x=.returned (.slice (some ⟨w.heap.size+1,0,none⟩) 1 1)/\Bk w' w.heap.size 3 (nc (tr0 1))/\Bk w' (w.heap.size+1) 157 #[.int .i64 1,.slice (some ⟨w.heap.size,0,none⟩) 2 2]/\Below w.heap.size w w':=by
 have bG:=Yi (P:=Tryz.prog) 31 3 _ _ Tryz.underlying31 ZS rfl 2 2 rfl (by omega) (by omega) w;rw[<-Z2U] at bG;have pa:∀w:World,(Instr.makeSlice 158 (.int .i64 1) (.int .i64 1)).run Tryz.prog w=.ok (.slice (some ⟨w.heap.size,0,none⟩) 1 1) (w.alloc (.cells #[.int .i64 0,.slice none 0 0] 157)):=λ_=>(by kernel_rfl);go_enter Tryz.func115,Tryz.ntmps115;go_wp2;go_loopw [6,17] (λ_ i wr=>∃j:Nat,j<=2/\i=.int .i64 j/\Bk wr w.heap.size 3 (nc (QD 2 j))/\Below w.heap.size w wr/\wr.heap.size=w.heap.size+1) (λ_ i _=>(2-intOf i).toNat);case atStart=>exact⟨0,by omega,rfl,Bk.new _ _ _,(Vae _ _).alloc UZz _,by simp⟩
 case round=>
  obtain⟨j,hj,rfl,aF,hf,ad⟩:=hrel;by_cases ab:j<2
  ·have hc:=aF.cell j;rw[X0 _ _ (by rw[Z0Z hj];exact ab)] at hc;have fc:=aF.frozen j;have hp:=aF.put j (.int .i64 ((1024:Nat):Int));rw[QE,Z56 ab] at hp;have Hp:=h_ hp;have Hz:=h_ ad;clear hp aF ad bG;go_wp2;go_roundw;case rel=>exact⟨j+1,by omega,by go_num,Hp.o,hf.setCell (p:=⟨w.heap.size,j,none⟩) UZz _,by simpa using Hz.o⟩
   case measure=>simp[intOf]<;>omega
  ·have mf:j=2:=(by omega);subst mf;have Hz:=h_ ad;have kz:=h_ aF;clear ad aF bG;go_wp2;rw[Hz.o];have ai:=hf.alloc hf.size (.cells #[.int .i64 0,.slice none 0 0] 157);have a8:=kz.o.alloc (.cells #[.int .i64 0,.slice none 0 0] 157);have af:Bk (wr.alloc (.cells #[.int .i64 0,.slice none 0 0] 157)) (w.heap.size+1) 157 #[.int .i64 0,.slice none 0 0]:=Hz.o▸Bk.new wr _ _;go_loopw [8,9,10,28] (λ_ _ _ i kO=>∃j:Nat,j<=1/\i=.int .i64 j/\(j=0->Bk kO (w.heap.size+1) 157 #[.int .i64 0,.slice none 0 0])/\(j=1->Bk kO (w.heap.size+1) 157 #[.int .i64 1,.slice (some ⟨w.heap.size,0,none⟩) 2 2])/\Bk kO w.heap.size 3 (nc (QD 2 2))/\Below w.heap.size w kO) (λ_ _ _ i _=>(1-intOf i).toNat);case atStart=>exact⟨0,by omega,rfl,λ_=>af,λh=>by omega,a8,ai⟩
   case round=>
    clear ai a8 af hf;obtain⟨j,hj,rfl,h0,h1,hb,hf⟩:=hrel;by_cases ab:j<1
    ·have gx:j=0:=(by omega);subst gx;have aD:=h0 rfl;have q0:=aD.cell 0;have q1:=aD.cell 1;have p0:=aD.frozen 0;have p1:=aD.frozen 1;simp at q0 q1;have aP:=h_ aD;clear h0 h1 aD ab;go_wp2;go_region;go_wp2;go_roundw
     case rel=>
      refine⟨1,by omega,rfl,λh=>by omega,λ_=> ?_,?_,?_⟩
      ·have h9:=(aP.o.put 0 (.int .i64 1)).put 1 (.slice (some ⟨w.heap.size,0,none⟩) 2 2);have h8:=h9.drew;simpa using h8
      ·exact((hb.off (p:=⟨w.heap.size+1,0,none⟩) (by simp) _).off (p:=⟨w.heap.size+1,1,none⟩) (by simp) _).drew
      ·exact((hf.setCell (p:=⟨w.heap.size+1,0,none⟩) (by simp) _).setCell (p:=⟨w.heap.size+1,1,none⟩) (by simp) _).drew
     case measure=>simp[intOf]
    ·have oa:j=1:=(by omega);subst oa;have a7:=h_ (h1 rfl);clear h0 h1;go_wp2;go_ret;exact⟨rfl,by rw[show tr0 1=QD 2 2 from by decide];exact hb,a7.o,hf⟩
theorem Z8Z (w:World):
  Calls Tryz.prog 115 #[.int .i64 8,.int .i64 8] w λx w'=>x=.returned (.slice (some ⟨w.heap.size+1,0,none⟩) 8 8)/\Bk w' w.heap.size 3 (nc (List.replicate 2048 1024))/\Bk w' (w.heap.size+1) 157 (trc w.heap.size 8)/\Below w.heap.size w w':=by
 have bG:=Yi (P:=Tryz.prog) 31 3 _ _ Tryz.underlying31 ZS rfl 2048 2048 rfl (by omega) (by omega) w;rw[<-Z2U] at bG;obtain⟨TC,sj⟩:∃T,trc w.heap.size 0=T:=⟨_,rfl⟩;have pa:∀W:World,(Instr.makeSlice 158 (.int .i64 8) (.int .i64 8)).run Tryz.prog W=.ok (.slice (some ⟨W.heap.size,0,none⟩) 8 8) (W.alloc (.cells TC 157)):=λ_=>(by rw[<-sj];kernel_rfl);have nC:=h_ sj;have ao:=h_ (ZbZ 2048);obtain⟨HM,Lr⟩:∃f:Nat->List Nat,(λj=>QD 2048 j)=f:=⟨_,rfl⟩;have zP:∀j,QD 2048 j=HM j:=λj=>congrFun Lr j;have aZ:=h_ (λj (h:j<2048)=>(Z56 h:(QD 2048 j).set j 1024=_));have av:=h_ (λj (h:j<=2048)=>(Z0Z h:(QD 2048 j).length=2048));simp only[zP] at aZ av ao bG;clear sj Lr zP;go_enter Tryz.func115,Tryz.ntmps115;go_wp2;go_loopw [6,17] (λ_ i wr=>∃j:Nat,j<=2048/\i=.int .i64 j/\Bk wr w.heap.size 3 (nc (HM j))/\Below w.heap.size w wr/\wr.heap.size=w.heap.size+1) (λ_ i _=>(2048-intOf i).toNat);case atStart=>exact⟨0,by omega,rfl,Bk.new _ _ _,(Vae _ _).alloc UZz _,by simp⟩
 case round=>
  obtain⟨j,hj,rfl,aF,hf,ad⟩:=hrel;by_cases ab:j<2048
  ·have hc:=aF.cell j;rw[X0 _ _ (by rw[av.o j hj];exact ab)] at hc;have fc:=aF.frozen j;have hp:=aF.put j (.int .i64 ((1024:Nat):Int));rw[QE,aZ.o j ab] at hp;have Hp:=h_ hp;have Hz:=h_ ad;have dw:(j:Int)<2048:=(by omega);clear hp aF ad bG;go_wp2;go_roundw;case rel=>exact⟨j+1,by omega,by go_num,Hp.o,hf.setCell (p:=⟨w.heap.size,j,none⟩) UZz _,by simpa using Hz.o⟩
   case measure=>simp[intOf]<;>omega
  ·have mf:j=2048:=(by omega);subst mf;have Hz:=h_ ad;have kz:=h_ aF;clear ad aF bG;go_wp2;rw[Hz.o];have ai:=hf.alloc hf.size (.cells TC 157);have a8:=kz.o.alloc (.cells TC 157);have af:Bk (wr.alloc (.cells TC 157)) (w.heap.size+1) 157 (trc w.heap.size 0):=(by rw[nC.o];exact Hz.o▸Bk.new wr _ _);go_loopw [8,9,10,28] (λ_ _ _ i kO=>∃j:Nat,j<=8/\i=.int .i64 j/\Hid (Bk kO (w.heap.size+1) 157 (trc w.heap.size j))/\Hid (Bk kO w.heap.size 3 (nc (HM 2048)))/\Hid (Below w.heap.size w kO)) (λ_ _ _ i _=>(8-intOf i).toNat);case atStart=>exact⟨0,by omega,rfl,h_ af,h_ a8,h_ ai⟩
   case round=>
    clear ai a8 af hf;obtain⟨j,hj,rfl,h0,hb,hf⟩:=hrel;by_cases ab:j<8
    ·obtain⟨t0,t1,t2⟩:=Zkn w.heap.size ab;have q0:=h0.o.cell (2*j);have q1:=h0.o.cell (2*j+1);have p0:=h0.o.frozen (2*j);have p1:=h0.o.frozen (2*j+1);rw[t0] at q0;rw[t1] at q1;have Hp:=(h0.o.put (2*j) (.int .i64 8)).put (2*j+1) (.slice (some ⟨w.heap.size,256*j,none⟩) 256 256);rw[t2] at Hp;have Hp:=h_ Hp;have Hb:=h_ ((hb.o.off (p:=⟨w.heap.size+1,2*j,none⟩) (by simp) (.int .i64 8)).off (p:=⟨w.heap.size+1,2*j+1,none⟩) (by simp) (.slice (some ⟨w.heap.size,256*j,none⟩) 256 256));have Hf:=h_ ((hf.o.setCell (p:=⟨w.heap.size+1,2*j,none⟩) (by simp) (.int .i64 8)).setCell (p:=⟨w.heap.size+1,2*j+1,none⟩) (by simp) (.slice (some ⟨w.heap.size,256*j,none⟩) 256 256));clear t0 t1 t2 h0 hb hf;rcases(show j=0\/j=1\/j=2\/j=3\/j=4\/j=5\/j=6\/j=7 by omega) with rfl|rfl|rfl|rfl|rfl|rfl|rfl|rfl
     all_goals
      clear ab;simp only[Nat.reduceMul,Nat.reduceAdd] at q0 q1 p0 p1 Hp Hb Hf;go_wp2;go_region;go_wp2;go_roundw;case rel=>first|exact⟨1,by decide,rfl,h_ Hp.o.drew,h_ Hb.o.drew,h_ Hf.o.drew⟩|exact⟨2,by decide,rfl,h_ Hp.o.drew,h_ Hb.o.drew,h_ Hf.o.drew⟩|exact⟨3,by decide,rfl,h_ Hp.o.drew,h_ Hb.o.drew,h_ Hf.o.drew⟩|exact⟨4,by decide,rfl,h_ Hp.o.drew,h_ Hb.o.drew,h_ Hf.o.drew⟩|exact⟨5,by decide,rfl,h_ Hp.o.drew,h_ Hb.o.drew,h_ Hf.o.drew⟩|exact⟨6,by decide,rfl,h_ Hp.o.drew,h_ Hb.o.drew,h_ Hf.o.drew⟩|exact⟨7,by decide,rfl,h_ Hp.o.drew,h_ Hb.o.drew,h_ Hf.o.drew⟩|exact⟨8,by decide,rfl,h_ Hp.o.drew,h_ Hb.o.drew,h_ Hf.o.drew⟩
      case measure=>simp[intOf]
    ·have oa:j=8:=(by omega);subst oa;go_wp2;go_ret;exact⟨rfl,by rw[<-ao.o];exact hb.o,h0.o,hf.o⟩
end Go.Proofs.YtchokmkfobandaaGreatDoor
