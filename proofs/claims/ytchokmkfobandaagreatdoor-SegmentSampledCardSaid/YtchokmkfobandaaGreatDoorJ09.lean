import Derived.Test.YtchokmkfobandaaGreatDoorJ08
set_option linter.unusedVariables false
set_option linter.unusedSimpArgs false
set_option maxRecDepth 100000
set_option maxHeartbeats 8000000
namespace Go.Proofs.YtchokmkfobandaaGreatDoor
open Go.RowKit Go.Proofs Wv Wv.Vi Wv.Rc Wv.Mo
theorem Z4v (n v m:Nat) (t:List Nat) (e:En):tenc (n+1) v m t e=tenc n v (2*m+v/2 ^ n % 2) (t.set m (Y3 (t.getD m 0) (v/2 ^ n % 2))) (ebit (t.getD m 0) (v/2 ^ n % 2) e):=rfl
theorem Zeo {w:World} {b g eb:Nat} {dv:Value} {t:List Nat} {e:En} (h:NAt w b g t) (ht:TNum t) (he:EnAt w eb dv e) (hv:Val 0 e) (v:Nat) (yV:v<=9223372036854775807) (hl:e.out.length<=800000):
  Calls Tryz.prog 132 #[.pointer (some ⟨b,0,none⟩),.pointer (some ⟨eb,0,none⟩),.int .i64 (v:Int)] w λx w'=>x=.returned (.tuple #[])/\NAt w' b g (tenc 6 v 1 t e).1/\∃cK,EnAt w' eb cK (tenc 6 v 1 t e).2/\Fr (Z13 g eb dv) w w'/\Zo w dv cK:=by
 have ha:=and1;have c0:=h.1.cell 0;simp at c0;go_enter Tryz.func132,Tryz.ntmps132;go_wp2;go_loopw [6,7] (λmv i wr=>∃(j m:Nat) (dr:Value) (u:List Nat) (x:En),j<=6/\i=.int .i64 ((j:Int)-1)/\mv=.int .i64 m/\(m+1)*2 ^ j<=128/\NAt wr b g u/\TNum u/\EnAt wr eb dr x/\Val 0 x/\Hid (tenc j v m u x=tenc 6 v 1 t e)/\Fr (Z13 g eb dv) w wr/\Zo w dv dr/\x.out.length<=e.out.length+2*(6-j)) (λ_ i _=>(intOf i+1).toNat);case atStart=>exact⟨6,1,dv,t,e,by omega,rfl,rfl,by decide,h,ht,he,hv,h_ rfl,Fr.refl _ _,.inl rfl,by omega⟩
 case round=>
  clear c0 h ht he hv;obtain⟨j,m,dr,u,x,hj,rfl,rfl,hm,hu,jg,hx,fW,ng,hf,ew,KT⟩:=hrel;by_cases ab:0<j
  ·obtain⟨k,rfl⟩:∃k,j=k+1:=⟨j-1,by omega⟩;have jO:m<u.length:=YV (by rw[jg.2];exact hm);have aQ:=Z4v k v m u x;have i1:((k+1:Nat):Int)-1=(k:Int):=(by omega);rw[i1];obtain⟨y,hy⟩:∃y,v/2 ^ k % 2=y:=⟨_,rfl⟩;have lY:y<2:=(by omega);have i2:(v:Int)/2 ^ k % 2=(y:Int):=(by rw[<-hy,Int.natCast_emod,Int.natCast_ediv,Int.natCast_pow];rfl);have hp:=XE jg.1 jO;have tA:(2*m+y+1)*2 ^ k<=128:=ZT (L:=64) lY hm;have q1:=hu.1.cell 1;have qm:=hu.2.cell m;rw[X0 u m jO] at qm;simp at q1;obtain⟨z,hz⟩:∃z,u.getD m 0=z:=⟨_,rfl⟩;rw[hy,hz] at aQ;rw[hz] at qm hp;have yY:(m:Int)<64:=(by rw[jg.2] at jO;omega);have Hb:=h_ (Z3k hx fW z y hp.1 hp.2 lY (by omega));have Ha:=h_ (Z02 z y hp.1 hp.2 lY);have tC:=Z01 z y x;have hval:=Xe fW (b:=y) hp.1 hp.2;have qU:=hu.foot hx;have oU:TNum (u.set m (Y3 z y)):=⟨XF jg.1 m (YL hp),by rw[Vbh];exact jg.2⟩;have aT:=h_ aQ;have Hu:=h_ hu;clear aQ hu hy hz hx fW jg hm jO;go_wp2_with fail;refine(Hb.o).mono ?_;rintro r w1 ⟨rfl,yW,cO,ai,dD⟩;have fF:=Hu.o.fr ai qU.1 qU.2;have r1:=fF.1.cell 1;have rm:=fF.2.cell m;have fm:=fF.2.frozen m;have oW:(nc u)[m]? =some (.int .i64 (z:Int)):=(Hu.o.2.cell m).symm.trans qm;rw[oW] at rm;simp at r1;clear q1 qm oW;have hs:=hf.size;go_wp2;go_region_with ((go_at_call 177;refine(Ha.o _).mono ?_;rintro r w9 ⟨rfl,rfl⟩))
   all_goals
    go_wp2;go_roundw;case rel=>exact⟨k,2*m+y,yW,u.set m (Y3 z y),ebit z y x,by omega,rfl,by congr 1,tA,(fF.put m _).drew,oU,(cO.off fF).drew,hval,h_ (by rw[<-aT.o];exact ng.o),(Zat (Z3o hf ai ew)).drew,ew.trans dD hs,by omega⟩
    case measure=>simp[intOf]<;>omega
  ·have gI:j=0:=(by omega);subst gI;go_wp2;go_end0;have:=ng.o;rw[tenc] at this;rw[<-this];exact⟨rfl,hu,dr,hx,hf,ew⟩
theorem Z4w (n m:Nat) (t:List Nat) (d:De):tdec (n+1) m t d=tdec n (2*m+dbt (t.getD m 0) d) (t.set m (Y3 (t.getD m 0) (dbt (t.getD m 0) d))) (dbit (t.getD m 0) d):=rfl
theorem Z4x (n:Nat):∀(m:Nat) (t:List Nat) (d:De),TOk t->(m+1)*2 ^ n<=2*t.length->DV 0 d->TOk (tdec n m t d).2.1/\(tdec n m t d).2.1.length=t.length/\DV 0 (tdec n m t d).2.2/\m*2 ^ n<=(tdec n m t d).1/\(tdec n m t d).1<(m+1)*2 ^ n:=by
 induction n with
 |zero=>intro m t d h1 _ h3;exact⟨h1,rfl,h3,by simp[tdec],by simp[tdec]⟩
 |succ n ih=>
  intro m t d h1 h2 h3;have hp:=XE h1 (YV h2);have hb:=Z1B (t.getD m 0) d;obtain⟨a,b,c,p,q⟩:=ih (2*m+dbt (t.getD m 0) d) _ (dbit (t.getD m 0) d) (XF h1 m (YL (b:=dbt (t.getD m 0) d) hp)) (by rw[Vbh];exact ZT (by omega) h2) (Z4u h3 hp.1 hp.2);rw[tdec];refine⟨a,by rw[b,Vbh],c,Vaq ?_ p,Va5 q ?_⟩
  ·rw[Vbr,Vbt _ 2,<-Vb4];exact Vb2 _ (by omega)
  ·rw[Vbr,Vbt _ 2,<-Vb4];exact Vb2 _ (by omega)
theorem Zep {w:World} {b g eb:Nat} {t:List Nat} {d:De} (h:NAt w b g t) (ht:TNum t) (he:DAt w eb d) (hv:DV 0 d):
  Calls Tryz.prog 222 #[.pointer (some ⟨b,0,none⟩),.pointer (some ⟨eb,0,none⟩)] w λx w'=>x=.returned (.int .i64 (((tdec 6 1 t d).1-64:Nat):Int))/\NAt w' b g (tdec 6 1 t d).2.1/\DAt w' eb (tdec 6 1 t d).2.2/\Fr (Z2m g eb) w w':=by
 have c0:=h.1.cell 0;simp at c0;have jP:=(Z4x 6 1 t d ht.1 (by rw[ht.2];decide) hv).2.2.2;go_enter Tryz.func222,Tryz.ntmps222;go_wp2;go_loopw [5,11] (λmv i wr=>∃(j m:Nat) (u:List Nat) (x:De),j<=6/\i=.int .i64 (j:Int)/\mv=.int .i64 m/\(m+1)*2 ^ (6-j)<=128/\NAt wr b g u/\TNum u/\DAt wr eb x/\DV 0 x/\Hid (tdec (6-j) m u x=tdec 6 1 t d)/\Fr (Z2m g eb) w wr) (λ_ i _=>(6-intOf i).toNat);case atStart=>exact⟨0,1,t,d,by omega,rfl,rfl,by decide,h,ht,he,hv,h_ rfl,Fr.refl _ _⟩
 case round=>
  clear c0 h ht he hv;obtain⟨j,m,u,x,hj,rfl,rfl,hm,hu,jg,hx,fW,ng,hf⟩:=hrel;by_cases ab:j<6
  ·obtain⟨k,hk⟩:∃k,6-j=k+1:=⟨5-j,by omega⟩;have yZ:6-(j+1)=k:=(by omega);rw[hk] at hm ng;have jO:m<u.length:=YV (by rw[jg.2];exact hm);have aQ:=Z4w k m u x;have hp:=XE jg.1 jO;have z7:=Z1B (u.getD m 0) x;have q1:=hu.1.cell 1;have qm:=hu.2.cell m;rw[X0 u m jO] at qm;simp at q1;obtain⟨z,hz⟩:∃z,u.getD m 0=z:=⟨_,rfl⟩;rw[hz] at aQ z7 qm hp;obtain⟨y,hy⟩:∃y,dbt z x=y:=⟨_,rfl⟩;rw[hy] at aQ z7;have lY:y<2:=(by omega);have tA:(2*m+y+1)*2 ^ k<=128:=ZT (L:=64) lY hm;have yY:(m:Int)<64:=(by rw[jg.2] at jO;omega);have Hb:=Z3n hx fW z hp.1 hp.2;rw[hy] at Hb;have Hb:=h_ Hb;have Ha:=h_ (Z02 z y hp.1 hp.2 lY);have hval:=Z4u fW hp.1 hp.2;have qU:=hu.onl hx;have oU:TNum (u.set m (Y3 z y)):=⟨XF jg.1 m (YL hp),by rw[Vbh];exact jg.2⟩;have aT:=h_ aQ;have Hu:=h_ hu;have z8:=h_ yZ;clear aQ hu hy hz hx fW jg hm jO hk yZ jP;go_wp2_with fail;refine(Hb.o).mono ?_;rintro r w1 ⟨rfl,cO,ai⟩;have fF:=Hu.o.fr ai qU.1 qU.2;have r1:=fF.1.cell 1;have rm:=fF.2.cell m;have fm:=fF.2.frozen m;have oW:(nc u)[m]? =some (.int .i64 (z:Int)):=(Hu.o.2.cell m).symm.trans qm;rw[oW] at rm;simp at r1;clear q1 qm oW;go_wp2;go_region_with ((go_at_call 177;refine(Ha.o _).mono ?_;rintro r w9 ⟨rfl,rfl⟩))
   all_goals
    go_wp2;go_roundw;case rel=>exact⟨j+1,2*m+y,u.set m (Y3 z y),dbit z x,by omega,by go_num,by congr 1,by rw[z8.o];exact tA,(fF.put m _).drew,oU,(cO.off fF).drew,hval,h_ (by rw[z8.o,<-aT.o];exact ng.o),((hf.trans' ai (λi hi e=>.inr e)).setCell (p:=⟨g,m,none⟩) (.inl (.inl rfl)) _).drew⟩
    case measure=>simp[intOf]<;>omega
  ·have PS:j=6:=(by omega);subst PS;have hh:=ng.o;rw[Va7,tdec] at hh;have q0:=hu.1.cell 0;simp at q0;have jL:(tdec 6 1 t d).1=m:=(by rw[<-hh]);rw[jL] at jP;have oY:64<=m:=jP.1
   have nh:m<128:=by
    have:m<=127:=(by simpa using hm);omega
   have Hh:=h_ hh;clear jP jL hh hm;go_wp2;go_ret;rw[<-Hh.o];exact⟨Zw (by simp only;omega),hu,hx,hf⟩
end Go.Proofs.YtchokmkfobandaaGreatDoor
