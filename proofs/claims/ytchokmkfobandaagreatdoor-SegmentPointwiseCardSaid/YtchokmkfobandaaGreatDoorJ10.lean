import Derived.Test.YtchokmkfobandaaGreatDoorJ08
set_option linter.unusedVariables false
set_option linter.unusedSimpArgs false
set_option maxRecDepth 100000
set_option maxHeartbeats 8000000
namespace Go.Proofs.YtchokmkfobandaaGreatDoor
open Go.RowKit Go.Proofs Wv Wv.Vi Wv.Rc Wv.Mo
theorem Z8w (n m:Nat) (t:List Nat) (d:De):tdec (n+1) m t d=tdec n (2*m+dbt (t.getD m 0) d) (t.set m (Z13 (t.getD m 0) (dbt (t.getD m 0) d))) (dbit (t.getD m 0) d):=rfl
theorem Z8x (n:Nat):∀(m:Nat) (t:List Nat) (d:De),TOk t->(m+1)*2 ^ n<=2*t.length->DV 0 d->TOk (tdec n m t d).2.1/\(tdec n m t d).2.1.length=t.length/\DV 0 (tdec n m t d).2.2/\m*2 ^ n<=(tdec n m t d).1/\(tdec n m t d).1<(m+1)*2 ^ n:=by
 induction n with
 |zero=>intro m t d h1 _ h3;exact⟨h1,rfl,h3,by simp[tdec],by simp[tdec]⟩
 |succ n ih=>
  intro m t d h1 h2 h3;have hp:=Z2F h1 (Z1Q h2);have hb:=Z5y (t.getD m 0) d;obtain⟨a,b,c,p,q⟩:=ih (2*m+dbt (t.getD m 0) d) _ (dbit (t.getD m 0) d) (Z2G h1 m (Z1G (b:=dbt (t.getD m 0) d) hp)) (by rw[List.length_set];exact Z0U (by omega) h2) (Z8u h3 hp.1 hp.2);rw[tdec];refine⟨a,by rw[b,List.length_set],c,Nat.le_trans ?_ p,Nat.lt_of_lt_of_le q ?_⟩
  ·rw[Nat.pow_succ,Nat.mul_comm _ 2,<-Nat.mul_assoc];exact Nat.mul_le_mul_right _ (by omega)
  ·rw[Nat.pow_succ,Nat.mul_comm _ 2,<-Nat.mul_assoc];exact Nat.mul_le_mul_right _ (by omega)
theorem Zi8 {w:World} {b g eb:Nat} {t:List Nat} {d:De} (h:NAt w b g t) (ht:TNum t) (he:DAt w eb d) (hv:DV 0 d):
  Calls Tryz.prog 222 #[.pointer (some ⟨b,0,none⟩),.pointer (some ⟨eb,0,none⟩)] w λx w'=>x=.returned (.int .i64 (((tdec 6 1 t d).1-64:Nat):Int))/\NAt w' b g (tdec 6 1 t d).2.1/\DAt w' eb (tdec 6 1 t d).2.2/\Fr (Z6h g eb) w w':=by
 have c0:=h.1.cell 0;simp at c0;have jA:=(Z8x 6 1 t d ht.1 (by rw[ht.2];decide) hv).2.2.2;go_enter Tryz.func222,Tryz.ntmps222;go_wp2;go_loopw [5,11] (λmv i wr=>∃(j m:Nat) (u:List Nat) (x:De),j<=6/\i=.int .i64 (j:Int)/\mv=.int .i64 m/\(m+1)*2 ^ (6-j)<=128/\NAt wr b g u/\TNum u/\DAt wr eb x/\DV 0 x/\Hid (tdec (6-j) m u x=tdec 6 1 t d)/\Fr (Z6h g eb) w wr) (λ_ i _=>(6-intOf i).toNat);case atStart=>exact⟨0,1,t,d,by omega,rfl,rfl,by decide,h,ht,he,hv,h_ rfl,Fr.refl _ _⟩
 case round=>
  clear c0 h ht he hv;obtain⟨j,m,u,x,hj,rfl,rfl,hm,hu,iR,hx,fL,mO,hf⟩:=hrel;by_cases ab:j<6
  ·obtain⟨k,hk⟩:∃k,6-j=k+1:=⟨5-j,by omega⟩;have ym:6-(j+1)=k:=(by omega);rw[hk] at hm mO;have jz:m<u.length:=Z1Q (by rw[iR.2];exact hm);have aN:=Z8w k m u x;have hp:=Z2F iR.1 jz;have yn:=Z5y (u.getD m 0) x;have q1:=hu.1.cell 1;have qm:=hu.2.cell m;rw[Z1V u m jz] at qm;simp at q1;obtain⟨z,hz⟩:∃z,u.getD m 0=z:=⟨_,rfl⟩;rw[hz] at aN yn qm hp;obtain⟨y,hy⟩:∃y,dbt z x=y:=⟨_,rfl⟩;rw[hy] at aN yn;have lE:y<2:=(by omega);have sK:(2*m+y+1)*2 ^ k<=128:=Z0U (L:=64) lE hm;have yl:(m:Int)<64:=(by rw[iR.2] at jz;omega);have Hb:=Z7l hx fL z hp.1 hp.2;rw[hy] at Hb;have Hb:=h_ Hb;have Ha:=h_ (Z41 z y hp.1 hp.2 lE);have hval:=Z8u fL hp.1 hp.2;have qA:=hu.onl hx;have ox:TNum (u.set m (Z13 z y)):=⟨Z2G iR.1 m (Z1G hp),by rw[List.length_set];exact iR.2⟩;have aR:=h_ aN;have Hu:=h_ hu;have yo:=h_ ym;clear aN hu hy hz hx fL iR hm jz hk ym jA;go_wp2_with fail;refine(Hb.o).mono ?_;rintro r w1 ⟨rfl,cF,ah⟩;have fo:=Hu.o.fr ah qA.1 qA.2;have r1:=fo.1.cell 1;have rm:=fo.2.cell m;have fm:=fo.2.frozen m;have oy:(nc u)[m]? =some (.int .i64 (z:Int)):=(Hu.o.2.cell m).symm.trans qm;rw[oy] at rm;simp at r1;clear q1 qm oy;go_wp2;go_region_with ((go_at_call 177;refine(Ha.o _).mono ?_;rintro r w9 ⟨rfl,rfl⟩))
   all_goals
    go_wp2;go_roundw;case rel=>exact⟨j+1,2*m+y,u.set m (Z13 z y),dbit z x,by omega,by go_num,by congr 1,by rw[yo.o];exact sK,(fo.put m _).drew,ox,(cF.off fo).drew,hval,h_ (by rw[yo.o,<-aR.o];exact mO.o),((hf.trans' ah (λi hi e=>.inr e)).setCell (p:=⟨g,m,none⟩) (.inl (.inl rfl)) _).drew⟩
    case measure=>simp[intOf]<;>omega
  ·have Pn:j=6:=(by omega);subst Pn;have hh:=mO.o;rw[Nat.sub_self,tdec] at hh;have q0:=hu.1.cell 0;simp at q0;have jw:(tdec 6 1 t d).1=m:=(by rw[<-hh]);rw[jw] at jA;have oz:64<=m:=jA.1
   have mP:m<128:=by
    have:m<=127:=(by simpa using hm);omega
   have Hh:=h_ hh;clear jA jw hh hm;go_wp2;go_ret;rw[<-Hh.o];exact⟨Z0w (by simp only;omega),hu,hx,hf⟩
end Go.Proofs.YtchokmkfobandaaGreatDoor
