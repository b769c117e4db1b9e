import Derived.Test.YtchokmkfobandaaGreatDoorJ08
set_option linter.unusedVariables false
set_option linter.unusedSimpArgs false
set_option maxRecDepth 100000
set_option maxHeartbeats 8000000
namespace Go.Proofs.YtchokmkfobandaaGreatDoor
open Go.RowKit Go.Proofs Wv Wv.Vi Wv.Rc Wv.Mo
theorem Z8v (n v m:Nat) (t:List Nat) (e:En):tenc (n+1) v m t e=tenc n v (2*m+v/2 ^ n % 2) (t.set m (Z13 (t.getD m 0) (v/2 ^ n % 2))) (ebit (t.getD m 0) (v/2 ^ n % 2) e):=rfl
theorem Zi7 {w:World} {b g eb:Nat} {dv:Value} {t:List Nat} {e:En} (h:NAt w b g t) (ht:TNum t) (he:EnAt w eb dv e) (hv:Val 0 e) (v:Nat) (yh:v<=9223372036854775807) (hl:e.out.length<=800000):
  Calls Tryz.prog 132 #[.pointer (some ⟨b,0,none⟩),.pointer (some ⟨eb,0,none⟩),.int .i64 (v:Int)] w λx w'=>x=.returned (.tuple #[])/\NAt w' b g (tenc 6 v 1 t e).1/\∃cD,EnAt w' eb cD (tenc 6 v 1 t e).2/\Fr (Z50 g eb dv) w w'/\Z0k w dv cD:=by
 have ha:=and1;have c0:=h.1.cell 0;simp at c0;go_enter Tryz.func132,Tryz.ntmps132;go_wp2;go_loopw [6,7] (λmv i wr=>∃(j m:Nat) (dr:Value) (u:List Nat) (x:En),j<=6/\i=.int .i64 ((j:Int)-1)/\mv=.int .i64 m/\(m+1)*2 ^ j<=128/\NAt wr b g u/\TNum u/\EnAt wr eb dr x/\Val 0 x/\Hid (tenc j v m u x=tenc 6 v 1 t e)/\Fr (Z50 g eb dv) w wr/\Z0k w dv dr/\x.out.length<=e.out.length+2*(6-j)) (λ_ i _=>(intOf i+1).toNat);case atStart=>exact⟨6,1,dv,t,e,by omega,rfl,rfl,by decide,h,ht,he,hv,h_ rfl,Fr.refl _ _,.inl rfl,by omega⟩
 case round=>
  clear c0 h ht he hv;obtain⟨j,m,dr,u,x,hj,rfl,rfl,hm,hu,iR,hx,fL,mO,hf,el,Ky⟩:=hrel;by_cases ab:0<j
  ·obtain⟨k,rfl⟩:∃k,j=k+1:=⟨j-1,by omega⟩;have jz:m<u.length:=Z1Q (by rw[iR.2];exact hm);have aN:=Z8v k v m u x;have i1:((k+1:Nat):Int)-1=(k:Int):=(by omega);rw[i1];obtain⟨y,hy⟩:∃y,v/2 ^ k % 2=y:=⟨_,rfl⟩;have lE:y<2:=(by omega);have i2:(v:Int)/2 ^ k % 2=(y:Int):=(by rw[<-hy,Int.natCast_emod,Int.natCast_ediv,Int.natCast_pow];rfl);have hp:=Z2F iR.1 jz;have sK:(2*m+y+1)*2 ^ k<=128:=Z0U (L:=64) lE hm;have q1:=hu.1.cell 1;have qm:=hu.2.cell m;rw[Z1V u m jz] at qm;simp at q1;obtain⟨z,hz⟩:∃z,u.getD m 0=z:=⟨_,rfl⟩;rw[hy,hz] at aN;rw[hz] at qm hp;have yl:(m:Int)<64:=(by rw[iR.2] at jz;omega);have Hb:=h_ (Z7i hx fL z y hp.1 hp.2 lE (by omega));have Ha:=h_ (Z41 z y hp.1 hp.2 lE);have sM:=Z40 z y x;have hval:=Z2b fL (b:=y) hp.1 hp.2;have qA:=hu.foot hx;have ox:TNum (u.set m (Z13 z y)):=⟨Z2G iR.1 m (Z1G hp),by rw[List.length_set];exact iR.2⟩;have aR:=h_ aN;have Hu:=h_ hu;clear aN hu hy hz hx fL iR hm jz;go_wp2_with fail;refine(Hb.o).mono ?_;rintro r w1 ⟨rfl,yi,cF,ah,dz⟩;have fo:=Hu.o.fr ah qA.1 qA.2;have r1:=fo.1.cell 1;have rm:=fo.2.cell m;have fm:=fo.2.frozen m;have oy:(nc u)[m]? =some (.int .i64 (z:Int)):=(Hu.o.2.cell m).symm.trans qm;rw[oy] at rm;simp at r1;clear q1 qm oy;have hs:=hf.size;go_wp2;go_region_with ((go_at_call 177;refine(Ha.o _).mono ?_;rintro r w9 ⟨rfl,rfl⟩))
   all_goals
    go_wp2;go_roundw;case rel=>exact⟨k,2*m+y,yi,u.set m (Z13 z y),ebit z y x,by omega,rfl,by congr 1,sK,(fo.put m _).drew,ox,(cF.off fo).drew,hval,h_ (by rw[<-aR.o];exact mO.o),(Zen (Z7m hf ah el)).drew,el.trans dz hs,by omega⟩
    case measure=>simp[intOf]<;>omega
  ·have hU:j=0:=(by omega);subst hU;go_wp2;go_end0;have:=mO.o;rw[tenc] at this;rw[<-this];exact⟨rfl,hu,dr,hx,hf,el⟩
end Go.Proofs.YtchokmkfobandaaGreatDoor
