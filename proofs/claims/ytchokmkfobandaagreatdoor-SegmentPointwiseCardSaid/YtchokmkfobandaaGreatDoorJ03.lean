import Derived.Test.YtchokmkfobandaaGreatDoorChecked
import Derived.Test.YtchokmkfobandaaGreatDoorJ01
import Derived.Test.YtchokmkfobandaaGreatDoorJ02
import Derived.WalkKit
import Derived.WalkSpells
import Derived.WalkLawsBesides
import Derived.Deep.QuietTactic
import Derived.BigQuiet
import Derived.BigRegion
import Derived.StillTailTactics
import Derived.Laws.EntriesVeiled
set_option linter.unusedVariables false
set_option linter.unusedSimpArgs false
set_option maxRecDepth 100000
set_option maxHeartbeats 8000000
namespace Go.Proofs.YtchokmkfobandaaGreatDoor.Bio
open Go.RowKit Go.Proofs Wv Wv.Bit
theorem Ze2:(Tryz.prog.info? 5).map (λi=>(i.zero,i.size,i.bytes))=some (some (.int .u8 0),1,1):=by kernel_rfl
def WrAt (w:World) (b:Nat) (dv:Value) (l:List Bool):Prop:=
 Bk w b 269 #[dv,.int .i64 (l.length:Int)]/\w.ownsRow 0 5 1 dv (pack l).length ((pack l).map bv)
def Z0k (w:World) (dv cD:Value):Prop:=cD.ownBlock=dv.ownBlock\/∀g,cD.ownBlock=some g->w.heap.size<=g
def Zkm (W:World) (b g cap M:Nat) (l:List Bool):Prop:=
 Bk W b 269 #[.slice (some ⟨g,0,none⟩) M cap,.int .i64 (l.length:Int)]/\W.ownsRow 0 5 1 (.slice (some ⟨g,0,none⟩) M cap) M ((room l).map bv)
theorem Ze3 {b:Nat} {dv:Value} {l:List Bool} {w:World} (h:WrAt w b dv l) (c v:Int) (h0:0<=c) (hc:c<=63) (hv:0<=v) (bj:v<=9223372036854775807) (hl:l.length+c.toNat<=1000000):
  Calls Tryz.prog 209 #[.pointer (some ⟨b,0,none⟩),.int .i64 c,.int .i64 v] w λe w'=>e=.returned (.tuple #[])/\
   ∃cD,WrAt w' b cD (l++num c.toNat v.toNat)/\Fr (foot b dv) w w'/\Z0k w dv cD:=by
 obtain⟨c,rfl⟩:=Int.eq_ofNat_of_zero_le h0;obtain⟨v,rfl⟩:=Int.eq_ofNat_of_zero_le hv;rw[Int.toNat_natCast] at hl;rw[Int.toNat_natCast,Int.toNat_natCast];obtain⟨i0,hi,dp,bM,eu⟩:=info_parts Ze2;have ha:=and1;go_enter Tryz.func209,Tryz.ntmps209;go_wp2;go_loopw [6] (λi wr=>∃(j:Nat) (dr:Value),j<=c/\i=.int .i64 ((j:Int)-1)/\WrAt wr b dr (l++num (c-j) (v/2 ^ j))/\Fr (foot b dv) w wr/\Z0k w dv dr) (λi _=>(intOf i+1).toNat);case atStart=>exact⟨c,dv,by omega,rfl,by rw[Nat.sub_self];simpa [num] using h,Fr.refl _ _,.inl rfl⟩
 case round=>
  obtain⟨j,dr,hj,rfl,hw,hf,el⟩:=hrel;by_cases ab:0<j
  ·have hlen:(l++num (c-j) (v/2 ^ j)).length=l.length+(c-j):=(by rw[List.length_append,Z07]);have sF:l++num (c-(j-1)) (v/2 ^ (j-1))=(l++num (c-j) (v/2 ^ j))++[v.testBit (j-1)]:=(by rw[List.append_assoc,Ze1 c v j ab hj]);have sG:=h_ sF;generalize l++num (c-j) (v/2 ^ j)=L at*;obtain⟨aC,aa⟩:=hw;have g0:=aC.cell 0;have g1:=aC.cell 1;have f0:=aC.frozen 0;have f1:=aC.frozen 1;simp at g0 g1;have hN:L.length<=1000000:=(by omega);have eS:=pack_length L;have cg:=h_ aa;have jV:=h_ aC;clear sF hlen aa aC eS;by_cases h8:L.length % 8=0
   ·have e8:(((L.length:Int) % 8)==0)=true:=(by rw[beq_iff_eq];omega);have eS:=pack_length L;have dy:(pack L).length+1<=maxLen:=(by unfold maxLen;omega);have ep:((pack L).length+1)*1<=140737488355328:=(by omega);clear eS;have H8:=h_ h8;clear h8
    go_wp2_with (
     at_builtin;refine wpList_append_own_at _ rfl (.tmp 23) (.tmp 24) _ rfl 0 5 i0 (.int .u8 0) 1 1 Tryz.underlying115 hi dp bM eu rfl (by omega) dr (pack L).length ((pack L).map bv) (by rfl) (cg.o.alloc _) ⟨wr.heap.size,0,none⟩ 1 1 [.int .u8 0] (by rfl) rfl (Z2D _ _ _) (by simp[Value.oneCell']) dy ep (Nat.zero_le _) ?_;intro v' w1 ai df _ ak;obtain⟨g,cap,rfl,fB⟩:=Z3S ai (by omega);have ev:=(jV.o.alloc _).grown df (λe=>Z02 cg.o jV.o (by decide) e.symm);have q0:=ev.cell 0;have q1:=ev.cell 1;have p0:=ev.frozen 0;have p1:=ev.frozen 1;simp at q0 q1;have aE:=h_ ai;have tY:=h_ ev;clear ai ev)
    have hR:Zkm (w1.setCell ⟨b,0,none⟩ (.slice (some ⟨g,0,none⟩) ((pack L).length+1) cap)) b g cap ((pack L).length+1) L:=by
     refine⟨?_,?_⟩
     ·have:=tY.o.put 0 (.slice (some ⟨g,0,none⟩) ((pack L).length+1) cap);simpa using this
     ·have e1:room L=pack L++[0]:=(by rw[room,if_pos H8.o]);have e2:((pack L).map bv++[.int .u8 0])=(room L).map bv:=(by rw[e1,List.map_append];rfl);have:=aE.o;rw[e2] at this;refine Z2C this (λe=>Z02 aE.o tY.o (by decide) e) _
    have hM:(pack L).length+1=(room L).length:=(by rw[room,if_pos H8.o];simp);rw[hM] at hR fB⊢
    have ah:Fr (foot b dv) w (w1.setCell ⟨b,0,none⟩ (.slice (some ⟨g,0,none⟩) (room L).length cap)):=by
     refine((hf.alloc _).grown df (λk hk=> ?_)).setCell (p:=⟨b,0,none⟩) (.inl (.inl rfl)) _;rcases el with h1|h1
     ·exact .inl (.inr (h1▸hk))
     ·exact .inr (h1 k hk)
    have og:Z0k w dv (.slice (some ⟨g,0,none⟩) (room L).length cap):=by
     rcases ak with h1|h1
     ·rcases el with h2|h2
      ·exact .inl (h1.trans h2)
      ·exact .inr (λk hk=>h2 k (h1▸hk))
     ·refine .inr (λk hk=> ?_);have h3:(w.heap.size)<=wr.heap.size:=hf.size;have h4:some k=some (wr.alloc (.cells #[.int .u8 0] 5)).heap.size:=hk.symm.trans h1;injection h4 with h4;rw[h4];simp;omega
    generalize w1.setCell ⟨b,0,none⟩ (.slice (some ⟨g,0,none⟩) (room L).length cap)=W at*;clear tY aE hM q0 q1 p0 p1 g0 g1 f0 f1 ak df dy ep el hf;have gr:=hR;obtain⟨dC,aO⟩:=hR;have q0:=dC.cell 0;have q1:=dC.cell 1;have p1:=dC.frozen 1;simp at q0 q1;have Em:=Z2J L;have tZ:L.length/8<(room L).length:=(by omega)
    have hold:=Z3R aO (L.length/8) (.int .u8 (Z0V L (L.length/8):Nat)) (by
     rw[List.getElem?_map,List.getElem?_eq_getElem tZ,Z36];simp only[Option.map_some,bv];congr 2;have:=Z1U L (L.length/8);simp[Nat.mod_eq_of_lt this])
    obtain⟨o1,o2⟩:=hold;have cl:=Z1U L (L.length/8);have dY:=Z6t L;have lh:=h_ (Z8o L (v.testBit (j-1)));obtain⟨z,hz⟩:∃z,L.length/8=z:=⟨_,rfl⟩;obtain⟨m,hm⟩:∃m,L.length % 8=m:=⟨_,rfl⟩;obtain⟨d,hd⟩:∃d,7-m=d:=⟨_,rfl⟩;have i3:IntKind.i64.wrap ((L.length:Int)/8)=(z:Int):=(by rw[IntWalk.i64_in _ (by omega)];omega);have i4:IntKind.i64.wrap ((L.length:Int) % 8)=(m:Int):=(by rw[IntWalk.i64_in _ (by omega)];omega);have i5:IntKind.i64.wrap (7-(m:Int))=(d:Int):=(by rw[IntWalk.i64_in _ (by omega)];omega);rw[hz] at tZ o1 o2 cl dY lh;rw[hm] at dY lh;rw[show 8-m=d+1 from by omega] at dY;rw[hd] at lh;have Pa:j-1<=64:=(by omega);obtain⟨old,gZ⟩:∃old,Z0V L z=old:=⟨_,rfl⟩;rw[gZ] at o1 cl dY lh;have i6:(z:Int)<((room L).length:Int):=(by omega);have i7:(0:Int)<=(z:Int):=(by omega);have d8:d<8:=(by omega);have Eo:=h_ dY;have Hx:=h_ (Z8p old v (j-1) L.length cl (by rw[hm,hd];exact dY));have r7:=h_ gr;have bW:=h_ ah;have lC:=h_ og
    have iJ:=h_ (show(b:Nat)≠g from λe=>by
     have:=Z02 aO dC (by decide);simp[Value.ownBlock,e] at this)
    have Hd:=h_ (show 7-L.length % 8=d from by omega)
    have iO:=h_ (show old+(v.testBit (j-1)).toNat*2 ^ (7-L.length % 8)<256 from by
     have h1:=Z1U (L++[v.testBit (j-1)]) (L.length/8);rw[Z3K,hz,gZ] at h1;exact h1)
    clear gZ hz hm hd dY gr dC aO ah og Em;go_region;clear i3 i4 i5;rw[Hx.o];have xY:old+(v.testBit (j-1)).toNat*2 ^ (7-L.length % 8)<256:=iO.o;have jv:=r7.o.1.off (p:=⟨g,z,none⟩) iJ (.int .u8 ((old+(v.testBit (j-1)).toNat*2 ^ (7-L.length % 8):Nat):Int));have dD:=Z4r r7.o.2 z tZ (.int .u8 ((old+(v.testBit (j-1)).toNat*2 ^ (7-L.length % 8):Nat):Int))
    have aL:Fr (foot b dv) w (W.setCell ⟨g,z,none⟩ (.int .u8 ((old+(v.testBit (j-1)).toNat*2 ^ (7-L.length % 8):Nat):Int))):=by
     refine bW.o.setCell (p:=⟨g,z,none⟩) ?_ _;rcases lC.o with h1|h1
     ·exact .inl (.inr (h1.symm.trans rfl))
     ·exact .inr (h1 g rfl)
    have eM:((room L).map bv).set z (.int .u8 ((old+(v.testBit (j-1)).toNat*2 ^ (7-L.length % 8):Nat):Int))=(pack (L++[v.testBit (j-1)])).map bv:=by
     rw[lh.o,List.map_set,<-Hd.o];congr 1;simp only[bv];congr 2;simp[Nat.mod_eq_of_lt xY]
    have eS:(room L).length=(pack (L++[v.testBit (j-1)])).length:=(by rw[lh.o,List.length_set]);rw[eM] at dD;generalize W.setCell ⟨g,z,none⟩ (.int .u8 ((old+(v.testBit (j-1)).toNat*2 ^ (7-L.length % 8):Nat):Int))=W2 at*;have r1:=jv.cell 1;have t1:=jv.frozen 1;simp at r1;have u7:=h_ jv;have oh:=h_ dD;have xZ:=h_ eS;clear jv dD eM eS xY q0 q1 p1 o1 o2;go_wp2;go_roundw
    case rel=>
     refine⟨j-1,.slice (some ⟨g,0,none⟩) (room L).length cap,by omega,by congr 1;omega,?_,(aL.setCell (p:=⟨b,1,none⟩) (.inl (.inl rfl)) _).drew,lC.o⟩;rw[sG.o];refine⟨?_,?_⟩
     ·have:=(u7.o.put 1 (.int .i64 ((L.length:Int)+1))).drew;simpa using this
     ·have h1:W2.ownsRow 0 5 1 (.slice (some ⟨g,0,none⟩) (room L).length cap) (room L).length ((pack (L++[v.testBit (j-1)])).map bv):=oh.o;have:=Z2C h1 (p:=⟨b,1,none⟩) (λe=>iJ (by simpa [Value.ownBlock] using e.symm)) (.int .i64 ((L.length:Int)+1));rw[<-xZ.o];exact this
    case measure=>simp[intOf];omega
   ·have eS:=pack_length L;have x6:room L=pack L:=(by rw[room,if_neg h8]);obtain⟨g,cap,rfl,fB⟩:=Z3S cg.o (by omega);have hR:Zkm wr b g cap (room L).length L:=⟨by rw[x6];exact jV.o,by rw[x6];exact cg.o⟩;have e8:(((L.length:Int) % 8)==0)=false:=(by rw[beq_eq_false_iff_ne];omega);rw[<-x6] at fB el g0;have ah:=hf;have og:=el;obtain⟨W,hW⟩:∃W,W=wr:=⟨_,rfl⟩;subst hW;clear eS x6 h8 jV cg hf el g0 g1 f0 f1;have gr:=hR;obtain⟨dC,aO⟩:=hR;have q0:=dC.cell 0;have q1:=dC.cell 1;have p1:=dC.frozen 1;simp at q0 q1;have Em:=Z2J L;have tZ:L.length/8<(room L).length:=(by omega)
    have hold:=Z3R aO (L.length/8) (.int .u8 (Z0V L (L.length/8):Nat)) (by
     rw[List.getElem?_map,List.getElem?_eq_getElem tZ,Z36];simp only[Option.map_some,bv];congr 2;have:=Z1U L (L.length/8);simp[Nat.mod_eq_of_lt this])
    obtain⟨o1,o2⟩:=hold;have cl:=Z1U L (L.length/8);have dY:=Z6t L;have lh:=h_ (Z8o L (v.testBit (j-1)));obtain⟨z,hz⟩:∃z,L.length/8=z:=⟨_,rfl⟩;obtain⟨m,hm⟩:∃m,L.length % 8=m:=⟨_,rfl⟩;obtain⟨d,hd⟩:∃d,7-m=d:=⟨_,rfl⟩;have i3:IntKind.i64.wrap ((L.length:Int)/8)=(z:Int):=(by rw[IntWalk.i64_in _ (by omega)];omega);have i4:IntKind.i64.wrap ((L.length:Int) % 8)=(m:Int):=(by rw[IntWalk.i64_in _ (by omega)];omega);have i5:IntKind.i64.wrap (7-(m:Int))=(d:Int):=(by rw[IntWalk.i64_in _ (by omega)];omega);rw[hz] at tZ o1 o2 cl dY lh;rw[hm] at dY lh;rw[show 8-m=d+1 from by omega] at dY;rw[hd] at lh;have Pa:j-1<=64:=(by omega);obtain⟨old,gZ⟩:∃old,Z0V L z=old:=⟨_,rfl⟩;rw[gZ] at o1 cl dY lh;have i6:(z:Int)<((room L).length:Int):=(by omega);have i7:(0:Int)<=(z:Int):=(by omega);have d8:d<8:=(by omega);have Eo:=h_ dY;have Hx:=h_ (Z8p old v (j-1) L.length cl (by rw[hm,hd];exact dY));have r7:=h_ gr;have bW:=h_ ah;have lC:=h_ og
    have iJ:=h_ (show(b:Nat)≠g from λe=>by
     have:=Z02 aO dC (by decide);simp[Value.ownBlock,e] at this)
    have Hd:=h_ (show 7-L.length % 8=d from by omega)
    have iO:=h_ (show old+(v.testBit (j-1)).toNat*2 ^ (7-L.length % 8)<256 from by
     have h1:=Z1U (L++[v.testBit (j-1)]) (L.length/8);rw[Z3K,hz,gZ] at h1;exact h1)
    clear gZ hz hm hd dY gr dC aO ah og Em;go_wp2;go_region;clear i3 i4 i5;rw[Hx.o];have xY:old+(v.testBit (j-1)).toNat*2 ^ (7-L.length % 8)<256:=iO.o;have jv:=r7.o.1.off (p:=⟨g,z,none⟩) iJ (.int .u8 ((old+(v.testBit (j-1)).toNat*2 ^ (7-L.length % 8):Nat):Int));have dD:=Z4r r7.o.2 z tZ (.int .u8 ((old+(v.testBit (j-1)).toNat*2 ^ (7-L.length % 8):Nat):Int))
    have aL:Fr (foot b dv) w (W.setCell ⟨g,z,none⟩ (.int .u8 ((old+(v.testBit (j-1)).toNat*2 ^ (7-L.length % 8):Nat):Int))):=by
     refine bW.o.setCell (p:=⟨g,z,none⟩) ?_ _;rcases lC.o with h1|h1
     ·exact .inl (.inr (h1.symm.trans rfl))
     ·exact .inr (h1 g rfl)
    have eM:((room L).map bv).set z (.int .u8 ((old+(v.testBit (j-1)).toNat*2 ^ (7-L.length % 8):Nat):Int))=(pack (L++[v.testBit (j-1)])).map bv:=by
     rw[lh.o,List.map_set,<-Hd.o];congr 1;simp only[bv];congr 2;simp[Nat.mod_eq_of_lt xY]
    have eS:(room L).length=(pack (L++[v.testBit (j-1)])).length:=(by rw[lh.o,List.length_set]);rw[eM] at dD;generalize W.setCell ⟨g,z,none⟩ (.int .u8 ((old+(v.testBit (j-1)).toNat*2 ^ (7-L.length % 8):Nat):Int))=W2 at*;have r1:=jv.cell 1;have t1:=jv.frozen 1;simp at r1;have u7:=h_ jv;have oh:=h_ dD;have xZ:=h_ eS;clear jv dD eM eS xY q0 q1 p1 o1 o2;go_wp2;go_roundw
    case rel=>
     refine⟨j-1,.slice (some ⟨g,0,none⟩) (room L).length cap,by omega,by congr 1;omega,?_,(aL.setCell (p:=⟨b,1,none⟩) (.inl (.inl rfl)) _).drew,lC.o⟩;rw[sG.o];refine⟨?_,?_⟩
     ·have:=(u7.o.put 1 (.int .i64 ((L.length:Int)+1))).drew;simpa using this
     ·have h1:W2.ownsRow 0 5 1 (.slice (some ⟨g,0,none⟩) (room L).length cap) (room L).length ((pack (L++[v.testBit (j-1)])).map bv):=oh.o;have:=Z2C h1 (p:=⟨b,1,none⟩) (λe=>iJ (by simpa [Value.ownBlock] using e.symm)) (.int .i64 ((L.length:Int)+1));rw[<-xZ.o];exact this
    case measure=>simp[intOf];omega
  ·have:j=0:=(by omega);subst this;go_wp2;go_end0;exact⟨rfl,dr,by simpa using hw,hf,el⟩
end Go.Proofs.YtchokmkfobandaaGreatDoor.Bio
namespace Go.Proofs.YtchokmkfobandaaGreatDoor.Bio
open Go.RowKit Go.Proofs Wv
def kv0:Value:=.agg #[.int .i64 0,.int .i64 62,.func (.func 274) #[] #[],.func (.func 275) #[] #[],.func (.func 276) #[] #[],.func (.func 277) #[] #[]]
def kv1:Value:=.agg #[.int .i64 0,.int .i64 0,.func (.func 273) #[] #[],.func (.func 279) #[] #[],.func (.func 280) #[] #[],.func (.func 282) #[] #[]]
def kv2:Value:=.agg #[.int .i64 0,.int .i64 30,.func (.func 273) #[] #[],.func (.func 284) #[] #[],.func (.func 285) #[] #[],.func (.func 286) #[] #[]]
def kv3:Value:=.agg #[.int .i64 0,.int .i64 30,.func (.func 287) #[] #[],.func (.func 288) #[] #[],.func (.func 289) #[] #[],.func (.func 290) #[] #[]]
def kv4:Value:=.agg #[.int .i64 1,.int .i64 4294967296,.func (.func 291) #[] #[],.func (.func 292) #[] #[],.func (.func 294) #[] #[],.func (.func 295) #[] #[]]
def kmap:Array MapEntry:= #[⟨.int .i64 0,kv0,0⟩,⟨.int .i64 1,kv1,1⟩,⟨.int .i64 2,kv2,2⟩,⟨.int .i64 3,kv3,3⟩,⟨.int .i64 4,kv4,4⟩]
theorem Z5v (w:World):
  Calls Tryz.prog 247 #[] w λe w'=>e=.returned (.map (some w.heap.size))/\w.alloc (.map kmap 5)=w':=by
 have jw:= @run_makeMap Tryz.prog;have p0:=Z0i (P:=Tryz.prog) Tryz.underlying310 Tryz.underlying3 w #[] 0 0 (.agg #[.int .i64 0,.int .i64 62,.func (.func 274) #[] #[],.func (.func 275) #[] #[],.func (.func 276) #[] #[],.func (.func 277) #[] #[]]) rfl;have p1:=Z0i (P:=Tryz.prog) Tryz.underlying310 Tryz.underlying3 w #[⟨.int .i64 0,.agg #[.int .i64 0,.int .i64 62,.func (.func 274) #[] #[],.func (.func 275) #[] #[],.func (.func 276) #[] #[],.func (.func 277) #[] #[]],0⟩] 1 1 (.agg #[.int .i64 0,.int .i64 0,.func (.func 273) #[] #[],.func (.func 279) #[] #[],.func (.func 280) #[] #[],.func (.func 282) #[] #[]]) rfl;have p2:=Z0i (P:=Tryz.prog) Tryz.underlying310 Tryz.underlying3 w #[⟨.int .i64 0,.agg #[.int .i64 0,.int .i64 62,.func (.func 274) #[] #[],.func (.func 275) #[] #[],.func (.func 276) #[] #[],.func (.func 277) #[] #[]],0⟩,⟨.int .i64 1,.agg #[.int .i64 0,.int .i64 0,.func (.func 273) #[] #[],.func (.func 279) #[] #[],.func (.func 280) #[] #[],.func (.func 282) #[] #[]],1⟩] 2 2 (.agg #[.int .i64 0,.int .i64 30,.func (.func 273) #[] #[],.func (.func 284) #[] #[],.func (.func 285) #[] #[],.func (.func 286) #[] #[]]) rfl;have p3:=Z0i (P:=Tryz.prog) Tryz.underlying310 Tryz.underlying3 w #[⟨.int .i64 0,.agg #[.int .i64 0,.int .i64 62,.func (.func 274) #[] #[],.func (.func 275) #[] #[],.func (.func 276) #[] #[],.func (.func 277) #[] #[]],0⟩,⟨.int .i64 1,.agg #[.int .i64 0,.int .i64 0,.func (.func 273) #[] #[],.func (.func 279) #[] #[],.func (.func 280) #[] #[],.func (.func 282) #[] #[]],1⟩,⟨.int .i64 2,.agg #[.int .i64 0,.int .i64 30,.func (.func 273) #[] #[],.func (.func 284) #[] #[],.func (.func 285) #[] #[],.func (.func 286) #[] #[]],2⟩] 3 3 (.agg #[.int .i64 0,.int .i64 30,.func (.func 287) #[] #[],.func (.func 288) #[] #[],.func (.func 289) #[] #[],.func (.func 290) #[] #[]]) rfl;have p4:=Z0i (P:=Tryz.prog) Tryz.underlying310 Tryz.underlying3 w #[⟨.int .i64 0,.agg #[.int .i64 0,.int .i64 62,.func (.func 274) #[] #[],.func (.func 275) #[] #[],.func (.func 276) #[] #[],.func (.func 277) #[] #[]],0⟩,⟨.int .i64 1,.agg #[.int .i64 0,.int .i64 0,.func (.func 273) #[] #[],.func (.func 279) #[] #[],.func (.func 280) #[] #[],.func (.func 282) #[] #[]],1⟩,⟨.int .i64 2,.agg #[.int .i64 0,.int .i64 30,.func (.func 273) #[] #[],.func (.func 284) #[] #[],.func (.func 285) #[] #[],.func (.func 286) #[] #[]],2⟩,⟨.int .i64 3,.agg #[.int .i64 0,.int .i64 30,.func (.func 287) #[] #[],.func (.func 288) #[] #[],.func (.func 289) #[] #[],.func (.func 290) #[] #[]],3⟩] 4 4 (.agg #[.int .i64 1,.int .i64 4294967296,.func (.func 291) #[] #[],.func (.func 292) #[] #[],.func (.func 294) #[] #[],.func (.func 295) #[] #[]]) rfl;go_enter Tryz.func247,Tryz.ntmps247;go_wp2;go_ret;exact⟨rfl,rfl⟩
theorem six {W:World} {g:Nat} {t:TypeId} {c0 c1 c2 c3 c4 c5:Value} (h:Bk W g t #[c0,c1,c2,c3,c4,c5]):
  (W.cell? ⟨g,0,none⟩=some c0/\W.cell? ⟨g,1,none⟩=some c1/\W.cell? ⟨g,2,none⟩=some c2/\W.cell? ⟨g,3,none⟩=some c3/\W.cell? ⟨g,4,none⟩=some c4/\W.cell? ⟨g,5,none⟩=some c5)/\
  (W.frozen? ⟨g,0,none⟩=false/\W.frozen? ⟨g,1,none⟩=false/\W.frozen? ⟨g,2,none⟩=false/\W.frozen? ⟨g,3,none⟩=false/\W.frozen? ⟨g,4,none⟩=false/\W.frozen? ⟨g,5,none⟩=false):=
 ⟨⟨h.cell 0,h.cell 1,h.cell 2,h.cell 3,h.cell 4,h.cell 5⟩,h.frozen 0,h.frozen 1,h.frozen 2,h.frozen 3,h.frozen 4,h.frozen 5⟩
theorem Ze4 (w:World):
  Calls Tryz.prog 247 #[] w λe w'=>e=.returned (.map (some w.heap.size))/\w'.heap[w.heap.size]? =some (.map kmap 5)/\Below w.heap.size w w':=by
 refine(Z5v w).mono ?_;rintro e w' ⟨rfl,rfl⟩;exact⟨rfl,heap_alloc_new w _,(Below.refl _ _).alloc (Nat.le_refl _) _⟩
theorem Znf (p:Int) (h0:0<=p) (h1:p<=62) (w:World):
  Calls Tryz.prog 208 #[.int .i64 0,.int .i64 p] w λe w'=>e=.returned (.tuple #[kv0,.bool true])/\Below w.heap.size w w':=by
 have hk:=h_ Ze4;go_enter Tryz.func208,Tryz.ntmps208;go_wp2_with fail;refine(hk.o _).mono ?_;rintro e w1 ⟨rfl,hm,hb⟩;have hl:=Zck (P:=Tryz.prog) Tryz.underlying310 Tryz.underlying3 w1 _ kmap 5 0 0 kv0 hm rfl;unfold kv0 at hl;rw[World.size_alloc] at hl;clear hm;have aJ:=hb.size;simp at aJ;have aQ:=((Below.refl w.heap.size w).alloc (Nat.le_refl _) _).trans (hb.mono (by simp));have hz:=(((Bk.new w 273 #[.int .i64 0,.int .i64 0,.nilFunc,.nilFunc,.nilFunc,.nilFunc]).below hb (by simp)).alloc (.cells kv0.cells 273));obtain⟨bM,eu⟩:=six hz;simp only[kv0,Value.cells] at bM eu;clear hz hb;go_wp2;go_region;go_wp2;refine bodyPost_ret (v:=.tuple #[kv0,.bool true]) (by simp[results,Tryz.results208,go_sem,kv0, *]) rfl ⟨rfl,?_⟩;go_grown
end Go.Proofs.YtchokmkfobandaaGreatDoor.Bio
