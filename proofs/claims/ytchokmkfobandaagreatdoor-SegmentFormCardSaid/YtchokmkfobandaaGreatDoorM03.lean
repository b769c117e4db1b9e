import Derived.Test.YtchokmkfobandaaGreatDoorChecked
import Derived.Test.YtchokmkfobandaaGreatDoorM01
import Derived.Test.YtchokmkfobandaaGreatDoorM02
import Derived.WalkKit
import Derived.WalkSpells
import Derived.WalkLawsBesides
import Derived.Deep.QuietTactic
import Derived.BigQuiet
import Derived.BigRegion
import Derived.StillTailTactics
import Derived.Laws.EntriesVeiled
set_option linter.unusedVariables false
set_option linter.unusedSimpArgs false
set_option maxRecDepth 100000
set_option maxHeartbeats 8000000
namespace Go.Proofs.YtchokmkfobandaaGreatDoor.Bio
open Go.RowKit Go.Proofs Wv Wv.Bit
theorem Za9:(Tryz.prog.info? 5).map (λi=>(i.zero,i.size,i.bytes))=some (some (.int .u8 0),1,1):=by kernel_rfl
def WrAt (w:World) (b:Nat) (dv:Value) (l:List Bool):Prop:=
 Bk w b 269 #[dv,.int .i64 (l.length:Int)]/\w.ownsRow 0 5 1 dv (pack l).length ((pack l).map bv)
def Zo (w:World) (dv cO:Value):Prop:=cO.ownBlock=dv.ownBlock\/∀g,cO.ownBlock=some g->w.heap.size<=g
def ZgQ (W:World) (b g cap M:Nat) (l:List Bool):Prop:=
 Bk W b 269 #[.slice (some ⟨g,0,none⟩) M cap,.int .i64 (l.length:Int)]/\W.ownsRow 0 5 1 (.slice (some ⟨g,0,none⟩) M cap) M ((room l).map bv)
theorem Zaa {b:Nat} {dv:Value} {l:List Bool} {w:World} (h:WrAt w b dv l) (c v:Int) (h0:0<=c) (hc:c<=63) (hv:0<=v) (bm:v<=9223372036854775807) (hl:l.length+c.toNat<=1000000):
  Calls Tryz.prog 209 #[.pointer (some ⟨b,0,none⟩),.int .i64 c,.int .i64 v] w λe w'=>e=.returned (.tuple #[])/\
   ∃cO,WrAt w' b cO (l++num c.toNat v.toNat)/\Fr (foot b dv) w w'/\Zo w dv cO:=by
 obtain⟨c,rfl⟩:=Int.eq_ofNat_of_zero_le h0;obtain⟨v,rfl⟩:=Int.eq_ofNat_of_zero_le hv;rw[Vav] at hl;rw[Vav,Vav];obtain⟨i0,hi,dA,bO,eF⟩:=info_parts Za9;have ha:=and1;go_enter Tryz.func209,Tryz.ntmps209;go_wp2;go_loopw [6] (λi wr=>∃(j:Nat) (dr:Value),j<=c/\i=.int .i64 ((j:Int)-1)/\WrAt wr b dr (l++num (c-j) (v/2 ^ j))/\Fr (foot b dv) w wr/\Zo w dv dr) (λi _=>(intOf i+1).toNat);case atStart=>exact⟨c,dv,by omega,rfl,by rw[Va7];simpa [num] using h,Fr.refl _ _,.inl rfl⟩
 case round=>
  obtain⟨j,dr,hj,rfl,hw,hf,eC⟩:=hrel;by_cases ab:0<j
  ·have hlen:(l++num (c-j) (v/2 ^ j)).length=l.length+(c-j):=(by rw[Vab,Z8]);have tu:l++num (c-(j-1)) (v/2 ^ (j-1))=(l++num (c-j) (v/2 ^ j))++[v.testBit (j-1)]:=(by rw[Vay,Za8 c v j ab hj]);have tw:=h_ tu;generalize l++num (c-j) (v/2 ^ j)=L at*;obtain⟨aF,aa⟩:=hw;have g0:=aF.cell 0;have g1:=aF.cell 1;have f0:=aF.frozen 0;have f1:=aF.frozen 1;simp at g0 g1;have hN:L.length<=1000000:=(by omega);have fi:=pack_length L;have bZ:=h_ aa;have kz:=h_ aF;clear tu hlen aa aF fi;by_cases h8:L.length % 8=0
   ·have e8:(((L.length:Int) % 8)==0)=true:=(by rw[beq_iff_eq];omega);have fi:=pack_length L;have dG:(pack L).length+1<=maxLen:=(by unfold maxLen;omega);have eE:((pack L).length+1)*1<=140737488355328:=(by omega);clear fi;have H8:=h_ h8;clear h8
    go_wp2_with (
     at_builtin;refine wpList_append_own_at _ rfl (.tmp 23) (.tmp 24) _ rfl 0 5 i0 (.int .u8 0) 1 1 Tryz.underlying115 hi dA bO eF rfl (by omega) dr (pack L).length ((pack L).map bv) (by rfl) (bZ.o.alloc _) ⟨wr.heap.size,0,none⟩ 1 1 [.int .u8 0] (by rfl) rfl (XB _ _ _) (by simp[Value.oneCell']) dG eE (Var _) ?_;intro v' w1 ah du _ an;obtain⟨g,cap,rfl,fN⟩:=QW ah (by omega);have eG:=(kz.o.alloc _).grown du (λe=>Z3 bZ.o kz.o (by decide) e.symm);have q0:=eG.cell 0;have q1:=eG.cell 1;have p0:=eG.frozen 0;have p1:=eG.frozen 1;simp at q0 q1;have aJ:=h_ ah;have uK:=h_ eG;clear ah eG)
    have hR:ZgQ (w1.setCell ⟨b,0,none⟩ (.slice (some ⟨g,0,none⟩) ((pack L).length+1) cap)) b g cap ((pack L).length+1) L:=by
     refine⟨?_,?_⟩
     ·have:=uK.o.put 0 (.slice (some ⟨g,0,none⟩) ((pack L).length+1) cap);simpa using this
     ·have e1:room L=pack L++[0]:=(by rw[room,Vaf H8.o]);have e2:((pack L).map bv++[.int .u8 0])=(room L).map bv:=(by rw[e1,Vbk];rfl);have:=aJ.o;rw[e2] at this;refine XA this (λe=>Z3 aJ.o uK.o (by decide) e) _
    have hM:(pack L).length+1=(room L).length:=(by rw[room,Vaf H8.o];simp);rw[hM] at hR fN⊢
    have ai:Fr (foot b dv) w (w1.setCell ⟨b,0,none⟩ (.slice (some ⟨g,0,none⟩) (room L).length cap)):=by
     refine((hf.alloc _).grown du (λk hk=> ?_)).setCell (p:=⟨b,0,none⟩) (.inl (.inl rfl)) _;rcases eC with h1|h1
     ·exact .inl (.inr (h1▸hk))
     ·exact .inr (h1 k hk)
    have oO:Zo w dv (.slice (some ⟨g,0,none⟩) (room L).length cap):=by
     rcases an with h1|h1
     ·rcases eC with h2|h2
      ·exact .inl (h1.trans h2)
      ·exact .inr (λk hk=>h2 k (h1▸hk))
     ·refine .inr (λk hk=> ?_);have h3:(w.heap.size)<=wr.heap.size:=hf.size;have h4:some k=some (wr.alloc (.cells #[.int .u8 0] 5)).heap.size:=hk.symm.trans h1;injection h4 with h4;rw[h4];simp;omega
    generalize w1.setCell ⟨b,0,none⟩ (.slice (some ⟨g,0,none⟩) (room L).length cap)=W at*;clear uK aJ hM q0 q1 p0 p1 g0 g1 f0 f1 an du dG eE eC hf;have gH:=hR;obtain⟨dK,aL⟩:=hR;have q0:=dK.cell 0;have q1:=dK.cell 1;have p1:=dK.frozen 1;simp at q0 q1;have Fb:=XH L;have uL:L.length/8<(room L).length:=(by omega)
    have hold:=QV aL (L.length/8) (.int .u8 (ZW L (L.length/8):Nat)) (by
     rw[Vbc,Vao uL,Q9];simp only[Vcg,bv];congr 2;have:=YZ L (L.length/8);simp[Nat.mod_eq_of_lt this])
    obtain⟨o1,o2⟩:=hold;have cF:=YZ L (L.length/8);have ew:=Z2G L;have lN:=h_ (Z4t L (v.testBit (j-1)));obtain⟨z,hz⟩:∃z,L.length/8=z:=⟨_,rfl⟩;obtain⟨m,hm⟩:∃m,L.length % 8=m:=⟨_,rfl⟩;obtain⟨d,hd⟩:∃d,7-m=d:=⟨_,rfl⟩;have i3:IntKind.i64.wrap ((L.length:Int)/8)=(z:Int):=(by rw[IntWalk.i64_in _ (by omega)];omega);have i4:IntKind.i64.wrap ((L.length:Int) % 8)=(m:Int):=(by rw[IntWalk.i64_in _ (by omega)];omega);have i5:IntKind.i64.wrap (7-(m:Int))=(d:Int):=(by rw[IntWalk.i64_in _ (by omega)];omega);rw[hz] at uL o1 o2 cF ew lN;rw[hm] at ew lN;rw[show 8-m=d+1 from by omega] at ew;rw[hd] at lN;have Pw:j-1<=64:=(by omega);obtain⟨old,iq⟩:∃old,ZW L z=old:=⟨_,rfl⟩;rw[iq] at o1 cF ew lN;have i6:(z:Int)<((room L).length:Int):=(by omega);have i7:(0:Int)<=(z:Int):=(by omega);have d8:d<8:=(by omega);have Fc:=h_ ew;have Hx:=h_ (Z4u old v (j-1) L.length cF (by rw[hm,hd];exact ew));have rI:=h_ gH;have cl:=h_ ai;have lY:=h_ oO
    have iP:=h_ (show(b:Nat)≠g from λe=>by
     have:=Z3 aL dK (by decide);simp[Value.ownBlock,e] at this)
    have Hd:=h_ (show 7-L.length % 8=d from by omega)
    have iW:=h_ (show old+(v.testBit (j-1)).toNat*2 ^ (7-L.length % 8)<256 from by
     have h1:=YZ (L++[v.testBit (j-1)]) (L.length/8);rw[QN,hz,iq] at h1;exact h1)
    clear iq hz hm hd ew gH dK aL ai oO Fb;go_region;clear i3 i4 i5;rw[Hx.o];have yT:old+(v.testBit (j-1)).toNat*2 ^ (7-L.length % 8)<256:=iW.o;have jE:=rI.o.1.off (p:=⟨g,z,none⟩) iP (.int .u8 ((old+(v.testBit (j-1)).toNat*2 ^ (7-L.length % 8):Nat):Int));have dL:=Z0u rI.o.2 z uL (.int .u8 ((old+(v.testBit (j-1)).toNat*2 ^ (7-L.length % 8):Nat):Int))
    have aR:Fr (foot b dv) w (W.setCell ⟨g,z,none⟩ (.int .u8 ((old+(v.testBit (j-1)).toNat*2 ^ (7-L.length % 8):Nat):Int))):=by
     refine cl.o.setCell (p:=⟨g,z,none⟩) ?_ _;rcases lY.o with h1|h1
     ·exact .inl (.inr (h1.symm.trans rfl))
     ·exact .inr (h1 g rfl)
    have fb:((room L).map bv).set z (.int .u8 ((old+(v.testBit (j-1)).toNat*2 ^ (7-L.length % 8):Nat):Int))=(pack (L++[v.testBit (j-1)])).map bv:=by
     rw[lN.o,List.map_set,<-Hd.o];congr 1;simp only[bv];congr 2;simp[Nat.mod_eq_of_lt yT]
    have fi:(room L).length=(pack (L++[v.testBit (j-1)])).length:=(by rw[lN.o,Vbh]);rw[fb] at dL;generalize W.setCell ⟨g,z,none⟩ (.int .u8 ((old+(v.testBit (j-1)).toNat*2 ^ (7-L.length % 8):Nat):Int))=W2 at*;have r1:=jE.cell 1;have t1:=jE.frozen 1;simp at r1;have uM:=h_ jE;have oP:=h_ dL;have yU:=h_ fi;clear jE dL fb fi yT q0 q1 p1 o1 o2;go_wp2;go_roundw
    case rel=>
     refine⟨j-1,.slice (some ⟨g,0,none⟩) (room L).length cap,by omega,by congr 1;omega,?_,(aR.setCell (p:=⟨b,1,none⟩) (.inl (.inl rfl)) _).drew,lY.o⟩;rw[tw.o];refine⟨?_,?_⟩
     ·have:=(uM.o.put 1 (.int .i64 ((L.length:Int)+1))).drew;simpa using this
     ·have h1:W2.ownsRow 0 5 1 (.slice (some ⟨g,0,none⟩) (room L).length cap) (room L).length ((pack (L++[v.testBit (j-1)])).map bv):=oP.o;have:=XA h1 (p:=⟨b,1,none⟩) (λe=>iP (by simpa [Value.ownBlock] using e.symm)) (.int .i64 ((L.length:Int)+1));rw[<-yU.o];exact this
    case measure=>simp[intOf];omega
   ·have fi:=pack_length L;have xS:room L=pack L:=(by rw[room,Vad h8]);obtain⟨g,cap,rfl,fN⟩:=QW bZ.o (by omega);have hR:ZgQ wr b g cap (room L).length L:=⟨by rw[xS];exact kz.o,by rw[xS];exact bZ.o⟩;have e8:(((L.length:Int) % 8)==0)=false:=(by rw[Van];omega);rw[<-xS] at fN eC g0;have ai:=hf;have oO:=eC;obtain⟨W,hW⟩:∃W,W=wr:=⟨_,rfl⟩;subst hW;clear fi xS h8 kz bZ hf eC g0 g1 f0 f1;have gH:=hR;obtain⟨dK,aL⟩:=hR;have q0:=dK.cell 0;have q1:=dK.cell 1;have p1:=dK.frozen 1;simp at q0 q1;have Fb:=XH L;have uL:L.length/8<(room L).length:=(by omega)
    have hold:=QV aL (L.length/8) (.int .u8 (ZW L (L.length/8):Nat)) (by
     rw[Vbc,Vao uL,Q9];simp only[Vcg,bv];congr 2;have:=YZ L (L.length/8);simp[Nat.mod_eq_of_lt this])
    obtain⟨o1,o2⟩:=hold;have cF:=YZ L (L.length/8);have ew:=Z2G L;have lN:=h_ (Z4t L (v.testBit (j-1)));obtain⟨z,hz⟩:∃z,L.length/8=z:=⟨_,rfl⟩;obtain⟨m,hm⟩:∃m,L.length % 8=m:=⟨_,rfl⟩;obtain⟨d,hd⟩:∃d,7-m=d:=⟨_,rfl⟩;have i3:IntKind.i64.wrap ((L.length:Int)/8)=(z:Int):=(by rw[IntWalk.i64_in _ (by omega)];omega);have i4:IntKind.i64.wrap ((L.length:Int) % 8)=(m:Int):=(by rw[IntWalk.i64_in _ (by omega)];omega);have i5:IntKind.i64.wrap (7-(m:Int))=(d:Int):=(by rw[IntWalk.i64_in _ (by omega)];omega);rw[hz] at uL o1 o2 cF ew lN;rw[hm] at ew lN;rw[show 8-m=d+1 from by omega] at ew;rw[hd] at lN;have Pw:j-1<=64:=(by omega);obtain⟨old,iq⟩:∃old,ZW L z=old:=⟨_,rfl⟩;rw[iq] at o1 cF ew lN;have i6:(z:Int)<((room L).length:Int):=(by omega);have i7:(0:Int)<=(z:Int):=(by omega);have d8:d<8:=(by omega);have Fc:=h_ ew;have Hx:=h_ (Z4u old v (j-1) L.length cF (by rw[hm,hd];exact ew));have rI:=h_ gH;have cl:=h_ ai;have lY:=h_ oO
    have iP:=h_ (show(b:Nat)≠g from λe=>by
     have:=Z3 aL dK (by decide);simp[Value.ownBlock,e] at this)
    have Hd:=h_ (show 7-L.length % 8=d from by omega)
    have iW:=h_ (show old+(v.testBit (j-1)).toNat*2 ^ (7-L.length % 8)<256 from by
     have h1:=YZ (L++[v.testBit (j-1)]) (L.length/8);rw[QN,hz,iq] at h1;exact h1)
    clear iq hz hm hd ew gH dK aL ai oO Fb;go_wp2;go_region;clear i3 i4 i5;rw[Hx.o];have yT:old+(v.testBit (j-1)).toNat*2 ^ (7-L.length % 8)<256:=iW.o;have jE:=rI.o.1.off (p:=⟨g,z,none⟩) iP (.int .u8 ((old+(v.testBit (j-1)).toNat*2 ^ (7-L.length % 8):Nat):Int));have dL:=Z0u rI.o.2 z uL (.int .u8 ((old+(v.testBit (j-1)).toNat*2 ^ (7-L.length % 8):Nat):Int))
    have aR:Fr (foot b dv) w (W.setCell ⟨g,z,none⟩ (.int .u8 ((old+(v.testBit (j-1)).toNat*2 ^ (7-L.length % 8):Nat):Int))):=by
     refine cl.o.setCell (p:=⟨g,z,none⟩) ?_ _;rcases lY.o with h1|h1
     ·exact .inl (.inr (h1.symm.trans rfl))
     ·exact .inr (h1 g rfl)
    have fb:((room L).map bv).set z (.int .u8 ((old+(v.testBit (j-1)).toNat*2 ^ (7-L.length % 8):Nat):Int))=(pack (L++[v.testBit (j-1)])).map bv:=by
     rw[lN.o,List.map_set,<-Hd.o];congr 1;simp only[bv];congr 2;simp[Nat.mod_eq_of_lt yT]
    have fi:(room L).length=(pack (L++[v.testBit (j-1)])).length:=(by rw[lN.o,Vbh]);rw[fb] at dL;generalize W.setCell ⟨g,z,none⟩ (.int .u8 ((old+(v.testBit (j-1)).toNat*2 ^ (7-L.length % 8):Nat):Int))=W2 at*;have r1:=jE.cell 1;have t1:=jE.frozen 1;simp at r1;have uM:=h_ jE;have oP:=h_ dL;have yU:=h_ fi;clear jE dL fb fi yT q0 q1 p1 o1 o2;go_wp2;go_roundw
    case rel=>
     refine⟨j-1,.slice (some ⟨g,0,none⟩) (room L).length cap,by omega,by congr 1;omega,?_,(aR.setCell (p:=⟨b,1,none⟩) (.inl (.inl rfl)) _).drew,lY.o⟩;rw[tw.o];refine⟨?_,?_⟩
     ·have:=(uM.o.put 1 (.int .i64 ((L.length:Int)+1))).drew;simpa using this
     ·have h1:W2.ownsRow 0 5 1 (.slice (some ⟨g,0,none⟩) (room L).length cap) (room L).length ((pack (L++[v.testBit (j-1)])).map bv):=oP.o;have:=XA h1 (p:=⟨b,1,none⟩) (λe=>iP (by simpa [Value.ownBlock] using e.symm)) (.int .i64 ((L.length:Int)+1));rw[<-yU.o];exact this
    case measure=>simp[intOf];omega
  ·have:j=0:=(by omega);subst this;go_wp2;go_end0;exact⟨rfl,dr,by simpa using hw,hf,eC⟩
end Go.Proofs.YtchokmkfobandaaGreatDoor.Bio
namespace Go.Proofs.YtchokmkfobandaaGreatDoor.Bio
open Go.RowKit Go.Proofs Wv
def kv0:Value:=.agg #[.int .i64 0,.int .i64 62,.func (.func 274) #[] #[],.func (.func 275) #[] #[],.func (.func 276) #[] #[],.func (.func 277) #[] #[]]
def kv1:Value:=.agg #[.int .i64 0,.int .i64 0,.func (.func 273) #[] #[],.func (.func 279) #[] #[],.func (.func 280) #[] #[],.func (.func 282) #[] #[]]
def kv2:Value:=.agg #[.int .i64 0,.int .i64 30,.func (.func 273) #[] #[],.func (.func 284) #[] #[],.func (.func 285) #[] #[],.func (.func 286) #[] #[]]
def kv3:Value:=.agg #[.int .i64 0,.int .i64 30,.func (.func 287) #[] #[],.func (.func 288) #[] #[],.func (.func 289) #[] #[],.func (.func 290) #[] #[]]
def kv4:Value:=.agg #[.int .i64 1,.int .i64 4294967296,.func (.func 291) #[] #[],.func (.func 292) #[] #[],.func (.func 294) #[] #[],.func (.func 295) #[] #[]]
def kmap:Array MapEntry:= #[⟨.int .i64 0,kv0,0⟩,⟨.int .i64 1,kv1,1⟩,⟨.int .i64 2,kv2,2⟩,⟨.int .i64 3,kv3,3⟩,⟨.int .i64 4,kv4,4⟩]
theorem Z1D (w:World):
  Calls Tryz.prog 247 #[] w λe w'=>e=.returned (.map (some w.heap.size))/\w.alloc (.map kmap 5)=w':=by
 have jF:= @run_makeMap Tryz.prog;have p0:=Zj (P:=Tryz.prog) Tryz.underlying310 Tryz.underlying3 w #[] 0 0 (.agg #[.int .i64 0,.int .i64 62,.func (.func 274) #[] #[],.func (.func 275) #[] #[],.func (.func 276) #[] #[],.func (.func 277) #[] #[]]) rfl;have p1:=Zj (P:=Tryz.prog) Tryz.underlying310 Tryz.underlying3 w #[⟨.int .i64 0,.agg #[.int .i64 0,.int .i64 62,.func (.func 274) #[] #[],.func (.func 275) #[] #[],.func (.func 276) #[] #[],.func (.func 277) #[] #[]],0⟩] 1 1 (.agg #[.int .i64 0,.int .i64 0,.func (.func 273) #[] #[],.func (.func 279) #[] #[],.func (.func 280) #[] #[],.func (.func 282) #[] #[]]) rfl;have p2:=Zj (P:=Tryz.prog) Tryz.underlying310 Tryz.underlying3 w #[⟨.int .i64 0,.agg #[.int .i64 0,.int .i64 62,.func (.func 274) #[] #[],.func (.func 275) #[] #[],.func (.func 276) #[] #[],.func (.func 277) #[] #[]],0⟩,⟨.int .i64 1,.agg #[.int .i64 0,.int .i64 0,.func (.func 273) #[] #[],.func (.func 279) #[] #[],.func (.func 280) #[] #[],.func (.func 282) #[] #[]],1⟩] 2 2 (.agg #[.int .i64 0,.int .i64 30,.func (.func 273) #[] #[],.func (.func 284) #[] #[],.func (.func 285) #[] #[],.func (.func 286) #[] #[]]) rfl;have p3:=Zj (P:=Tryz.prog) Tryz.underlying310 Tryz.underlying3 w #[⟨.int .i64 0,.agg #[.int .i64 0,.int .i64 62,.func (.func 274) #[] #[],.func (.func 275) #[] #[],.func (.func 276) #[] #[],.func (.func 277) #[] #[]],0⟩,⟨.int .i64 1,.agg #[.int .i64 0,.int .i64 0,.func (.func 273) #[] #[],.func (.func 279) #[] #[],.func (.func 280) #[] #[],.func (.func 282) #[] #[]],1⟩,⟨.int .i64 2,.agg #[.int .i64 0,.int .i64 30,.func (.func 273) #[] #[],.func (.func 284) #[] #[],.func (.func 285) #[] #[],.func (.func 286) #[] #[]],2⟩] 3 3 (.agg #[.int .i64 0,.int .i64 30,.func (.func 287) #[] #[],.func (.func 288) #[] #[],.func (.func 289) #[] #[],.func (.func 290) #[] #[]]) rfl;have p4:=Zj (P:=Tryz.prog) Tryz.underlying310 Tryz.underlying3 w #[⟨.int .i64 0,.agg #[.int .i64 0,.int .i64 62,.func (.func 274) #[] #[],.func (.func 275) #[] #[],.func (.func 276) #[] #[],.func (.func 277) #[] #[]],0⟩,⟨.int .i64 1,.agg #[.int .i64 0,.int .i64 0,.func (.func 273) #[] #[],.func (.func 279) #[] #[],.func (.func 280) #[] #[],.func (.func 282) #[] #[]],1⟩,⟨.int .i64 2,.agg #[.int .i64 0,.int .i64 30,.func (.func 273) #[] #[],.func (.func 284) #[] #[],.func (.func 285) #[] #[],.func (.func 286) #[] #[]],2⟩,⟨.int .i64 3,.agg #[.int .i64 0,.int .i64 30,.func (.func 287) #[] #[],.func (.func 288) #[] #[],.func (.func 289) #[] #[],.func (.func 290) #[] #[]],3⟩] 4 4 (.agg #[.int .i64 1,.int .i64 4294967296,.func (.func 291) #[] #[],.func (.func 292) #[] #[],.func (.func 294) #[] #[],.func (.func 295) #[] #[]]) rfl;go_enter Tryz.func247,Tryz.ntmps247;go_wp2;go_ret;exact⟨rfl,rfl⟩
theorem six {W:World} {g:Nat} {t:TypeId} {c0 c1 c2 c3 c4 c5:Value} (h:Bk W g t #[c0,c1,c2,c3,c4,c5]):
  (W.cell? ⟨g,0,none⟩=some c0/\W.cell? ⟨g,1,none⟩=some c1/\W.cell? ⟨g,2,none⟩=some c2/\W.cell? ⟨g,3,none⟩=some c3/\W.cell? ⟨g,4,none⟩=some c4/\W.cell? ⟨g,5,none⟩=some c5)/\
  (W.frozen? ⟨g,0,none⟩=false/\W.frozen? ⟨g,1,none⟩=false/\W.frozen? ⟨g,2,none⟩=false/\W.frozen? ⟨g,3,none⟩=false/\W.frozen? ⟨g,4,none⟩=false/\W.frozen? ⟨g,5,none⟩=false):=
 ⟨⟨h.cell 0,h.cell 1,h.cell 2,h.cell 3,h.cell 4,h.cell 5⟩,h.frozen 0,h.frozen 1,h.frozen 2,h.frozen 3,h.frozen 4,h.frozen 5⟩
theorem Zab (w:World):
  Calls Tryz.prog 247 #[] w λe w'=>e=.returned (.map (some w.heap.size))/\w'.heap[w.heap.size]? =some (.map kmap 5)/\Below w.heap.size w w':=by
 refine(Z1D w).mono ?_;rintro e w' ⟨rfl,rfl⟩;exact⟨rfl,heap_alloc_new w _,(Vae _ _).alloc UZz _⟩
theorem ZjN (p:Int) (h0:0<=p) (h1:p<=62) (w:World):
  Calls Tryz.prog 208 #[.int .i64 0,.int .i64 p] w λe w'=>e=.returned (.tuple #[kv0,.bool true])/\Below w.heap.size w w':=by
 have hk:=h_ Zab;go_enter Tryz.func208,Tryz.ntmps208;go_wp2_with fail;refine(hk.o _).mono ?_;rintro e w1 ⟨rfl,hm,hb⟩;have hl:=Z8s (P:=Tryz.prog) Tryz.underlying310 Tryz.underlying3 w1 _ kmap 5 0 0 kv0 hm rfl;unfold kv0 at hl;rw[World.size_alloc] at hl;clear hm;have aM:=hb.size;simp at aM;have aW:=((Vae w.heap.size w).alloc UZz _).trans (hb.mono (by simp));have hz:=(((Bk.new w 273 #[.int .i64 0,.int .i64 0,.nilFunc,.nilFunc,.nilFunc,.nilFunc]).below hb (by simp)).alloc (.cells kv0.cells 273));obtain⟨bO,eF⟩:=six hz;simp only[kv0,Value.cells] at bO eF;clear hz hb;go_wp2;go_region;go_wp2;refine bodyPost_ret (v:=.tuple #[kv0,.bool true]) (by simp[results,Tryz.results208,go_sem,kv0, *]) rfl ⟨rfl,?_⟩;go_grown
end Go.Proofs.YtchokmkfobandaaGreatDoor.Bio
