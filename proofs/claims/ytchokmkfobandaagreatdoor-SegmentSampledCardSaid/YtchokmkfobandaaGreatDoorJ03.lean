import Derived.Test.YtchokmkfobandaaGreatDoorChecked
import Derived.Test.YtchokmkfobandaaGreatDoorJ01
import Derived.Test.YtchokmkfobandaaGreatDoorJ02
import Derived.WalkKit
import Derived.WalkSpells
import Derived.WalkLawsBesides
import Derived.Deep.QuietTactic
import Derived.BigQuiet
import Derived.BigRegion
import Derived.StillTailTactics
import Derived.Laws.EntriesVeiled
set_option linter.unusedVariables false
set_option linter.unusedSimpArgs false
set_option maxRecDepth 100000
set_option maxHeartbeats 8000000
namespace Go.Proofs.YtchokmkfobandaaGreatDoor.Bio
open Go.RowKit Go.Proofs Wv Wv.Bit
theorem Za8:(Tryz.prog.info? 5).map (λi=>(i.zero,i.size,i.bytes))=some (some (.int .u8 0),1,1):=by kernel_rfl
def WrAt (w:World) (b:Nat) (dv:Value) (l:List Bool):Prop:=
 Bk w b 269 #[dv,.int .i64 (l.length:Int)]/\w.ownsRow 0 5 1 dv (pack l).length ((pack l).map bv)
def Zo (w:World) (dv cK:Value):Prop:=cK.ownBlock=dv.ownBlock\/∀g,cK.ownBlock=some g->w.heap.size<=g
def ZgM (W:World) (b g cap M:Nat) (l:List Bool):Prop:=
 Bk W b 269 #[.slice (some ⟨g,0,none⟩) M cap,.int .i64 (l.length:Int)]/\W.ownsRow 0 5 1 (.slice (some ⟨g,0,none⟩) M cap) M ((room l).map bv)
theorem Za9 {b:Nat} {dv:Value} {l:List Bool} {w:World} (h:WrAt w b dv l) (c v:Int) (h0:0<=c) (hc:c<=63) (hv:0<=v) (bj:v<=9223372036854775807) (hl:l.length+c.toNat<=1000000):
  Calls Tryz.prog 209 #[.pointer (some ⟨b,0,none⟩),.int .i64 c,.int .i64 v] w λe w'=>e=.returned (.tuple #[])/\
   ∃cK,WrAt w' b cK (l++num c.toNat v.toNat)/\Fr (foot b dv) w w'/\Zo w dv cK:=by
 obtain⟨c,rfl⟩:=Int.eq_ofNat_of_zero_le h0;obtain⟨v,rfl⟩:=Int.eq_ofNat_of_zero_le hv;rw[Vav] at hl;rw[Vav,Vav];obtain⟨i0,hi,du,bN,eB⟩:=info_parts Za8;have ha:=and1;go_enter Tryz.func209,Tryz.ntmps209;go_wp2;go_loopw [6] (λi wr=>∃(j:Nat) (dr:Value),j<=c/\i=.int .i64 ((j:Int)-1)/\WrAt wr b dr (l++num (c-j) (v/2 ^ j))/\Fr (foot b dv) w wr/\Zo w dv dr) (λi _=>(intOf i+1).toNat);case atStart=>exact⟨c,dv,by omega,rfl,by rw[Va7];simpa [num] using h,Fr.refl _ _,.inl rfl⟩
 case round=>
  obtain⟨j,dr,hj,rfl,hw,hf,ew⟩:=hrel;by_cases ab:0<j
  ·have hlen:(l++num (c-j) (v/2 ^ j)).length=l.length+(c-j):=(by rw[Vab,Z7]);have tr:l++num (c-(j-1)) (v/2 ^ (j-1))=(l++num (c-j) (v/2 ^ j))++[v.testBit (j-1)]:=(by rw[Vay,Za7 c v j ab hj]);have tu:=h_ tr;generalize l++num (c-j) (v/2 ^ j)=L at*;obtain⟨aD,aa⟩:=hw;have g0:=aD.cell 0;have g1:=aD.cell 1;have f0:=aD.frozen 0;have f1:=aD.frozen 1;simp at g0 g1;have hN:L.length<=1000000:=(by omega);have fh:=pack_length L;have cA:=h_ aa;have kE:=h_ aD;clear tr hlen aa aD fh;by_cases h8:L.length % 8=0
   ·have e8:(((L.length:Int) % 8)==0)=true:=(by rw[beq_iff_eq];omega);have fh:=pack_length L;have dB:(pack L).length+1<=maxLen:=(by unfold maxLen;omega);have eA:((pack L).length+1)*1<=140737488355328:=(by omega);clear fh;have H8:=h_ h8;clear h8
    go_wp2_with (
     at_builtin;refine wpList_append_own_at _ rfl (.tmp 23) (.tmp 24) _ rfl 0 5 i0 (.int .u8 0) 1 1 Tryz.underlying115 hi du bN eB rfl (by omega) dr (pack L).length ((pack L).map bv) (by rfl) (cA.o.alloc _) ⟨wr.heap.size,0,none⟩ 1 1 [.int .u8 0] (by rfl) rfl (XC _ _ _) (by simp[Value.oneCell']) dB eA (Vat _) ?_;intro v' w1 ah dm _ ak;obtain⟨g,cap,rfl,fN⟩:=QT ah (by omega);have eC:=(kE.o.alloc _).grown dm (λe=>Z2 cA.o kE.o (by decide) e.symm);have q0:=eC.cell 0;have q1:=eC.cell 1;have p0:=eC.frozen 0;have p1:=eC.frozen 1;simp at q0 q1;have aI:=h_ ah;have uJ:=h_ eC;clear ah eC)
    have hR:ZgM (w1.setCell ⟨b,0,none⟩ (.slice (some ⟨g,0,none⟩) ((pack L).length+1) cap)) b g cap ((pack L).length+1) L:=by
     refine⟨?_,?_⟩
     ·have:=uJ.o.put 0 (.slice (some ⟨g,0,none⟩) ((pack L).length+1) cap);simpa using this
     ·have e1:room L=pack L++[0]:=(by rw[room,Vaf H8.o]);have e2:((pack L).map bv++[.int .u8 0])=(room L).map bv:=(by rw[e1,Vbk];rfl);have:=aI.o;rw[e2] at this;refine XB this (λe=>Z2 aI.o uJ.o (by decide) e) _
    have hM:(pack L).length+1=(room L).length:=(by rw[room,Vaf H8.o];simp);rw[hM] at hR fN⊢
    have ai:Fr (foot b dv) w (w1.setCell ⟨b,0,none⟩ (.slice (some ⟨g,0,none⟩) (room L).length cap)):=by
     refine((hf.alloc _).grown dm (λk hk=> ?_)).setCell (p:=⟨b,0,none⟩) (.inl (.inl rfl)) _;rcases ew with h1|h1
     ·exact .inl (.inr (h1▸hk))
     ·exact .inr (h1 k hk)
    have oJ:Zo w dv (.slice (some ⟨g,0,none⟩) (room L).length cap):=by
     rcases ak with h1|h1
     ·rcases ew with h2|h2
      ·exact .inl (h1.trans h2)
      ·exact .inr (λk hk=>h2 k (h1▸hk))
     ·refine .inr (λk hk=> ?_);have h3:(w.heap.size)<=wr.heap.size:=hf.size;have h4:some k=some (wr.alloc (.cells #[.int .u8 0] 5)).heap.size:=hk.symm.trans h1;injection h4 with h4;rw[h4];simp;omega
    generalize w1.setCell ⟨b,0,none⟩ (.slice (some ⟨g,0,none⟩) (room L).length cap)=W at*;clear uJ aI hM q0 q1 p0 p1 g0 g1 f0 f1 ak dm dB eA ew hf;have gH:=hR;obtain⟨dF,aR⟩:=hR;have q0:=dF.cell 0;have q1:=dF.cell 1;have p1:=dF.frozen 1;simp at q0 q1;have Fb:=XI L;have uK:L.length/8<(room L).length:=(by omega)
    have hold:=QS aR (L.length/8) (.int .u8 (ZU L (L.length/8):Nat)) (by
     rw[Vbb,Van uK,Q7];simp only[Vch,bv];congr 2;have:=YZ L (L.length/8);simp[Nat.mod_eq_of_lt this])
    obtain⟨o1,o2⟩:=hold;have cD:=YZ L (L.length/8);have ej:=Z2y L;have lM:=h_ (Z4o L (v.testBit (j-1)));obtain⟨z,hz⟩:∃z,L.length/8=z:=⟨_,rfl⟩;obtain⟨m,hm⟩:∃m,L.length % 8=m:=⟨_,rfl⟩;obtain⟨d,hd⟩:∃d,7-m=d:=⟨_,rfl⟩;have i3:IntKind.i64.wrap ((L.length:Int)/8)=(z:Int):=(by rw[IntWalk.i64_in _ (by omega)];omega);have i4:IntKind.i64.wrap ((L.length:Int) % 8)=(m:Int):=(by rw[IntWalk.i64_in _ (by omega)];omega);have i5:IntKind.i64.wrap (7-(m:Int))=(d:Int):=(by rw[IntWalk.i64_in _ (by omega)];omega);rw[hz] at uK o1 o2 cD ej lM;rw[hm] at ej lM;rw[show 8-m=d+1 from by omega] at ej;rw[hd] at lM;have PG:j-1<=64:=(by omega);obtain⟨old,ir⟩:∃old,ZU L z=old:=⟨_,rfl⟩;rw[ir] at o1 cD ej lM;have i6:(z:Int)<((room L).length:Int):=(by omega);have i7:(0:Int)<=(z:Int):=(by omega);have d8:d<8:=(by omega);have Fc:=h_ ej;have Hx:=h_ (Z4p old v (j-1) L.length cD (by rw[hm,hd];exact ej));have rI:=h_ gH;have cl:=h_ ai;have lW:=h_ oJ
    have iV:=h_ (show(b:Nat)≠g from λe=>by
     have:=Z2 aR dF (by decide);simp[Value.ownBlock,e] at this)
    have Hd:=h_ (show 7-L.length % 8=d from by omega)
    have je:=h_ (show old+(v.testBit (j-1)).toNat*2 ^ (7-L.length % 8)<256 from by
     have h1:=YZ (L++[v.testBit (j-1)]) (L.length/8);rw[QL,hz,ir] at h1;exact h1)
    clear ir hz hm hd ej gH dF aR ai oJ Fb;go_region;clear i3 i4 i5;rw[Hx.o];have yK:old+(v.testBit (j-1)).toNat*2 ^ (7-L.length % 8)<256:=je.o;have jK:=rI.o.1.off (p:=⟨g,z,none⟩) iV (.int .u8 ((old+(v.testBit (j-1)).toNat*2 ^ (7-L.length % 8):Nat):Int));have dG:=Z0r rI.o.2 z uK (.int .u8 ((old+(v.testBit (j-1)).toNat*2 ^ (7-L.length % 8):Nat):Int))
    have aO:Fr (foot b dv) w (W.setCell ⟨g,z,none⟩ (.int .u8 ((old+(v.testBit (j-1)).toNat*2 ^ (7-L.length % 8):Nat):Int))):=by
     refine cl.o.setCell (p:=⟨g,z,none⟩) ?_ _;rcases lW.o with h1|h1
     ·exact .inl (.inr (h1.symm.trans rfl))
     ·exact .inr (h1 g rfl)
    have eZ:((room L).map bv).set z (.int .u8 ((old+(v.testBit (j-1)).toNat*2 ^ (7-L.length % 8):Nat):Int))=(pack (L++[v.testBit (j-1)])).map bv:=by
     rw[lM.o,List.map_set,<-Hd.o];congr 1;simp only[bv];congr 2;simp[Nat.mod_eq_of_lt yK]
    have fh:(room L).length=(pack (L++[v.testBit (j-1)])).length:=(by rw[lM.o,Vbh]);rw[eZ] at dG;generalize W.setCell ⟨g,z,none⟩ (.int .u8 ((old+(v.testBit (j-1)).toNat*2 ^ (7-L.length % 8):Nat):Int))=W2 at*;have r1:=jK.cell 1;have t1:=jK.frozen 1;simp at r1;have uL:=h_ jK;have oK:=h_ dG;have yL:=h_ fh;clear jK dG eZ fh yK q0 q1 p1 o1 o2;go_wp2;go_roundw
    case rel=>
     refine⟨j-1,.slice (some ⟨g,0,none⟩) (room L).length cap,by omega,by congr 1;omega,?_,(aO.setCell (p:=⟨b,1,none⟩) (.inl (.inl rfl)) _).drew,lW.o⟩;rw[tu.o];refine⟨?_,?_⟩
     ·have:=(uL.o.put 1 (.int .i64 ((L.length:Int)+1))).drew;simpa using this
     ·have h1:W2.ownsRow 0 5 1 (.slice (some ⟨g,0,none⟩) (room L).length cap) (room L).length ((pack (L++[v.testBit (j-1)])).map bv):=oK.o;have:=XB h1 (p:=⟨b,1,none⟩) (λe=>iV (by simpa [Value.ownBlock] using e.symm)) (.int .i64 ((L.length:Int)+1));rw[<-yL.o];exact this
    case measure=>simp[intOf];omega
   ·have fh:=pack_length L;have xM:room L=pack L:=(by rw[room,Vad h8]);obtain⟨g,cap,rfl,fN⟩:=QT cA.o (by omega);have hR:ZgM wr b g cap (room L).length L:=⟨by rw[xM];exact kE.o,by rw[xM];exact cA.o⟩;have e8:(((L.length:Int) % 8)==0)=false:=(by rw[Vam];omega);rw[<-xM] at fN ew g0;have ai:=hf;have oJ:=ew;obtain⟨W,hW⟩:∃W,W=wr:=⟨_,rfl⟩;subst hW;clear fh xM h8 kE cA hf ew g0 g1 f0 f1;have gH:=hR;obtain⟨dF,aR⟩:=hR;have q0:=dF.cell 0;have q1:=dF.cell 1;have p1:=dF.frozen 1;simp at q0 q1;have Fb:=XI L;have uK:L.length/8<(room L).length:=(by omega)
    have hold:=QS aR (L.length/8) (.int .u8 (ZU L (L.length/8):Nat)) (by
     rw[Vbb,Van uK,Q7];simp only[Vch,bv];congr 2;have:=YZ L (L.length/8);simp[Nat.mod_eq_of_lt this])
    obtain⟨o1,o2⟩:=hold;have cD:=YZ L (L.length/8);have ej:=Z2y L;have lM:=h_ (Z4o L (v.testBit (j-1)));obtain⟨z,hz⟩:∃z,L.length/8=z:=⟨_,rfl⟩;obtain⟨m,hm⟩:∃m,L.length % 8=m:=⟨_,rfl⟩;obtain⟨d,hd⟩:∃d,7-m=d:=⟨_,rfl⟩;have i3:IntKind.i64.wrap ((L.length:Int)/8)=(z:Int):=(by rw[IntWalk.i64_in _ (by omega)];omega);have i4:IntKind.i64.wrap ((L.length:Int) % 8)=(m:Int):=(by rw[IntWalk.i64_in _ (by omega)];omega);have i5:IntKind.i64.wrap (7-(m:Int))=(d:Int):=(by rw[IntWalk.i64_in _ (by omega)];omega);rw[hz] at uK o1 o2 cD ej lM;rw[hm] at ej lM;rw[show 8-m=d+1 from by omega] at ej;rw[hd] at lM;have PG:j-1<=64:=(by omega);obtain⟨old,ir⟩:∃old,ZU L z=old:=⟨_,rfl⟩;rw[ir] at o1 cD ej lM;have i6:(z:Int)<((room L).length:Int):=(by omega);have i7:(0:Int)<=(z:Int):=(by omega);have d8:d<8:=(by omega);have Fc:=h_ ej;have Hx:=h_ (Z4p old v (j-1) L.length cD (by rw[hm,hd];exact ej));have rI:=h_ gH;have cl:=h_ ai;have lW:=h_ oJ
    have iV:=h_ (show(b:Nat)≠g from λe=>by
     have:=Z2 aR dF (by decide);simp[Value.ownBlock,e] at this)
    have Hd:=h_ (show 7-L.length % 8=d from by omega)
    have je:=h_ (show old+(v.testBit (j-1)).toNat*2 ^ (7-L.length % 8)<256 from by
     have h1:=YZ (L++[v.testBit (j-1)]) (L.length/8);rw[QL,hz,ir] at h1;exact h1)
    clear ir hz hm hd ej gH dF aR ai oJ Fb;go_wp2;go_region;clear i3 i4 i5;rw[Hx.o];have yK:old+(v.testBit (j-1)).toNat*2 ^ (7-L.length % 8)<256:=je.o;have jK:=rI.o.1.off (p:=⟨g,z,none⟩) iV (.int .u8 ((old+(v.testBit (j-1)).toNat*2 ^ (7-L.length % 8):Nat):Int));have dG:=Z0r rI.o.2 z uK (.int .u8 ((old+(v.testBit (j-1)).toNat*2 ^ (7-L.length % 8):Nat):Int))
    have aO:Fr (foot b dv) w (W.setCell ⟨g,z,none⟩ (.int .u8 ((old+(v.testBit (j-1)).toNat*2 ^ (7-L.length % 8):Nat):Int))):=by
     refine cl.o.setCell (p:=⟨g,z,none⟩) ?_ _;rcases lW.o with h1|h1
     ·exact .inl (.inr (h1.symm.trans rfl))
     ·exact .inr (h1 g rfl)
    have eZ:((room L).map bv).set z (.int .u8 ((old+(v.testBit (j-1)).toNat*2 ^ (7-L.length % 8):Nat):Int))=(pack (L++[v.testBit (j-1)])).map bv:=by
     rw[lM.o,List.map_set,<-Hd.o];congr 1;simp only[bv];congr 2;simp[Nat.mod_eq_of_lt yK]
    have fh:(room L).length=(pack (L++[v.testBit (j-1)])).length:=(by rw[lM.o,Vbh]);rw[eZ] at dG;generalize W.setCell ⟨g,z,none⟩ (.int .u8 ((old+(v.testBit (j-1)).toNat*2 ^ (7-L.length % 8):Nat):Int))=W2 at*;have r1:=jK.cell 1;have t1:=jK.frozen 1;simp at r1;have uL:=h_ jK;have oK:=h_ dG;have yL:=h_ fh;clear jK dG eZ fh yK q0 q1 p1 o1 o2;go_wp2;go_roundw
    case rel=>
     refine⟨j-1,.slice (some ⟨g,0,none⟩) (room L).length cap,by omega,by congr 1;omega,?_,(aO.setCell (p:=⟨b,1,none⟩) (.inl (.inl rfl)) _).drew,lW.o⟩;rw[tu.o];refine⟨?_,?_⟩
     ·have:=(uL.o.put 1 (.int .i64 ((L.length:Int)+1))).drew;simpa using this
     ·have h1:W2.ownsRow 0 5 1 (.slice (some ⟨g,0,none⟩) (room L).length cap) (room L).length ((pack (L++[v.testBit (j-1)])).map bv):=oK.o;have:=XB h1 (p:=⟨b,1,none⟩) (λe=>iV (by simpa [Value.ownBlock] using e.symm)) (.int .i64 ((L.length:Int)+1));rw[<-yL.o];exact this
    case measure=>simp[intOf];omega
  ·have:j=0:=(by omega);subst this;go_wp2;go_end0;exact⟨rfl,dr,by simpa using hw,hf,ew⟩
end Go.Proofs.YtchokmkfobandaaGreatDoor.Bio
namespace Go.Proofs.YtchokmkfobandaaGreatDoor.Bio
open Go.RowKit Go.Proofs Wv
def kv0:Value:=.agg #[.int .i64 0,.int .i64 62,.func (.func 274) #[] #[],.func (.func 275) #[] #[],.func (.func 276) #[] #[],.func (.func 277) #[] #[]]
def kv1:Value:=.agg #[.int .i64 0,.int .i64 0,.func (.func 273) #[] #[],.func (.func 279) #[] #[],.func (.func 280) #[] #[],.func (.func 282) #[] #[]]
def kv2:Value:=.agg #[.int .i64 0,.int .i64 30,.func (.func 273) #[] #[],.func (.func 284) #[] #[],.func (.func 285) #[] #[],.func (.func 286) #[] #[]]
def kv3:Value:=.agg #[.int .i64 0,.int .i64 30,.func (.func 287) #[] #[],.func (.func 288) #[] #[],.func (.func 289) #[] #[],.func (.func 290) #[] #[]]
def kv4:Value:=.agg #[.int .i64 1,.int .i64 4294967296,.func (.func 291) #[] #[],.func (.func 292) #[] #[],.func (.func 294) #[] #[],.func (.func 295) #[] #[]]
def kmap:Array MapEntry:= #[⟨.int .i64 0,kv0,0⟩,⟨.int .i64 1,kv1,1⟩,⟨.int .i64 2,kv2,2⟩,⟨.int .i64 3,kv3,3⟩,⟨.int .i64 4,kv4,4⟩]
theorem Z1y (w:World):
  Calls Tryz.prog 247 #[] w λe w'=>e=.returned (.map (some w.heap.size))/\w.alloc (.map kmap 5)=w':=by
 have jL:= @run_makeMap Tryz.prog;have p0:=Zj (P:=Tryz.prog) Tryz.underlying310 Tryz.underlying3 w #[] 0 0 (.agg #[.int .i64 0,.int .i64 62,.func (.func 274) #[] #[],.func (.func 275) #[] #[],.func (.func 276) #[] #[],.func (.func 277) #[] #[]]) rfl;have p1:=Zj (P:=Tryz.prog) Tryz.underlying310 Tryz.underlying3 w #[⟨.int .i64 0,.agg #[.int .i64 0,.int .i64 62,.func (.func 274) #[] #[],.func (.func 275) #[] #[],.func (.func 276) #[] #[],.func (.func 277) #[] #[]],0⟩] 1 1 (.agg #[.int .i64 0,.int .i64 0,.func (.func 273) #[] #[],.func (.func 279) #[] #[],.func (.func 280) #[] #[],.func (.func 282) #[] #[]]) rfl;have p2:=Zj (P:=Tryz.prog) Tryz.underlying310 Tryz.underlying3 w #[⟨.int .i64 0,.agg #[.int .i64 0,.int .i64 62,.func (.func 274) #[] #[],.func (.func 275) #[] #[],.func (.func 276) #[] #[],.func (.func 277) #[] #[]],0⟩,⟨.int .i64 1,.agg #[.int .i64 0,.int .i64 0,.func (.func 273) #[] #[],.func (.func 279) #[] #[],.func (.func 280) #[] #[],.func (.func 282) #[] #[]],1⟩] 2 2 (.agg #[.int .i64 0,.int .i64 30,.func (.func 273) #[] #[],.func (.func 284) #[] #[],.func (.func 285) #[] #[],.func (.func 286) #[] #[]]) rfl;have p3:=Zj (P:=Tryz.prog) Tryz.underlying310 Tryz.underlying3 w #[⟨.int .i64 0,.agg #[.int .i64 0,.int .i64 62,.func (.func 274) #[] #[],.func (.func 275) #[] #[],.func (.func 276) #[] #[],.func (.func 277) #[] #[]],0⟩,⟨.int .i64 1,.agg #[.int .i64 0,.int .i64 0,.func (.func 273) #[] #[],.func (.func 279) #[] #[],.func (.func 280) #[] #[],.func (.func 282) #[] #[]],1⟩,⟨.int .i64 2,.agg #[.int .i64 0,.int .i64 30,.func (.func 273) #[] #[],.func (.func 284) #[] #[],.func (.func 285) #[] #[],.func (.func 286) #[] #[]],2⟩] 3 3 (.agg #[.int .i64 0,.int .i64 30,.func (.func 287) #[] #[],.func (.func 288) #[] #[],.func (.func 289) #[] #[],.func (.func 290) #[] #[]]) rfl;have p4:=Zj (P:=Tryz.prog) Tryz.underlying310 Tryz.underlying3 w #[⟨.int .i64 0,.agg #[.int .i64 0,.int .i64 62,.func (.func 274) #[] #[],.func (.func 275) #[] #[],.func (.func 276) #[] #[],.func (.func 277) #[] #[]],0⟩,⟨.int .i64 1,.agg #[.int .i64 0,.int .i64 0,.func (.func 273) #[] #[],.func (.func 279) #[] #[],.func (.func 280) #[] #[],.func (.func 282) #[] #[]],1⟩,⟨.int .i64 2,.agg #[.int .i64 0,.int .i64 30,.func (.func 273) #[] #[],.func (.func 284) #[] #[],.func (.func 285) #[] #[],.func (.func 286) #[] #[]],2⟩,⟨.int .i64 3,.agg #[.int .i64 0,.int .i64 30,.func (.func 287) #[] #[],.func (.func 288) #[] #[],.func (.func 289) #[] #[],.func (.func 290) #[] #[]],3⟩] 4 4 (.agg #[.int .i64 1,.int .i64 4294967296,.func (.func 291) #[] #[],.func (.func 292) #[] #[],.func (.func 294) #[] #[],.func (.func 295) #[] #[]]) rfl;go_enter Tryz.func247,Tryz.ntmps247;go_wp2;go_ret;exact⟨rfl,rfl⟩
theorem six {W:World} {g:Nat} {t:TypeId} {c0 c1 c2 c3 c4 c5:Value} (h:Bk W g t #[c0,c1,c2,c3,c4,c5]):
  (W.cell? ⟨g,0,none⟩=some c0/\W.cell? ⟨g,1,none⟩=some c1/\W.cell? ⟨g,2,none⟩=some c2/\W.cell? ⟨g,3,none⟩=some c3/\W.cell? ⟨g,4,none⟩=some c4/\W.cell? ⟨g,5,none⟩=some c5)/\
  (W.frozen? ⟨g,0,none⟩=false/\W.frozen? ⟨g,1,none⟩=false/\W.frozen? ⟨g,2,none⟩=false/\W.frozen? ⟨g,3,none⟩=false/\W.frozen? ⟨g,4,none⟩=false/\W.frozen? ⟨g,5,none⟩=false):=
 ⟨⟨h.cell 0,h.cell 1,h.cell 2,h.cell 3,h.cell 4,h.cell 5⟩,h.frozen 0,h.frozen 1,h.frozen 2,h.frozen 3,h.frozen 4,h.frozen 5⟩
theorem Zaa (w:World):
  Calls Tryz.prog 247 #[] w λe w'=>e=.returned (.map (some w.heap.size))/\w'.heap[w.heap.size]? =some (.map kmap 5)/\Below w.heap.size w w':=by
 refine(Z1y w).mono ?_;rintro e w' ⟨rfl,rfl⟩;exact⟨rfl,heap_alloc_new w _,(Vae _ _).alloc UZz _⟩
theorem ZjJ (p:Int) (h0:0<=p) (h1:p<=62) (w:World):
  Calls Tryz.prog 208 #[.int .i64 0,.int .i64 p] w λe w'=>e=.returned (.tuple #[kv0,.bool true])/\Below w.heap.size w w':=by
 have hk:=h_ Zaa;go_enter Tryz.func208,Tryz.ntmps208;go_wp2_with fail;refine(hk.o _).mono ?_;rintro e w1 ⟨rfl,hm,hb⟩;have hl:=Z8r (P:=Tryz.prog) Tryz.underlying310 Tryz.underlying3 w1 _ kmap 5 0 0 kv0 hm rfl;unfold kv0 at hl;rw[World.size_alloc] at hl;clear hm;have aM:=hb.size;simp at aM;have aS:=((Vae w.heap.size w).alloc UZz _).trans (hb.mono (by simp));have hz:=(((Bk.new w 273 #[.int .i64 0,.int .i64 0,.nilFunc,.nilFunc,.nilFunc,.nilFunc]).below hb (by simp)).alloc (.cells kv0.cells 273));obtain⟨bN,eB⟩:=six hz;simp only[kv0,Value.cells] at bN eB;clear hz hb;go_wp2;go_region;go_wp2;refine bodyPost_ret (v:=.tuple #[kv0,.bool true]) (by simp[results,Tryz.results208,go_sem,kv0, *]) rfl ⟨rfl,?_⟩;go_grown
end Go.Proofs.YtchokmkfobandaaGreatDoor.Bio
