import Derived.Test.YtchokmkfobandaaGreatDoorM12
set_option linter.unusedVariables false
set_option linter.unusedSimpArgs false
set_option maxRecDepth 100000
set_option maxHeartbeats 8000000
namespace Go.Proofs.YtchokmkfobandaaGreatDoor.Bio
open Go.RowKit Go.Proofs Wv Wv.Bit
theorem WrAt.fr {w w':World} {b:Nat} {dv:Value} {l:List Bool} {S:Nat->Prop} (h:WrAt w b dv l) (hf:Fr S w w') (hS:∀k,k<w.heap.size->¬S k):WrAt w' b dv l:=
 ⟨h.1.fr hf (hS b h.1.lt),Zl h.2 hf (λg hg=>hS g (h.2.lt g hg).2)⟩
theorem WrAt.below {w w':World} {b:Nat} {dv:Value} {l:List Bool} (h:WrAt w b dv l) (hb:Below w.heap.size w w'):WrAt w' b dv l:=
 h.fr (Fr.of_below (S:=λ_=>False) hb) (λ_ _ f=>f)
theorem WrAt.alloc {w:World} {b:Nat} {dv:Value} {l:List Bool} (h:WrAt w b dv l) (o:Obj):WrAt (w.alloc o) b dv l:=
 ⟨h.1.alloc o,h.2.alloc o⟩
theorem wput0 {b:Nat} {dv:Value} {l:List Bool} {w:World} (hw:WrAt w b dv l) (hl:l.length<=65536) (p:Int) (v:Int) (h0:0<=p) (h1:p<=62) (bq: -9223372036854775808<=v) (bm:v<=9223372036854775807):
  Calls Tryz.prog 164 #[.pointer (some ⟨b,0,none⟩),.agg #[.int .i64 0,.int .i64 p,.int .i64 v]] w λe w'=>e=.returned (.int .i64 ((putm l ⟨0,p,v⟩).2:Nat))/\∃cO,WrAt w' b cO (putm l ⟨0,p,v⟩).1/\Fr (foot b dv) w w'/\Zo w dv cO:=by
 have vn:=ZjN p h0 h1 (w.alloc (.cells #[.int .i64 0,.int .i64 p,.int .i64 v] 216));unfold kv0 at vn;have Hf:=h_ vn;have Hv:=h_ (ZhW p v h0 h1 bq bm);clear vn;by_cases aV:vld 0 p v=true
 ·have ir:=Za7 aV;have Hs:=h_ (λw=>Zkc p v aV w);have Hw:=h_ (λ(W:World) (hW:WrAt W b dv l)=>ZhX hW p v aV hl);have Hp:=h_ (show putm l ⟨0,p,v⟩=if 65536<l.length+(QM 0 (p:Int).toNat v.toNat).length then(l,9) else(l++QM 0 (p:Int).toNat v.toNat,0) from by rw[putm,Cd.ok];simp only;rw[aV];rfl);rw[aV] at Hv;change (QM 0 (p:Int).toNat v.toNat).length<=8192 at ir;obtain⟨cb,jb⟩:∃cb,QM 0 (p:Int).toNat v.toNat=cb:=⟨_,rfl⟩;rw[jb] at ir Hs Hp Hw;clear aV jb;by_cases fg:65536<l.length+cb.length
  ·have sc:(65536:Int)<(l.length:Int)+(cb.length:Int):=(by omega);obtain⟨t,ht⟩:∃t,l.length+cb.length=t:=⟨_,rfl⟩;have i1:IntKind.i64.wrap ((l.length:Int)+(cb.length:Int))=(t:Int):=(by rw[IntWalk.i64_in _ (by omega)];omega);have i2:(65536:Int)<(t:Int):=(by omega);clear ht;go_enter Tryz.func164,Tryz.ntmps164;go_wp2_with fail;refine(Hf.o).mono ?_;rintro e w1 ⟨rfl,hb⟩;have cq:=Zho hb;have hs:=hb.size;have hz:w.heap.size<w1.heap.size:=Va5 (by simp) hs;simp at hs;have eU:=(hw.alloc (.cells #[.int .i64 0,.int .i64 p,.int .i64 v] 216)).below hb;have aC:=((Fr.refl (foot b dv) w).alloc (.cells #[.int .i64 0,.int .i64 p,.int .i64 v] 216)).below hb;have cF:=eU.1.lt;have g1:=eU.1.cell 1;simp at g1;go_wp2_with fail;refine(Hv.o _).mono ?_;rintro e w2 ⟨rfl,q,rfl⟩;go_wp2_with fail;go_quiet ((go_at_call 275;first|exact q3 (Hs.o _)|exact q4 (Hs.o _)));clear i1;go_wp2;go_ret;exact⟨Z1k (by rw[Hp.o,Vaf fg];rfl),dv,by rw[Hp.o,Vaf fg];exact eU.alloc _,((aC.alloc _).drewN _).drewN _,.inl rfl⟩
  ·have sc:¬(65536:Int)<(l.length:Int)+(cb.length:Int):=(by omega);obtain⟨t,ht⟩:∃t,l.length+cb.length=t:=⟨_,rfl⟩;have i1:IntKind.i64.wrap ((l.length:Int)+(cb.length:Int))=(t:Int):=(by rw[IntWalk.i64_in _ (by omega)];omega);have i2:¬(65536:Int)<(t:Int):=(by omega);clear ht;go_enter Tryz.func164,Tryz.ntmps164;go_wp2_with fail;refine(Hf.o).mono ?_;rintro e w1 ⟨rfl,hb⟩;have cq:=Zho hb;have hs:=hb.size;have hz:w.heap.size<w1.heap.size:=Va5 (by simp) hs;simp at hs;have eU:=(hw.alloc (.cells #[.int .i64 0,.int .i64 p,.int .i64 v] 216)).below hb;have aC:=((Fr.refl (foot b dv) w).alloc (.cells #[.int .i64 0,.int .i64 p,.int .i64 v] 216)).below hb;have cF:=eU.1.lt;have g1:=eU.1.cell 1;simp at g1;go_wp2_with fail;refine(Hv.o _).mono ?_;rintro e w2 ⟨rfl,q,rfl⟩;go_wp2_with fail;go_quiet ((go_at_call 275;first|exact q3 (Hs.o _)|exact q4 (Hs.o _)));clear i1;go_wp2_with fail;have R7:∀k,WrAt ((w1.alloc (.cells #[.int .i64 0,.int .i64 62,.func (.func 274) #[] #[],.func (.func 275) #[] #[],.func (.func 276) #[] #[],.func (.func 277) #[] #[]] 273)).drewN k) b dv l:=λ_=>eU.alloc _;refine(Hw.o _ (R7 _)).mono ?_;rintro e w3 ⟨rfl,d3,DF,aR,mS⟩;go_wp2;go_ret;have jc:Fr (foot b dv) w (w1.alloc (.cells kv0.cells 273)):=aC.alloc _;simp only[kv0,Value.cells] at jc;have h7:=ZeM (w:=w) (jc.drewN _) (.inl rfl) aR mS;exact⟨Z1k (by rw[Hp.o,Vad fg];rfl),d3,by rw[Hp.o,Vad fg];exact DF,h7.1,h7.2⟩
 ·have zE:vld 0 p v=false:=(by simpa using aV);have Hp:=h_ (show putm l ⟨0,p,v⟩=(l,1) from by rw[putm,Cd.ok];simp only;rw[zE];rfl);rw[zE] at Hv;clear aV zE;go_enter Tryz.func164,Tryz.ntmps164;go_wp2_with fail;refine(Hf.o).mono ?_;rintro e w1 ⟨rfl,hb⟩;have cq:=Zho hb;have hs:=hb.size;have hz:w.heap.size<w1.heap.size:=Va5 (by simp) hs;simp at hs;have eU:=(hw.alloc (.cells #[.int .i64 0,.int .i64 p,.int .i64 v] 216)).below hb;have aC:=((Fr.refl (foot b dv) w).alloc (.cells #[.int .i64 0,.int .i64 p,.int .i64 v] 216)).below hb;have cF:=eU.1.lt;have g1:=eU.1.cell 1;simp at g1;go_wp2_with fail;refine(Hv.o _).mono ?_;rintro e w2 ⟨rfl,q,rfl⟩;go_wp2;go_ret;exact⟨Z1k (by rw[Hp.o];rfl),dv,by rw[Hp.o];exact eU.alloc _,(aC.alloc _).drewN _,.inl rfl⟩
theorem newwriter_any (w:World):
  Calls Tryz.prog 163 #[] w λe w'=>e=.returned (.pointer (some ⟨w.heap.size,0,none⟩))/\WrAt w' w.heap.size (.slice none 0 0) []/\Below w.heap.size w w':=by
 go_enter Tryz.func163,Tryz.ntmps163;go_wp2;go_ret;exact⟨rfl,⟨Bk.new _ _ _,World.ownsRow_nil _ _ _ _⟩,(Vae _ _).alloc UZz _⟩
theorem Z3T (l:List UInt8):∀y∈l.map bv,y.oneCell'=true:=by
 intro y hy;obtain⟨b,_,rfl⟩:=Va6.1 hy;rfl
theorem wbytes_any {b:Nat} {dv:Value} {l:List Bool} {w:World} (hw:WrAt w b dv l) (hl:l.length<=65536):
  Calls Tryz.prog 166 #[.pointer (some ⟨b,0,none⟩)] w λe w'=>e=.returned (.string ⟨(pack (l++[true])).toArray⟩)/\Below w.heap.size w w':=by
 have fi:=pack_length l;have eW:(w.alloc (.cells #[] 5)).ownsRow w.heap.size 5 1 (.slice (some ⟨w.heap.size,0,none⟩) 0 0) 0 []:=World.ownsRow_made w #[] 0 UZz (by unfold maxLen;omega) rfl;have zF:(w.alloc (.cells #[] 5)).drew.ownsRow 0 5 1 dv (pack l).length ((pack l).map bv):=hw.2.alloc _;have dH:(w.alloc (.cells #[] 5)).drew.ownsRow w.heap.size 5 1 (.slice (some ⟨w.heap.size,0,none⟩) 0 0) 0 []:=eW;obtain⟨v',w1,ag,ah,du,an⟩:=Zhp (P:=Tryz.prog) 115 115 5 _ _ Tryz.underlying115 Za9 rfl dH zF (Z3T _) (by unfold maxLen;omega) (by omega) (by simp);have aC:Below w.heap.size w w1:=(((Vae _ _).alloc UZz (.cells #[] 5)).drew).grown du (by simp) (λk hk=>by simp[Value.ownBlock] at hk;omega);have eU:WrAt w1 b dv l:=hw.below aC;have q0:=hw.1.cell 0;have q1:=hw.1.cell 1;have cF:=hw.1.lt;have p1:=eU.1.cell 1;simp at q0 q1 p1;simp only[Vbo,Vbz] at ah;obtain⟨A,M,cap,rfl⟩:=Zg ah;have aJ:=h_ ah;have cS:=h_ aC;clear zF eW dH ah an du aC;go_enter Tryz.func166,Tryz.ntmps166;go_wp2;have ar:=h_ ag;clear ag;go_region_law (refine Z3k (by rfl) _ _ _ (by rfl) _ _ (by rfl) (by rfl) ar.o ?_)
 all_goals
  have aD:WrAt (w1.alloc (.cells #[.slice A M cap,.int .i64 (l.length:Int)] 269)) w1.heap.size (.slice A M cap) l:=⟨Bk.new _ _ _,(Z3j aJ.o (Var _)).alloc _⟩;have Hp:=h_ (Zaa aD 1 1 (by omega) (by omega) (by omega) (by omega) (by simp;omega));go_wp2_with fail;refine(Hp.o).mono ?_;rintro e w2 ⟨rfl,d2,gH,ai,dI⟩;rw[show num (Int.toNat 1) (Int.toNat 1)=[true] from rfl] at gH;obtain⟨g,aE,rfl,zG⟩:=QW gH.2 (by rw[pack_length,Vab,Vbe];omega);have eH:=Z75 (P:=Tryz.prog) 115 9 5 Tryz.underlying115 Tryz.underlying5 Tryz.underlying9 gH.2;have r0:=gH.1.cell 0;simp at r0
  have aW:Below w.heap.size w w2:=by
   have h1:Below w.heap.size w (w1.alloc (.cells #[.slice A M cap,.int .i64 (l.length:Int)] 269)):=cS.o.alloc cS.o.size _
   have h2:=ai.toBelow' (B:=w.heap.size) (Vas cS.o.size (by simp)) (λk hk hs=>by
    rcases hs with hs|hs
    ·have:=cS.o.size;omega
    ·have:=(aJ.o.lt k hs).1;omega)
   exact h1.trans h2
  clear gH ai dI;go_wp2;go_ret;exact⟨rfl,aW⟩
end Go.Proofs.YtchokmkfobandaaGreatDoor.Bio
