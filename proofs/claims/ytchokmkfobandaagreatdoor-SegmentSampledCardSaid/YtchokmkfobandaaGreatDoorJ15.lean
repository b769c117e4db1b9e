import Derived.Test.YtchokmkfobandaaGreatDoorJ12
set_option linter.unusedVariables false
set_option linter.unusedSimpArgs false
set_option maxRecDepth 100000
set_option maxHeartbeats 8000000
namespace Go.Proofs.YtchokmkfobandaaGreatDoor.Bio
open Go.RowKit Go.Proofs Wv Wv.Bit
theorem WrAt.fr {w w':World} {b:Nat} {dv:Value} {l:List Bool} {S:Nat->Prop} (h:WrAt w b dv l) (hf:Fr S w w') (hS:∀k,k<w.heap.size->¬S k):WrAt w' b dv l:=
 ⟨h.1.fr hf (hS b h.1.lt),Zn h.2 hf (λg hg=>hS g (h.2.lt g hg).2)⟩
theorem WrAt.below {w w':World} {b:Nat} {dv:Value} {l:List Bool} (h:WrAt w b dv l) (hb:Below w.heap.size w w'):WrAt w' b dv l:=
 h.fr (Fr.of_below (S:=λ_=>False) hb) (λ_ _ f=>f)
theorem WrAt.alloc {w:World} {b:Nat} {dv:Value} {l:List Bool} (h:WrAt w b dv l) (o:Obj):WrAt (w.alloc o) b dv l:=
 ⟨h.1.alloc o,h.2.alloc o⟩
theorem wput0 {b:Nat} {dv:Value} {l:List Bool} {w:World} (hw:WrAt w b dv l) (hl:l.length<=65536) (p:Int) (v:Int) (h0:0<=p) (h1:p<=62) (bk: -9223372036854775808<=v) (bj:v<=9223372036854775807):
  Calls Tryz.prog 164 #[.pointer (some ⟨b,0,none⟩),.agg #[.int .i64 0,.int .i64 p,.int .i64 v]] w λe w'=>e=.returned (.int .i64 ((putm l ⟨0,p,v⟩).2:Nat))/\∃cK,WrAt w' b cK (putm l ⟨0,p,v⟩).1/\Fr (foot b dv) w w'/\Zo w dv cK:=by
 have vo:=ZjJ p h0 h1 (w.alloc (.cells #[.int .i64 0,.int .i64 p,.int .i64 v] 216));unfold kv0 at vo;have Hf:=h_ vo;have Hv:=h_ (ZhR p v h0 h1 bk bj);clear vo;by_cases bq:vld 0 p v=true
 ·have iu:=Za6 bq;have Hs:=h_ (λw=>Zk8 p v bq w);have Hw:=h_ (λ(W:World) (hW:WrAt W b dv l)=>ZhS hW p v bq hl);have Hp:=h_ (show putm l ⟨0,p,v⟩=if 65536<l.length+(QK 0 (p:Int).toNat v.toNat).length then(l,9) else(l++QK 0 (p:Int).toNat v.toNat,0) from by rw[putm,Cd.ok];simp only;rw[bq];rfl);rw[bq] at Hv;change (QK 0 (p:Int).toNat v.toNat).length<=8192 at iu;obtain⟨cb,jk⟩:∃cb,QK 0 (p:Int).toNat v.toNat=cb:=⟨_,rfl⟩;rw[jk] at iu Hs Hp Hw;clear bq jk;by_cases ff:65536<l.length+cb.length
  ·have sa:(65536:Int)<(l.length:Int)+(cb.length:Int):=(by omega);obtain⟨t,ht⟩:∃t,l.length+cb.length=t:=⟨_,rfl⟩;have i1:IntKind.i64.wrap ((l.length:Int)+(cb.length:Int))=(t:Int):=(by rw[IntWalk.i64_in _ (by omega)];omega);have i2:(65536:Int)<(t:Int):=(by omega);clear ht;go_enter Tryz.func164,Tryz.ntmps164;go_wp2_with fail;refine(Hf.o).mono ?_;rintro e w1 ⟨rfl,hb⟩;have cq:=Zhj hb;have hs:=hb.size;have hz:w.heap.size<w1.heap.size:=Va5 (by simp) hs;simp at hs;have eS:=(hw.alloc (.cells #[.int .i64 0,.int .i64 p,.int .i64 v] 216)).below hb;have aC:=((Fr.refl (foot b dv) w).alloc (.cells #[.int .i64 0,.int .i64 p,.int .i64 v] 216)).below hb;have cD:=eS.1.lt;have g1:=eS.1.cell 1;simp at g1;go_wp2_with fail;refine(Hv.o _).mono ?_;rintro e w2 ⟨rfl,q,rfl⟩;go_wp2_with fail;go_quiet ((go_at_call 275;first|exact q3 (Hs.o _)|exact q4 (Hs.o _)));clear i1;go_wp2;go_ret;exact⟨Z1f (by rw[Hp.o,Vaf ff];rfl),dv,by rw[Hp.o,Vaf ff];exact eS.alloc _,((aC.alloc _).drewN _).drewN _,.inl rfl⟩
  ·have sa:¬(65536:Int)<(l.length:Int)+(cb.length:Int):=(by omega);obtain⟨t,ht⟩:∃t,l.length+cb.length=t:=⟨_,rfl⟩;have i1:IntKind.i64.wrap ((l.length:Int)+(cb.length:Int))=(t:Int):=(by rw[IntWalk.i64_in _ (by omega)];omega);have i2:¬(65536:Int)<(t:Int):=(by omega);clear ht;go_enter Tryz.func164,Tryz.ntmps164;go_wp2_with fail;refine(Hf.o).mono ?_;rintro e w1 ⟨rfl,hb⟩;have cq:=Zhj hb;have hs:=hb.size;have hz:w.heap.size<w1.heap.size:=Va5 (by simp) hs;simp at hs;have eS:=(hw.alloc (.cells #[.int .i64 0,.int .i64 p,.int .i64 v] 216)).below hb;have aC:=((Fr.refl (foot b dv) w).alloc (.cells #[.int .i64 0,.int .i64 p,.int .i64 v] 216)).below hb;have cD:=eS.1.lt;have g1:=eS.1.cell 1;simp at g1;go_wp2_with fail;refine(Hv.o _).mono ?_;rintro e w2 ⟨rfl,q,rfl⟩;go_wp2_with fail;go_quiet ((go_at_call 275;first|exact q3 (Hs.o _)|exact q4 (Hs.o _)));clear i1;go_wp2_with fail;have Rj:∀k,WrAt ((w1.alloc (.cells #[.int .i64 0,.int .i64 62,.func (.func 274) #[] #[],.func (.func 275) #[] #[],.func (.func 276) #[] #[],.func (.func 277) #[] #[]] 273)).drewN k) b dv l:=λ_=>eS.alloc _;refine(Hw.o _ (Rj _)).mono ?_;rintro e w3 ⟨rfl,d3,DC,aO,mO⟩;go_wp2;go_ret;have gz:Fr (foot b dv) w (w1.alloc (.cells kv0.cells 273)):=aC.alloc _;simp only[kv0,Value.cells] at gz;have h7:=ZeH (w:=w) (gz.drewN _) (.inl rfl) aO mO;exact⟨Z1f (by rw[Hp.o,Vad ff];rfl),d3,by rw[Hp.o,Vad ff];exact DC,h7.1,h7.2⟩
 ·have zx:vld 0 p v=false:=(by simpa using bq);have Hp:=h_ (show putm l ⟨0,p,v⟩=(l,1) from by rw[putm,Cd.ok];simp only;rw[zx];rfl);rw[zx] at Hv;clear bq zx;go_enter Tryz.func164,Tryz.ntmps164;go_wp2_with fail;refine(Hf.o).mono ?_;rintro e w1 ⟨rfl,hb⟩;have cq:=Zhj hb;have hs:=hb.size;have hz:w.heap.size<w1.heap.size:=Va5 (by simp) hs;simp at hs;have eS:=(hw.alloc (.cells #[.int .i64 0,.int .i64 p,.int .i64 v] 216)).below hb;have aC:=((Fr.refl (foot b dv) w).alloc (.cells #[.int .i64 0,.int .i64 p,.int .i64 v] 216)).below hb;have cD:=eS.1.lt;have g1:=eS.1.cell 1;simp at g1;go_wp2_with fail;refine(Hv.o _).mono ?_;rintro e w2 ⟨rfl,q,rfl⟩;go_wp2;go_ret;exact⟨Z1f (by rw[Hp.o];rfl),dv,by rw[Hp.o];exact eS.alloc _,(aC.alloc _).drewN _,.inl rfl⟩
theorem newwriter_any (w:World):
  Calls Tryz.prog 163 #[] w λe w'=>e=.returned (.pointer (some ⟨w.heap.size,0,none⟩))/\WrAt w' w.heap.size (.slice none 0 0) []/\Below w.heap.size w w':=by
 go_enter Tryz.func163,Tryz.ntmps163;go_wp2;go_ret;exact⟨rfl,⟨Bk.new _ _ _,World.ownsRow_nil _ _ _ _⟩,(Vae _ _).alloc UZz _⟩
theorem Z3M (l:List UInt8):∀y∈l.map bv,y.oneCell'=true:=by
 intro y hy;obtain⟨b,_,rfl⟩:=Va6.1 hy;rfl
theorem wbytes_any {b:Nat} {dv:Value} {l:List Bool} {w:World} (hw:WrAt w b dv l) (hl:l.length<=65536):
  Calls Tryz.prog 166 #[.pointer (some ⟨b,0,none⟩)] w λe w'=>e=.returned (.string ⟨(pack (l++[true])).toArray⟩)/\Below w.heap.size w w':=by
 have fh:=pack_length l;have eV:(w.alloc (.cells #[] 5)).ownsRow w.heap.size 5 1 (.slice (some ⟨w.heap.size,0,none⟩) 0 0) 0 []:=World.ownsRow_made w #[] 0 UZz (by unfold maxLen;omega) rfl;have zy:(w.alloc (.cells #[] 5)).drew.ownsRow 0 5 1 dv (pack l).length ((pack l).map bv):=hw.2.alloc _;have dC:(w.alloc (.cells #[] 5)).drew.ownsRow w.heap.size 5 1 (.slice (some ⟨w.heap.size,0,none⟩) 0 0) 0 []:=eV;obtain⟨v',w1,ag,ah,dm,ak⟩:=Zhk (P:=Tryz.prog) 115 115 5 _ _ Tryz.underlying115 Za8 rfl dC zy (Z3M _) (by unfold maxLen;omega) (by omega) (by simp);have aC:Below w.heap.size w w1:=(((Vae _ _).alloc UZz (.cells #[] 5)).drew).grown dm (by simp) (λk hk=>by simp[Value.ownBlock] at hk;omega);have eS:WrAt w1 b dv l:=hw.below aC;have q0:=hw.1.cell 0;have q1:=hw.1.cell 1;have cD:=hw.1.lt;have p1:=eS.1.cell 1;simp at q0 q1 p1;simp only[Vbo,Vbz] at ah;obtain⟨A,M,cap,rfl⟩:=Zd ah;have aI:=h_ ah;have cP:=h_ aC;clear zy eV dC ah ak dm aC;go_enter Tryz.func166,Tryz.ntmps166;go_wp2;have aq:=h_ ag;clear ag;go_region_law (refine Z3c (by rfl) _ _ _ (by rfl) _ _ (by rfl) (by rfl) aq.o ?_)
 all_goals
  have aB:WrAt (w1.alloc (.cells #[.slice A M cap,.int .i64 (l.length:Int)] 269)) w1.heap.size (.slice A M cap) l:=⟨Bk.new _ _ _,(Z3b aI.o (Vat _)).alloc _⟩;have Hp:=h_ (Za9 aB 1 1 (by omega) (by omega) (by omega) (by omega) (by simp;omega));go_wp2_with fail;refine(Hp.o).mono ?_;rintro e w2 ⟨rfl,d2,gH,ai,dD⟩;rw[show num (Int.toNat 1) (Int.toNat 1)=[true] from rfl] at gH;obtain⟨g,aE,rfl,zz⟩:=QT gH.2 (by rw[pack_length,Vab,Vbd];omega);have eD:=Z75 (P:=Tryz.prog) 115 9 5 Tryz.underlying115 Tryz.underlying5 Tryz.underlying9 gH.2;have r0:=gH.1.cell 0;simp at r0
  have aS:Below w.heap.size w w2:=by
   have h1:Below w.heap.size w (w1.alloc (.cells #[.slice A M cap,.int .i64 (l.length:Int)] 269)):=cP.o.alloc cP.o.size _
   have h2:=ai.toBelow' (B:=w.heap.size) (Vaq cP.o.size (by simp)) (λk hk hs=>by
    rcases hs with hs|hs
    ·have:=cP.o.size;omega
    ·have:=(aI.o.lt k hs).1;omega)
   exact h1.trans h2
  clear gH ai dD;go_wp2;go_ret;exact⟨rfl,aS⟩
end Go.Proofs.YtchokmkfobandaaGreatDoor.Bio
