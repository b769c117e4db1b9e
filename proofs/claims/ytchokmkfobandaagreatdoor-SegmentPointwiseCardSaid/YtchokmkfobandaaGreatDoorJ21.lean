import Derived.Test.YtchokmkfobandaaGreatDoorJ16
set_option linter.unusedVariables false
set_option linter.unusedSimpArgs false
set_option maxRecDepth 100000
set_option maxHeartbeats 8000000
namespace Go.Proofs.YtchokmkfobandaaGreatDoor.Bio
open Go.RowKit Go.Proofs Wv Wv.Bit
theorem newwriter_any (w:World):
  Calls Tryz.prog 163 #[] w λe w'=>e=.returned (.pointer (some ⟨w.heap.size,0,none⟩))/\WrAt w' w.heap.size (.slice none 0 0) []/\Below w.heap.size w w':=by
 go_enter Tryz.func163,Tryz.ntmps163;go_wp2;go_ret;exact⟨rfl,⟨Bk.new _ _ _,World.ownsRow_nil _ _ _ _⟩,(Below.refl _ _).alloc (Nat.le_refl _) _⟩
theorem Z7R (l:List UInt8):∀y∈l.map bv,y.oneCell'=true:=by
 intro y hy;obtain⟨b,_,rfl⟩:=List.mem_map.1 hy;rfl
theorem wbytes_any {b:Nat} {dv:Value} {l:List Bool} {w:World} (hw:WrAt w b dv l) (hl:l.length<=65536):
  Calls Tryz.prog 166 #[.pointer (some ⟨b,0,none⟩)] w λe w'=>e=.returned (.string ⟨(pack (l++[true])).toArray⟩)/\Below w.heap.size w w':=by
 have eS:=pack_length l;have gh:(w.alloc (.cells #[] 5)).ownsRow w.heap.size 5 1 (.slice (some ⟨w.heap.size,0,none⟩) 0 0) 0 []:=World.ownsRow_made w #[] 0 (Nat.le_refl _) (by unfold maxLen;omega) rfl;have zj:(w.alloc (.cells #[] 5)).drew.ownsRow 0 5 1 dv (pack l).length ((pack l).map bv):=hw.2.alloc _;have dh:(w.alloc (.cells #[] 5)).drew.ownsRow w.heap.size 5 1 (.slice (some ⟨w.heap.size,0,none⟩) 0 0) 0 []:=gh;obtain⟨v',w1,ag,ai,df,ak⟩:=ZkU (P:=Tryz.prog) 115 115 5 _ _ Tryz.underlying115 Ze2 rfl dh zj (Z7R _) (by unfold maxLen;omega) (by omega) (by simp);have aB:Below w.heap.size w w1:=(((Below.refl _ _).alloc (Nat.le_refl _) (.cells #[] 5)).drew).grown df (by simp) (λk hk=>by simp[Value.ownBlock] at hk;omega);have eI:WrAt w1 b dv l:=hw.below aB;have q0:=hw.1.cell 0;have q1:=hw.1.cell 1;have cl:=hw.1.lt;have p1:=eI.1.cell 1;simp at q0 q1 p1;simp only[Nat.zero_add,List.nil_append] at ai;obtain⟨A,M,cap,rfl⟩:=Z0c ai;have aE:=h_ ai;have cG:=h_ aB;clear zj gh dh ai ak df aB;go_enter Tryz.func166,Tryz.ntmps166;go_wp2;have ao:=h_ ag;clear ag;go_region_law (refine Z7a (by rfl) _ _ _ (by rfl) _ _ (by rfl) (by rfl) ao.o ?_)
 all_goals
  have aA:WrAt (w1.alloc (.cells #[.slice A M cap,.int .i64 (l.length:Int)] 269)) w1.heap.size (.slice A M cap) l:=⟨Bk.new _ _ _,(Z79 aE.o (Nat.zero_le _)).alloc _⟩;have Hp:=h_ (Ze3 aA 1 1 (by omega) (by omega) (by omega) (by omega) (by simp;omega));go_wp2_with fail;refine(Hp.o).mono ?_;rintro e w2 ⟨rfl,d2,gr,ah,dz⟩;rw[show num (Int.toNat 1) (Int.toNat 1)=[true] from rfl] at gr;obtain⟨g,aK,rfl,yP⟩:=Z3S gr.2 (by rw[pack_length,List.length_append,List.length_singleton];omega);have ew:=Zb1 (P:=Tryz.prog) 115 9 5 Tryz.underlying115 Tryz.underlying5 Tryz.underlying9 gr.2;have r0:=gr.1.cell 0;simp at r0
  have aQ:Below w.heap.size w w2:=by
   have h1:Below w.heap.size w (w1.alloc (.cells #[.slice A M cap,.int .i64 (l.length:Int)] 269)):=cG.o.alloc cG.o.size _
   have h2:=ah.toBelow' (B:=w.heap.size) (Nat.le_trans cG.o.size (by simp)) (λk hk hs=>by
    rcases hs with hs|hs
    ·have:=cG.o.size;omega
    ·have:=(aE.o.lt k hs).1;omega)
   exact h1.trans h2
  clear gr ah dz;go_wp2;go_ret;exact⟨rfl,aQ⟩
end Go.Proofs.YtchokmkfobandaaGreatDoor.Bio
