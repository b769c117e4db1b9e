import Derived.Test.YtnjkjoklnephcaaGreatDoorJ46
set_option linter.all false
set_option maxRecDepth 100000
set_option maxHeartbeats 0
open Go.Proofs.Tryz (prog underlying3)
namespace Go.Proofs.Y
open Wv Go.RowKit
theorem ZbS:prog.underlying 40=some (.struct (prog.fieldsOf 40)):=dw
theorem Zjp:prog.stoodInHeld 40=false:=dw
theorem Zjq:∃f0 f1,(prog.fieldsOf 40).toList=[f0,f1]/\f0.name≠ "_" /\f1.name≠ "_" /\f0.type=3/\f1.type=3/\f0.offset=0/\f1.offset=1:=
 ⟨(prog.fieldsOf 40)[0]!,(prog.fieldsOf 40)[1]!,dw,of_decide_eq_true dw,of_decide_eq_true dw,dw,dw,dw,dw⟩
theorem q_ (x y:Int) (W:aq):(binOp .neq 40 (.agg #[x,y]) (.agg #[x,y])).run prog W=.ok (.bool false) W:=by rw[run_neq_struct,run_equalIn_agg _ _ _ _ _ ZbS Zjp];obtain⟨f0,f1,h,k,n1,t0,t1,g,I⟩:=Zjq;exact P7
theorem Ui (op:BinOp) (a b:Operand) (d g:Array aI) (W:aq):(eqGuard op 40 a b (.agg d) (.agg g)).run prog W=.ok () W:=run_eqGuard_agg _ _ _ _ _ _ _ dw
end Go.Proofs.Y
namespace Wv
open Go Go.RowKit Go.Deep Go.ChangeShapes Go.WideShapes
section
variable {H:Type} {enc:TypeId×aI->H} {P:Program} {w:aq} {base:Nat} {spare:Nat->Bool} {held:Bool}
end
end Wv
namespace Go.Proofs.Y
open Wv Go.RowKit
section
variable {w:aq} {A:bN} {st:List (Int×Int)} {data:ax} {h:Hd} {m:Int}
theorem y' (d:gV st h=true):fN st=true/\h.quiet=st.length/\h.strs=st.length:=by unfold gV at d;grind
theorem Mi {AQ AG d:bN} (k:gV st h=true) {i:Nat} (hi:i<st) (g:gZ w h AQ AG d):∀b o,AQ=some ⟨b,o,none⟩\/d=some ⟨b,o,none⟩->b≠w.heap.size:=λb o e=>by obtain⟨_,f1,p⟩:=y' k;rcases e with e|e;obtain⟨j,l,e',lt,_⟩:=Q8 g.q i O;exact EK;obtain⟨j,l,e',lt,_⟩:=ZV g.s i O;exact EK
theorem ZpR {lx l:List dO} (e:lx=l) {X Y:bN} (h1:At w X (cv lx)) (g:At w Y (cv l)) (k1 k2:Nat) (d:l.length<=9223372036854775807):cK 20 #[(X,lx.length,k1),(Y,l.length,k2)] w (bM w true):=by subst e;have:=TK h1 g lx k1 lx k2 rfl rfl d d;rw[dd (show lx=lx from rfl)] at this;exact this
end
