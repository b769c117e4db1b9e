import Derived.Test.YtnjkjoklnephcaaGreatDoorF38
import Derived.Lib.SmallJoins
set_option linter.all false
set_option maxRecDepth 100000
set_option maxHeartbeats 0
namespace Go.Proofs.Y
open Tryz Wv Go.RowKit Go.ChangeShapes Go.WideShapes Go.ChangeAt Go.Deep
variable{b0:Nat}{v:aI}
section
variable {H:Type} {enc:TypeId×aI->H} {w:aq} {base:Nat} {spare:Nat->Bool} {held:Bool}
theorem Zol {α:Type} {j:Array α} (h:j.size=5):∃c0 c1 c2 d g,j= #[c0,c1,c2,d,g]:=by
 obtain⟨l⟩:=j;match l,h with
 |[c0,c1,c2,d,g],_=>exact⟨c0,c1,c2,d,g,rfl⟩
theorem ZeT {P:Program} {r:Reach} {t:TypeId} {f0 f1 j k l:Field} {d:DataW H} {p:List MemPlace} (F:P.underlying t=some (.struct #[f0,f1,j,k,l])) (u:oneCellFields P #[f0,f1,j,k,l]=true) (a1:P.cellsOf t=5)
  (a2:Value.okWide P w r b0 t v) (h:DataW.Trod enc P w base spare held t v d p):
  ∃(G I L M Q:aI) (y z B D E:DataW H×List MemPlace) (n:Nat),v=.agg #[G,I,L,M,Q]/\
   DataW.trod enc P w base spare held n f0.type [G]=some y/\DataW.trod enc P w base spare held n f1.type [I]=some z/\DataW.trod enc P w base spare held n j.type [L]=some B/\DataW.trod enc P w base spare held n k.type [M]=some D/\DataW.trod enc P w base spare held n l.type [Q]=some E:=by
 obtain⟨b1,rfl,R⟩:=okWide_struct F a2;obtain⟨c0,c1,c2,S,a0,rfl⟩:=Zol (R.trans a1);obtain⟨fuel,g⟩:=h;obtain⟨xs,n,_,_,b2,q,g⟩:=DataW.trod_struct F g;obtain⟨a5,a3⟩:=hone_of u 0 f0 rfl;obtain⟨a6,k1⟩:=hone_of u 1 f1 rfl;obtain⟨a7,k2⟩:=hone_of u 2 j rfl;obtain⟨a8,k3⟩:=hone_of u 3 k rfl;obtain⟨a9,a4⟩:=hone_of u 4 l rfl;match xs,q with
 |[y,z,B,D,E],_=>exact⟨c0,c1,c2,S,a0,y,z,B,D,E,n,rfl,by simpa [Value.cells,a5,a3] using g 0 f0 rfl,by simpa [Value.cells,a6,k1] using g 1 f1 rfl,by simpa [Value.cells,a7,k2] using g 2 j rfl,by simpa [Value.cells,a8,k3] using g 3 k rfl,by simpa [Value.cells,a9,a4] using g 4 l rfl⟩
theorem Zb5 {r:Reach} {d:DataW H} {p:List MemPlace} (L:Value.okWide prog w r b0 27 v) (h:DataW.Trod enc prog w base spare held 27 v d p):
  ∃(c:eS) (A1:bN) (k1:Nat) (A2:bN) (k2:Nat) (A3:bN) (k3:Nat),v=.agg (iC c.f c.t A1 c.vs k1 A2 c.ch k2 A3 c.gaps k3)/\mE c.f/\mE c.t/\At w A1 (eN c.vs)/\pN w A2 c.ch/\At w A3 (pv c.gaps)/\c.vs.length<=9223372036854775807/\c.ch.length<=9223372036854775807/\(∀l∈c.ch,l.length<=9223372036854775807):=by obtain⟨a5,a6,a7,a8,a9,b1,b2,b3,b4,b5,n,rfl,h0,h1,q,u,y⟩:=ZeT underlying27 dw dw L h;obtain⟨f,z,a4,S⟩:=DataW.trod_int underlying3 h0;obtain⟨t,B,st,a0⟩:=DataW.trod_int underlying3 h1;simp at z B;subst z B;obtain⟨A1,n1,k1,g⟩:=Go.Joins.slice_form underlying23 q;obtain⟨A2,n2,k2,j⟩:=Go.Joins.slice_form underlying24 u;obtain⟨A3,n3,k3,k⟩:=Go.Joins.slice_form underlying25 y;simp at g j k;subst g j k;obtain⟨vs,D,a2,rfl,M⟩:=Zgl underlying23 dw underlying9 q;obtain⟨ch,E,R,rfl,Q⟩:=Zd2 (t:=49) underlying24 dw underlying49 (e:=81) (i0:=3) (i1:=9) underlying81 dw ⟨rfl,rfl⟩ ⟨rfl,rfl⟩ dw underlying3 dw underlying9 u;obtain⟨G,F,a3,rfl,a1⟩:=Tl underlying25 (e:=77) (i0:=3) underlying77 dw ⟨rfl,rfl⟩ ⟨rfl,rfl⟩ dw underlying3 y;exact⟨⟨f,t,vs,ch,G⟩,A1,k1,A2,k2,A3,k3,rfl,Dw S,Dw a0,D,yh.b E,F,M,Q,λl I=>(R l I).1⟩
end
