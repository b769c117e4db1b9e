import Derived.Test.YtikecoijpkmnbaaGreatDoorJ38
import Derived.Lib.SmallJoins
set_option linter.all false
set_option maxRecDepth 100000
set_option maxHeartbeats 0
namespace Go.Proofs.Y
open Tryz Wv Go.RowKit Go.ChangeShapes Go.WideShapes Go.ChangeAt Go.Deep
variable{b0:Nat}{v:aI}
section
variable {H:Type} {enc:TypeId×aI->H} {w:aq} {base:Nat} {spare:Nat->Bool} {held:Bool}
theorem Zol {α:Type} {p:Array α} (h:p.size=5):∃c0 c1 c2 g k,p= #[c0,c1,c2,g,k]:=by
 obtain⟨l⟩:=p;match l,h with
 |[c0,c1,c2,g,k],_=>exact⟨c0,c1,c2,g,k,rfl⟩
theorem ZeT {P:Program} {r:Reach} {t:TypeId} {f0 f1 k l q:Field} {d:DataW H} {p:List MemPlace} (G:P.underlying t=some (.struct #[f0,f1,k,l,q])) (y:oneCellFields P #[f0,f1,k,l,q]=true) (a3:P.cellsOf t=5)
  (a4:Value.okWide P w r b0 t v) (h:DataW.Trod enc P w base spare held t v d p):
  ∃(I M Q R S:aI) (z B D E F:DataW H×List MemPlace) (n:Nat),v=.agg #[I,M,Q,R,S]/\
   DataW.trod enc P w base spare held n f0.type [I]=some z/\DataW.trod enc P w base spare held n f1.type [M]=some B/\DataW.trod enc P w base spare held n k.type [Q]=some D/\DataW.trod enc P w base spare held n l.type [R]=some E/\DataW.trod enc P w base spare held n q.type [S]=some F:=by
 obtain⟨b3,rfl,a0⟩:=okWide_struct G a4;obtain⟨c0,c1,c2,a1,a2,rfl⟩:=Zol (a0.trans a3);obtain⟨fuel,g⟩:=h;obtain⟨xs,n,_,_,b4,u,g⟩:=DataW.trod_struct G g;obtain⟨a7,a5⟩:=hone_of y 0 f0 rfl;obtain⟨a8,k1⟩:=hone_of y 1 f1 rfl;obtain⟨a9,k2⟩:=hone_of y 2 k rfl;obtain⟨b1,k3⟩:=hone_of y 3 l rfl;obtain⟨b2,a6⟩:=hone_of y 4 q rfl;match xs,u with
 |[z,B,D,E,F],_=>exact⟨c0,c1,c2,a1,a2,z,B,D,E,F,n,rfl,by simpa [Value.cells,a7,a5] using g 0 f0 rfl,by simpa [Value.cells,a8,k1] using g 1 f1 rfl,by simpa [Value.cells,a9,k2] using g 2 k rfl,by simpa [Value.cells,b1,k3] using g 3 l rfl,by simpa [Value.cells,b2,a6] using g 4 q rfl⟩
theorem Zb5 {r:Reach} {d:DataW H} {p:List MemPlace} (M:Value.okWide prog w r b0 27 v) (h:DataW.Trod enc prog w base spare held 27 v d p):
  ∃(c:eS) (A1:Wto) (k1:Nat) (A2:Wto) (k2:Nat) (A3:Wto) (k3:Nat),v=.agg (iC c.f c.t A1 c.vs k1 A2 c.ch k2 A3 c.gaps k3)/\mE c.f/\mE c.t/\At w A1 (eN c.vs)/\pN w A2 c.ch/\At w A3 (pv c.gaps)/\c.vs.length<=9223372036854775807/\c.ch.length<=9223372036854775807/\(∀l∈c.ch,l.length<=9223372036854775807):=by obtain⟨a6,a7,a8,a9,b1,b2,b3,b4,b5,b6,n,rfl,h0,h1,u,y,z⟩:=ZeT underlying27 dw dw M h;obtain⟨f,B,a5,a0⟩:=DataW.trod_int underlying3 h0;obtain⟨t,D,st,a1⟩:=DataW.trod_int underlying3 h1;simp at B D;subst B D;obtain⟨A1,n1,k1,g⟩:=Go.Joins.slice_form underlying23 u;obtain⟨A2,n2,k2,k⟩:=Go.Joins.slice_form underlying24 y;obtain⟨A3,n3,k3,q⟩:=Go.Joins.slice_form underlying25 z;simp at g k q;subst g k q;obtain⟨vs,E,a3,rfl,Q⟩:=Zgl underlying23 dw underlying9 u;obtain⟨ch,F,S,rfl,R⟩:=Zd2 (t:=50) underlying24 dw underlying50 (e:=68) (i0:=3) (i1:=9) underlying68 dw ⟨rfl,rfl⟩ ⟨rfl,rfl⟩ dw underlying3 dw underlying9 y;obtain⟨gs,G,a4,rfl,a2⟩:=Tl underlying25 (e:=93) (i0:=3) underlying93 dw ⟨rfl,rfl⟩ ⟨rfl,rfl⟩ dw underlying3 z;exact⟨⟨f,t,vs,ch,gs⟩,A1,k1,A2,k2,A3,k3,rfl,Dw a0,Dw a1,E,yh.b F,G,Q,R,λl I=>(S l I).1⟩
end
