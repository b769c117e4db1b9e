import Derived.Test.YtikecoijpkmnbaaGreatDoorJ01
import Derived.WalkKit
import Derived.Test.YtikecoijpkmnbaaGreatDoorProg
open Go Go.RowKit Go.Proofs Wv
theorem aP{P:Program}{f:FuncId}{g:Array Value}{w:World}{R:Ending->World->Prop}{r:World->Ending}{B:World->Prop}(x:Calls P f g w λx w=>x=r w/\B w)(k:∀w,B w->R (r w) w):Calls P f g w R:=x.mono (by rintro _ w ⟨rfl,a⟩;exact k w a)
theorem cp{P:Program}{f:FuncId}{g:Array Value}{w u:World}{R:Ending->World->Prop}{r:World->Ending}{B:World->Prop}(x:Calls P f g w λx w=>x=r w/\B w)(k:R (r u) u)(h:∀v,B v->v=u:=by first|exact λ_ h=>h|exact λ_ h=>h.symm):Calls P f g w R:=x.mono (by rintro _ v ⟨rfl,a⟩;cases h v a;exact k)
theorem ij{P:Program}{f:FuncId}{g:Array Value}{v w:World}{R:Ending->World->Prop}{r:World->Ending}(x:Calls P f g w λx u=>x=r u/\Below w w u)(a:Hid (Below v v w))(k:∀u,Hid (Below v v u)->R (r u) u):Calls P f g w R:=x.mono (by rintro _ u ⟨rfl,b⟩;exact k u (J (a.o.trans (b.mono a.o.size))))
abbrev cK:=Calls Go.Proofs.Tryz.prog
abbrev bM(w:World)(v:Value):Ending->World->Prop:=λx u=>x=.returned v/\Below w w u
theorem bD{p q r:Prop}(a:p)(b:q)(c:r):Hid p/\Hid q/\Hid r:=⟨a,b,c⟩
theorem dc{p q r s:Prop}(a:p)(b:q)(c:r)(d:s):Hid p/\Hid q/\Hid r/\Hid s:=⟨a,b,c,d⟩
theorem ii{p q r s t:Prop}(a:p)(b:q)(c:r)(d:s)(e:t):Hid p/\Hid q/\Hid r/\Hid s/\Hid t:=⟨a,b,c,d,e⟩
theorem fA{p q r s t u:Prop}(a:p)(b:q)(c:r)(d:s)(e:t)(f:u):Hid p/\Hid q/\Hid r/\Hid s/\Hid t/\Hid u:=⟨a,b,c,d,e,f⟩

