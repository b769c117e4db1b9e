import Derived.Test.YtnjkjoklnephcaaGreatDoorJ13
set_option linter.all false
set_option maxRecDepth 100000
set_option maxHeartbeats 0
namespace Go.Proofs.Y
open Tryz Wv Go.RowKit
theorem KE {a b:aS} :(a.toList !=b.toList)= !decide (a=b):=by rw[<-XM];rfl
variable{b n x:Nat}{s:aS}{w:au}
theorem gJ.below {w':au} (h:gJ w b s x n) (hb:Below w w w'):gJ w' b s x n:=⟨h.1.below hb h.1.lt,h.2⟩
theorem gJ.alloc (h:gJ w b s x n) (o:Obj):gJ (w.alloc o) b s x n:=⟨h.1.alloc o,h.2⟩
theorem gJ.back {y:Nat} (h:gJ w b s y n) (g:x<=n):gJ (w.setCell (b,1) x) b s x n:=⟨h.1.put 1 _,g,h.2.2⟩
theorem get0 (h:gJ w b s x n) (p m:Int) (h0:0<=p) (h1:p<=62):
  Calls prog 272 #[(b,0),(0:Int),p,m] w λe w'=>∃y,e=.returned (.tuple #[(((zx 0 p m ((dY s n).drop x)).2.1:Nat):Int),(((zx 0 p m ((dY s n).drop x)).2.2:Nat):Int)])/\gJ w' b s y n/\Fr (only b) w w'/\(zx 0 p m ((dY s n).drop x)).1=(dY s n).drop y:=by
 have u:=Zpb p h0 h1 w;have M:uz 0 p=true:=(by simp[uz];omega);unfold oQ at u;have Q:=J u;clear u;have R:=J h;go_in;go_wp21;refine aO Q.o λw1 hb=>?_;have B:=R.o.below hb;have a2:=B.c1;have a9:=hb.size;have ab:=B.1.lt;go_wp21;have a0:=(B.alloc (.cells oQ.cells 373));have F:=J (Zpu a0 p h0 h1);simp only[oQ,Value.cells] at F;have t:=((Fr.of_below (S:=only b) hb).alloc (.cells oQ.cells 373));simp only[oQ,Value.cells] at t;refine(F.o).mono ?_;rintro e a1 ⟨v,D,y,rfl,l,z,G⟩;have q:=h.2.1;have a5:=l.c1;have a6:a1.frozen? (b,1)=false:=l.1.frozen 1;by_cases E:D=0
 .subst E;obtain⟨a7,k,a8⟩:=Zmv (m:=m) M G;by_cases I:m<v;.rw[aP I] at k;have g:=J k;clear k;go_wp2;go_ret2;exact⟨x,KY (by rw[g.o];rfl) (by rw[g.o];rfl),l.back q,(t.trans z).setCell (p:=⟨b,1,none⟩) (.inl rfl) _,by rw[g.o]⟩
  rw[az I] at k;have g:=J k;clear k;go_wp2;go_ret2;exact⟨y,KY (by rw[g.o];exact dw) (by rw[g.o];rfl),l,t.trans z,by rw[g.o];simp only;rw[rX,show x+(y-x)=y from by exact O]⟩
 have g:=J (ZiT (m:=m) M G E);have a4:((D:Int)==0)=false:=pt;have a3:((D:Int) !=0)=true:=fb;clear E;go_wp2;go_ret2;exact⟨x,KY (by rw[g.o];rfl) (by rw[g.o]),l.back q,(t.trans z).setCell (p:=⟨b,1,none⟩) (.inl rfl) _,by rw[g.o]⟩
