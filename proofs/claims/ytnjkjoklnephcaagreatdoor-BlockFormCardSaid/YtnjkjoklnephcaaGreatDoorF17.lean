import Derived.Test.YtnjkjoklnephcaaGreatDoorF13
set_option linter.all false
set_option maxRecDepth 100000
set_option maxHeartbeats 0
namespace Go.Proofs.Y
open Tryz Wv Go.RowKit
theorem Ky {a b:aT} :(a.toList !=b.toList)= !decide (a=b):=by rw[<-Qw];rfl
variable{b n x:Nat}{s:aT}{w:aq}
theorem gA.below {w':aq} (h:gA w b s x n) (hb:Below w w w'):gA w' b s x n:=⟨h.1.below hb h.1.lt,h.2⟩
theorem gA.alloc (h:gA w b s x n) (o:Obj):gA (w.alloc o) b s x n:=⟨h.1.alloc o,h.2⟩
theorem gA.back {y:Nat} (h:gA w b s y n) (d:x<=n):gA (w.setCell (b,1) x) b s x n:=⟨h.1.put 1 _,d,h.2.2⟩
theorem get0 (h:gA w b s x n) (p m:Int) (h0:0<=p) (h1:p<=62):
  Calls prog 272 #[(b,0),(0:Int),p,m] w λe w'=>∃y,e=.returned (.tuple #[(((zw 0 p m ((ed s n).drop x)).2.1:Nat):Int),(((zw 0 p m ((ed s n).drop x)).2.2:Nat):Int)])/\gA w' b s y n/\Fr (only b) w w'/\(zw 0 p m ((ed s n).drop x)).1=(ed s n).drop y:=by
 have q:=Zp2 p h0 h1 w;have G:uu 0 p=true:=(by simp[uu];omega);unfold oP at q;have I:=J q;clear q;have L:=J h;go_in;go_wp21;refine aP I.o λw1 hb=>?_;have u:=L.o.below hb;have R:=u.c1;have a6:=hb.size;have ab:=u.1.lt;go_wp21;have M:=(u.alloc (.cells oP.cells 373));have D:=J (Zpk M p h0 h1);simp only[oP,Value.cells] at D;have l:=((Fr.of_below (S:=only b) hb).alloc (.cells oP.cells 373));simp only[oP,Value.cells] at l;refine(D.o).mono ?_;rintro e Q ⟨v,z,y,rfl,j,t,E⟩;have k:=h.2.1;have a2:=j.c1;have a3:Q.frozen? (b,1)=false:=j.1.frozen 1;by_cases B:z=0
 .subst B;obtain⟨a4,g,a5⟩:=Zmp (m:=m) G E;by_cases F:m<v;.rw[Vag F] at g;have d:=J g;clear g;go_wp2;go_ret2;exact⟨x,KL (by rw[d.o];rfl) (by rw[d.o];rfl),j.back k,(l.trans t).setCell (p:=⟨b,1,none⟩) (.inl rfl) _,by rw[d.o]⟩
  rw[aD F] at g;have d:=J g;clear g;go_wp2;go_ret2;exact⟨y,KL (by rw[d.o];exact dz) (by rw[d.o];rfl),j,l.trans t,by rw[d.o];simp only;rw[vM,show x+(y-x)=y from by exact O]⟩
 have d:=J (ZiK (m:=m) G E B);have a1:((z:Int)==0)=false:=oe;have a0:((z:Int) !=0)=true:=eV;clear B;go_wp2;go_ret2;exact⟨x,KL (by rw[d.o];rfl) (by rw[d.o]),j.back k,(l.trans t).setCell (p:=⟨b,1,none⟩) (.inl rfl) _,by rw[d.o]⟩
