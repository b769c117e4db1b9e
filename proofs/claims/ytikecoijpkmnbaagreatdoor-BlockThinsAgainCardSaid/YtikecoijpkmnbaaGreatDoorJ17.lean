import Derived.Test.YtikecoijpkmnbaaGreatDoorJ13
set_option linter.all false
set_option maxRecDepth 100000
set_option maxHeartbeats 0
namespace Go.Proofs.Y
open Tryz Wv Go.RowKit
theorem Ky {a b:aT} :(a.toList !=b.toList)= !decide (a=b):=by rw[<-Qw];rfl
variable{b n x:Nat}{s:aT}{w:aq}
theorem gA.below {w':aq} (h:gA w b s x n) (hb:Below w w w'):gA w' b s x n:=⟨h.1.below hb h.1.lt,h.2⟩
theorem gA.alloc (h:gA w b s x n) (o:Obj):gA (w.alloc o) b s x n:=⟨h.1.alloc o,h.2⟩
theorem gA.back {y:Nat} (h:gA w b s y n) (g:x<=n):gA (w.setCell (b,1) x) b s x n:=⟨h.1.put 1 _,g,h.2.2⟩
theorem get0 (h:gA w b s x n) (p m:Int) (h0:0<=p) (h1:p<=62):
  Calls prog 247 #[(b,0),(0:Int),p,m] w λe w'=>∃y,e=.returned (.tuple #[(((zw 0 p m ((rbits s n).drop x)).2.1:Nat):Int),(((zw 0 p m ((rbits s n).drop x)).2.2:Nat):Int)])/\gA w' b s y n/\Fr (only b) w w'/\(zw 0 p m ((rbits s n).drop x)).1=(rbits s n).drop y:=by
 have u:=Zp2 p h0 h1 w;have M:uu 0 p=true:=(by simp[uu];omega);unfold oP at u;have Q:=J u;clear u;have R:=J h;go_in;go_wp21;refine aP Q.o λw1 hb=>?_;have B:=R.o.below hb;have a2:=B.c1;have a9:=hb.size;have ab:=B.1.lt;go_wp21;have a0:=(B.alloc (.cells oP.cells 360));have F:=J (Zpk a0 p h0 h1);simp only[oP,Value.cells] at F;have t:=((Fr.of_below (S:=only b) hb).alloc (.cells oP.cells 360));simp only[oP,Value.cells] at t;refine(F.o).mono ?_;rintro e a1 ⟨v,D,y,rfl,l,z,G⟩;have q:=h.2.1;have a5:=l.c1;have a6:a1.frozen? (b,1)=false:=l.1.frozen 1;by_cases E:D=0
 .subst E;obtain⟨a7,k,a8⟩:=Zmp (m:=m) M G;by_cases I:m<v;.rw[Vag I] at k;have g:=J k;clear k;go_wp2;go_ret2;exact⟨x,KL (by rw[g.o];rfl) (by rw[g.o];rfl),l.back q,(t.trans z).setCell (p:=⟨b,1,none⟩) (.inl rfl) _,by rw[g.o]⟩
  rw[Vae I] at k;have g:=J k;clear k;go_wp2;go_ret2;exact⟨y,KL (by rw[g.o];exact dz) (by rw[g.o];rfl),l,t.trans z,by rw[g.o];simp only;rw[vM,show x+(y-x)=y from by exact O]⟩
 have g:=J (ZiK (m:=m) M G E);have a4:((D:Int)==0)=false:=W4P;have a3:((D:Int) !=0)=true:=eV;clear E;go_wp2;go_ret2;exact⟨x,KL (by rw[g.o];rfl) (by rw[g.o]),l.back q,(t.trans z).setCell (p:=⟨b,1,none⟩) (.inl rfl) _,by rw[g.o]⟩
