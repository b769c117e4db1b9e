import Derived.Test.YtchokmkfobandaaGreatDoorJ16
set_option linter.unusedVariables false
set_option linter.unusedSimpArgs false
set_option maxRecDepth 100000
set_option maxHeartbeats 8000000
namespace Go.Proofs.YtchokmkfobandaaGreatDoor
open Go.RowKit Go.Proofs Wv Wv.Vi Wv.Rc Wv.Mo Wv.Ru
theorem Z2Q {a b:ByteArray} :(a.toList !=b.toList)= !decide (a=b):=by
 rw[<-QG];rfl
end Go.Proofs.YtchokmkfobandaaGreatDoor
namespace Go.Proofs.YtchokmkfobandaaGreatDoor.Bio
open Go.RowKit Go.Proofs Wv Wv.Bit
theorem RdAt.below {w w':World} {b x n:Nat} {s:ByteArray} (h:RdAt w b s x n) (hb:Below w.heap.size w w'):RdAt w' b s x n:=⟨h.1.below hb h.1.lt,h.2⟩
theorem RdAt.alloc {w:World} {b x n:Nat} {s:ByteArray} (h:RdAt w b s x n) (o:Obj):RdAt (w.alloc o) b s x n:=⟨h.1.alloc o,h.2⟩
theorem RdAt.back {w:World} {b x y n:Nat} {s:ByteArray} (h:RdAt w b s y n) (hx:x<=n):RdAt (w.setCell ⟨b,1,none⟩ (.int .i64 (x:Int))) b s x n:=⟨h.1.put 1 _,hx,h.2.2⟩
theorem get0 {b x n:Nat} {s:ByteArray} {w:World} (h:RdAt w b s x n) (p m:Int) (h0:0<=p) (h1:p<=62):
  Calls Tryz.prog 204 #[.pointer (some ⟨b,0,none⟩),.int .i64 0,.int .i64 p,.int .i64 m] w λe w'=>∃y,e=.returned (.tuple #[.int .i64 ((getm 0 p m ((rbits s n).drop x)).2.1:Nat),.int .i64 ((getm 0 p m ((rbits s n).drop x)).2.2:Nat)])/\RdAt w' b s y n/\Fr (only b) w w'/\(getm 0 p m ((rbits s n).drop x)).1=(rbits s n).drop y:=by
 have vo:=ZjJ p h0 h1 w;have hp:par 0 p=true:=(by simp[par];omega);unfold kv0 at vo;have Hf:=h_ vo;clear vo;have Hh:=h_ h;go_enter Tryz.func204,Tryz.ntmps204;go_wp2_with fail;refine(Hf.o).mono ?_;rintro e w1 ⟨rfl,hb⟩;have cF:=Hh.o.below hb;have cq:=cF.c1;have hs:=hb.size;have ab:=cF.1.lt;go_wp2_with fail;have bP:=(cF.alloc (.cells kv0.cells 273));have Hr:=h_ (Zk6 bP p h0 h1);simp only[kv0,Value.cells] at Hr;have gz:=((Fr.of_below (S:=only b) hb).alloc (.cells kv0.cells 273));simp only[kv0,Value.cells] at gz;refine(Hr.o).mono ?_;rintro e w2 ⟨v,er,y,rfl,eU,aO,fp⟩;have LH:=h.2.1;have g1:=eU.c1;have g2:w2.frozen? ⟨b,1,none⟩=false:=eU.1.frozen 1;by_cases he:er=0
 ·subst he;obtain⟨h5,h6,h7⟩:=Zhv (m:=m) hp fp;by_cases hm:m<v
  ·rw[Vaf hm] at h6;have H6:=h_ h6;clear h6;go_wp2;go_ret2;exact⟨x,Z3D (by rw[H6.o];rfl) (by rw[H6.o];rfl),eU.back LH,(gz.trans aO).setCell (p:=⟨b,1,none⟩) (.inl rfl) _,by rw[H6.o]⟩
  ·rw[Vad hm] at h6;have H6:=h_ h6;clear h6;go_wp2;go_ret2;exact⟨y,Z3D (by rw[H6.o];simp only;omega) (by rw[H6.o];rfl),eU,gz.trans aO,by rw[H6.o];simp only;rw[Vcz,show x+(y-x)=y from by omega]⟩
 ·have H6:=h_ (Zea (m:=m) hp fp he);have dU:((er:Int)==0)=false:=(by rw[Vam];omega);have cO:((er:Int) !=0)=true:=(by rw[Va0];omega);clear he;go_wp2;go_ret2;exact⟨x,Z3D (by rw[H6.o];rfl) (by rw[H6.o]),eU.back LH,(gz.trans aO).setCell (p:=⟨b,1,none⟩) (.inl rfl) _,by rw[H6.o]⟩
end Go.Proofs.YtchokmkfobandaaGreatDoor.Bio
