import Derived.Test.YtchokmkfobandaaGreatDoorJ50
set_option linter.unusedVariables false
set_option linter.unusedSimpArgs false
set_option maxRecDepth 100000
set_option maxHeartbeats 8000000
namespace Go.Proofs.YtchokmkfobandaaGreatDoor
open Go.RowKit Go.Proofs Wv Wv.Vi Wv.Bc Wv.Sn Wv.Sg Wv.Dc
theorem ZhH (a c:Int) {w:World} (ht:Tab w):VaC a c w:=λv hv W hW=>by
 have:=Zdw a c (toL v) (by rw[Z01];exact hv) (ht.below hW);rw[Z09] at this;exact this
open Wv.Ru
theorem Zcj {w:World} {A:Option Addr} {b:ByteArray} {l:List (Int×ByteArray)} (ha:At w A (cv l)) (a c f t:Int) (hv:VaC a c w) (bP:b.size<=1099511627776) (ad:∀x∈l,x.2.size<=1099511627776) (n cap:Nat) (hn:n=l.length) (bu:n<=9223372036854775807) {d:List UInt8} {e:Nat} (h:sgE (a,c) f t b l=(d,e)):
  Calls Tryz.prog 13 #[.agg #[.int .i64 a,.int .i64 c],.int .i64 f,.int .i64 t,.string b,.slice A n cap] w λx w'=>x=.returned (.tuple #[.string (bs d),.int .i64 (e:Int)])/\Below w.heap.size w w':=by
 have:=Z9A ha a c f t hv bP ad n cap hn bu;unfold ERes at this;rw[h] at this;exact this
theorem Z9E (a c:Int) (Kc:I64 a/\I64 c) (f:Int) (hf:I64 f) (t:Int) (ht:I64 t) (b:ByteArray) (hb:b.size<=9223372036854775807) (data:ByteArray) (hd:data.size<=9223372036854775807) {w:World} (kz:Tab w):
  Calls Tryz.prog 5 #[.agg #[.int .i64 a,.int .i64 c],.int .i64 f,.int .i64 t,.string b,.string data] w λx w'=>x=.returned (.bool true)/\Below w.heap.size w w':=by
 have HK:=h_ (λW h=>Z2m (w:=w) (W:=W) (a:=a) (c:=c) h);have lA:=h_ (λW=>Z3z W);have nI:=h_ (λW (h:Below w.heap.size w W)=>ZhH a c (kz.below h));clear Kc hf ht;by_cases g1:(600:Int)<(data.size:Int)
 ·clear hb hd kz nI;go_enter Tryz.func5,Tryz.ntmps5;go_wp2_with fail;refine(lA.o _).mono ?_;rintro x w1 ⟨rfl,a7⟩;obtain⟨z0,z1,a8,_⟩:=HK.o _ a7;have al:=h_ a8;clear a7 a8;go_wp2;go_returns;exact⟨rfl,al.o⟩
 ·by_cases g2:(150:Int)<(b.size:Int)
  ·clear hb hd kz nI;go_enter Tryz.func5,Tryz.ntmps5;go_wp2_with fail;refine(lA.o _).mono ?_;rintro x w1 ⟨rfl,a7⟩;obtain⟨z0,z1,a8,_⟩:=HK.o _ a7;have al:=h_ a8;clear a7 a8;go_wp2;go_returns;exact⟨rfl,al.o⟩
  ·have bP:b.size<=1099511627776:=(by omega);have tW:(toL data).length<=1000000000:=(by rw[Z01];omega);obtain⟨⟨l,e⟩,hD⟩:∃y,sgD (a,c) f t b (toL data)=y:=⟨_,rfl⟩;have HD:=h_ (λW (h:Below w.heap.size w W)=>Z8c (b:=b) a c f t (nI.o W h) bP (toL data) tW hD);rw[Z09] at HD;have Kd:=h_ (λW (h:Below w.heap.size w W)=>Z0O (b:=b) (l:=[]) (At.nil W none) a c f t (nI.o W h) bP (λx hx=>by cases hx) 0 0 rfl (by decide));by_cases he:e=0
   ·subst he;obtain⟨hE,hV⟩:=Zoi hD;have lJ:∀x∈l,x.2.size<=1099511627776:=λx hx=>(by have:=Zhm hV x hx;omega);have fV:l.length<=4096:=(Z24.1 hV).2.2.2.1;have HE:=h_ (λW A cap (h:Below w.heap.size w W) (ha:At W A (cv l))=>Zcj ha a c f t (nI.o W h) bP lJ l.length cap rfl (by omega) hE);rw[Z09] at HE;have HV:=h_ (λW A cap (h:Below w.heap.size w W) (ha:At W A (cv l))=>Z0O ha a c f t (nI.o W h) bP lJ l.length cap rfl (by omega));rw[hV] at HV;have heq:(data.toList==data.toList)=true:=beq_self_eq_true _;clear hb hd kz nI bP tW hD hE hV lJ fV Kd;go_enter Tryz.func5,Tryz.ntmps5;go_wp2_with fail;refine(lA.o _).mono ?_;rintro x w1 ⟨rfl,a7⟩;obtain⟨z0,z1,a8,_⟩:=HK.o _ a7;have an:=h_ a7;have px:=h_ (HD.o _ a8);clear a7 a8;go_wp2_with fail;refine(px.o).mono ?_;rintro x w2 ⟨A2,aK,rfl,ak,ae⟩;have aF:=h_ (an.o.trans (ae.mono an.o.size));have bd:=h_ ak;obtain⟨z0,z1,aw,_⟩:=HK.o _ aF.o;have xw:=h_ (HE.o _ A2 aK aw ak);clear ae ak aw z0 z1 px;obtain⟨z0,z1,_,_⟩:=HK.o _ aF.o;go_wp2_with fail;refine(xw.o).mono ?_;rintro x w3 ⟨rfl,aM⟩;have bO:=h_ (aF.o.trans (aM.mono aF.o.size));obtain⟨z0,z1,dq,_⟩:=HK.o _ bO.o;have mI:=h_ (HV.o _ A2 aK dq (bd.o.below aM));have ej:=h_ dq;clear aM dq xw;go_wp2_with fail;refine(mI.o).mono ?_;rintro x w4 ⟨rfl,fx⟩;have pR:=h_ (ej.o.trans (fx.mono ej.o.size));clear fx;go_wp2;go_returns;exact⟨rfl,pR.o⟩
   ·have Cs:=ZmG (s:=(a,c)) (f:=f) (t:=t) (b:=b) (d:=toL data) (by rw[hD];exact he);rw[hD] at Cs;rcases Cs with ⟨ml,h⟩|⟨ml,h⟩
    all_goals
     injection h with h1 h2;subst h1;subst h2;rw[ml] at Kd;simp only[List.length_nil] at HD;clear hb hd kz nI bP tW hD ml he;go_enter Tryz.func5,Tryz.ntmps5;go_wp2_with fail;refine(lA.o _).mono ?_;rintro x w1 ⟨rfl,a7⟩;obtain⟨z0,z1,a8,_⟩:=HK.o _ a7;have an:=h_ a7;have px:=h_ (HD.o _ a8);clear a7 a8;go_wp2_with fail;refine(px.o).mono ?_;rintro x w2 ⟨A2,aK,rfl,ak,ae⟩;have aF:=h_ (an.o.trans (ae.mono an.o.size));obtain⟨z0,z1,aw,_⟩:=HK.o _ aF.o;have mI:=h_ (Kd.o _ aw);have bo:=h_ aw;clear ae ak aw px;go_wp2_with fail;refine(mI.o).mono ?_;rintro x w3 ⟨rfl,aM⟩;have bO:=h_ (bo.o.trans (aM.mono bo.o.size));clear aM;go_wp2;go_returns;exact⟨rfl,bO.o⟩
end Go.Proofs.YtchokmkfobandaaGreatDoor
