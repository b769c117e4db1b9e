import Derived.Test.YtchokmkfobandaaGreatDoorJ19
import Derived.Test.YtchokmkfobandaaGreatDoorJ34
set_option linter.unusedVariables false
set_option linter.unusedSimpArgs false
set_option maxRecDepth 100000
set_option maxHeartbeats 8000000
namespace Go.Proofs.YtchokmkfobandaaGreatDoor
open Go.RowKit Go.Proofs Wv Wv.Dc
theorem ZkE {a b:ByteArray} :(a.toList==b.toList)=decide (a=b):=by
 rw[Vbl,beq_iff_eq,Vas,ByteArray.toList_eq,ByteArray.toList_eq];constructor
 ·intro h;apply Vck;apply Vbj.1;exact h
 ·intro h;rw[h]
theorem Zga (s:List UInt8):canN s=match (scn cl1 s).map Xb with
  |none=>none
  |some n=>if Xc n=(s,0) then some n else none:=by
 unfold canN;match scn cl1 s with
 |none=>rfl
 |some m=>rfl
theorem Z9C (s:ByteArray) {w:World} (ht:Tab w):
  Calls Tryz.prog 149 #[.string s] w λx w'=>Zc3 w w' (canN (toL s)) x:=by
 have Hs:=h_ (λW=>Zc5 s W);have Ht:=h_ ht;have hd:=Zga (toL s);obtain⟨R,hR⟩:∃R,canN (toL s)=R:=⟨_,rfl⟩;rw[hR] at hd⊢;have aB:=(Vae w.heap.size w).alloc UZz (.cells #[.bool false,.slice none 0 0,.int .i64 0] 197);have cj:=Bk.new w 197 #[.bool false,.slice none 0 0,.int .i64 0];have aL:=h_ aB;have dy:=h_ cj;clear ht hR aB cj;cases ho:(scn cl1 (toL s)).map Xb with
 |none=>
  rw[ho] at Hs hd;simp only at hd;subst hd;clear ho;go_enter Tryz.func149,Tryz.ntmps149;go_wp2_with fail;refine((Hs.o _).mono ?_);rintro x w1 ⟨v,b,rfl,hb,⟨b0,A0,l0,k0,e0,rfl⟩,rfl⟩;have aZ:=dy.o.below hb dy.o.lt;have r0:=aZ.cell 0;have r1:=aZ.cell 1;have r2:=aZ.cell 2;have g0:=aZ.frozen 0;have g1:=aZ.frozen 1;have g2:=aZ.frozen 2;have ab:=aZ.lt;simp at r0 r1 r2;have ao:=h_ (aL.o.trans (hb.mono aL.o.size));obtain⟨WF,gC,u0,u1,u2,gP,ey⟩:=Qt aZ ao.o UZz (L:=[]) (At.nil _ none) false (.slice none 0 0) 0;have jY:=h_ gC;have kG:=(Vae WF.heap.size WF).alloc UZz (.cells #[.bool b0,.slice A0 l0 k0,.int .i64 e0] 197);have v0:=YE u0 kG;have v1:=YE u1 kG;have v2:=YE u2 kG;have gQ:=h_ (ey.trans (kG.mono ey.size));obtain⟨WG,JQ⟩:∃WG,WF.alloc (.cells #[.bool b0,.slice A0 l0 k0,.int .i64 e0] 197)=WG:=⟨_,rfl⟩;rw[JQ] at v0 v1 v2 gQ;have UQ:=h_ JQ;clear hb aZ gC gP ey kG u0 u1 u2 JQ;go_wp2;rw[jY.o,UQ.o];refine bodyPost_ret (by simp[results,Tryz.results149,go_sem,v0,v1,v2];try rfl) rfl ?_;exact⟨_,_,rfl,gQ.o,⟨_,_,_,_,_,rfl⟩,rfl⟩
 |some n=>
  rw[ho] at Hs hd;simp only at hd;clear ho;go_enter Tryz.func149,Tryz.ntmps149;go_wp2_with fail;refine((Hs.o _).mono ?_);rintro x w1 ⟨v,b,rfl,hb,_,rfl,hn,hz⟩;have aZ:=dy.o.below hb dy.o.lt;have a7:=aL.o.trans (hb.mono aL.o.size);obtain⟨A,cap,rfl,ak,cq,dI⟩:=hn;obtain⟨bn,dn,en⟩:=n;simp only at ak cq dI;have mS:=a7.alloc a7.size (.cells #[.bool bn,.slice A dn.length cap,.int .i64 en] 197);have zU:NV (w1.alloc (.cells #[.bool bn,.slice A dn.length cap,.int .i64 en] 197)) (.agg #[.bool bn,.slice A dn.length cap,.int .i64 en]) ⟨bn,dn,en⟩:=⟨A,cap,rfl,ak.alloc _,cq,dI⟩;have gG:=h_ (Zc2 zU hz (Ht.o.below mS));have cL:=aZ.alloc (.cells #[.bool bn,.slice A dn.length cap,.int .i64 en] 197);have cU:=Bk.new w1 197 #[.bool bn,.slice A dn.length cap,.int .i64 en];have ab:=aZ.lt;have oo:=h_ cL;have rM:=h_ cU;have JR:=h_ mS;have bD:=h_ ak;have fL:=h_ cq;have im:=h_ dI;have Hz:=h_ hz;have Hd:=h_ hd;clear hb aZ a7 ak cq dI mS zU cL cU hz hd;go_wp2_with fail;refine(gG.o).mono ?_;rintro x w3 ⟨rfl,af⟩;have eJ:=oo.o.below af oo.o.lt;have oh:=rM.o.below af rM.o.lt;have ax:=JR.o.trans (af.mono JR.o.size);have n0:=oh.cell 0;have n1:=oh.cell 1;have n2:=oh.cell 2;have r0:=eJ.cell 0;have r1:=eJ.cell 1;have r2:=eJ.cell 2;have g0:=eJ.frozen 0;have g1:=eJ.frozen 1;have g2:=eJ.frozen 2;simp at n0 n1 n2 r0 r1 r2;have bd:=(bD.o.alloc (.cells #[.bool bn,.slice A dn.length cap,.int .i64 en] 197)).below af;obtain⟨WF,gC,u0,u1,u2,gP,ey⟩:=Qt eJ ax UZz bd bn (.slice A dn.length cap) en;have jY:=h_ gC;have pD:=h_ gP;have gQ:=h_ ey;obtain⟨T,e,hT⟩:∃T e,Xc ⟨bn,dn,en⟩=(T,e):=⟨_,_,rfl⟩;have hd:=Hd.o;rw[hT] at hd;rw[hT];have JS:=h_ (@ZkE (bs T) s);clear af eJ oh ax gC gP ey bd Hd gG bD oo rM JR Hs hT
  have iA:Hid (Zc3 w WF R (.returned (.tuple #[.agg #[.bool bn,.slice A dn.length cap,.int .i64 en],.bool (decide ((T,e)=(toL s,0)))]))):=h_ (by
   refine⟨_,_,rfl,gQ.o,⟨_,_,_,_,_,rfl⟩,?_⟩;by_cases hq:(T,e)=(toL s,0)
   ·rw[hd,Vaf hq];exact⟨by simpa using hq,⟨A,cap,rfl,pD.o,fL.o,im.o⟩,Hz.o⟩
   ·rw[hd,Vad hq];simpa using hq)
  by_cases he:e=0
  ·subst he;clear hd;go_wp2;rw[jY.o];refine bodyPost_ret (by simp[results,Tryz.results149,go_sem,u0,u1,u2];try rfl) rfl ?_
   have hq:((bs T).toList==s.toList)=decide ((T,0)=(toL s,0)):=by
    rw[JS.o,Vbl,Vas,Vas,Prod.mk.injEq];constructor
    ·intro h;exact⟨by rw[<-h];rfl,rfl⟩
    ·intro h;rw[h.1];rfl
   rw[hq];exact iA.o
  ·have az:((e:Int)==0)=false:=by rw[Vam];omega
   have tJ:decide ((T,e)=(toL s,0))=false:=by
    rw[Vbp,Prod.mk.injEq];exact λh=>he h.2
   rw[tJ] at iA;clear hd tJ;go_wp2;rw[jY.o];refine bodyPost_ret (by simp[results,Tryz.results149,go_sem,u0,u1,u2];try rfl) rfl ?_;exact iA.o
def CRes (w w':World) (o:Option Num) (x:Ending):Prop:=∃b0 A l c e,x=.returned (.tuple #[.agg #[.bool b0,.slice A l c,.int .i64 e],.bool o.isSome])/\Below w.heap.size w w'/\∀n,o=some n->NV w' (.agg #[.bool b0,.slice A l c,.int .i64 e]) n
theorem cres {w w':World} {o:Option Num} {x:Ending} (h:Zc3 w w' o x):CRes w w' o x:=by
 obtain⟨v,b,rfl,hb,⟨b0,A,l,c,e,rfl⟩,hm⟩:=h;match o,hm with
 |none,hm=>subst hm;exact⟨b0,A,l,c,e,rfl,hb,λn h=>by cases h⟩
 |some m,hm=>
  obtain⟨rfl,h2,h3⟩:=hm;exact⟨b0,A,l,c,e,rfl,hb,λn h=>by injection h with h;subst h;exact h2⟩
theorem pcan (s:ByteArray) {w:World} (ht:Tab w):Calls Tryz.prog 149 #[.string s] w λx w'=>CRes w w' (canN (toL s)) x:=(Z9C s ht).mono λx w' h=>cres h
theorem Z9D (s:ByteArray) {w:World} (ht:Tab w):
  Calls Tryz.prog 99 #[.string s] w λx w'=>x=.returned (.bool (Z9 (toL s)))/\Below w.heap.size w w':=by
 have Hc:=h_ (pcan s ht);have hv:(canN (toL s)).isSome=Z9 (toL s):=rfl;clear ht;generalize canN (toL s)=o at*;have Hv:=h_ hv;clear hv;go_enter Tryz.func99,Tryz.ntmps99;go_wp2_with fail;refine(Hc.o).mono ?_;rintro x w1 ⟨b0,A,l,c,e,rfl,hb,_⟩;have Hb:=h_ (hb.alloc hb.size (.cells #[.bool b0,.slice A l c,.int .i64 e] 197));clear hb;go_wp2;go_returns;exact⟨ZaZ Hv.o,Hb.o⟩
open Wv.Vi Wv.Bc Wv.Sn
theorem Zhb {w:World} {n:Int} {kc:Array Value} (h:KdR w n kc) (hn:n<0\/4<=n):kc=zkC:=by
 rcases h with ⟨_,h⟩|⟨h0,h1,_⟩
 ·exact h
 ·omega
theorem kd0 {w:World} {kc:Array Value} (h:KdR w 0 kc):∃b,kc= #[.int .i64 1,.int .i64 128,.func (.func 75) #[] #[],.func (.func 94) #[] #[],.func (.func 96) #[] #[],.func (.func 97) #[] #[],.string ⟨#[98]⟩]/\Bk w b 9 #[.string ⟨#[]⟩]:=by
 rcases h with ⟨h,_⟩|⟨_,_,b,h1,h2⟩
 ·omega
 ·exact⟨b,h1,h2⟩
theorem kd1 {w:World} {kc:Array Value} (h:KdR w 1 kc):∃b,kc= #[.int .i64 0,.int .i64 0,.func (.func 98) #[] #[],.func (.func 150) #[] #[.pointer (some ⟨b,0,none⟩)],.func (.func 101) #[] #[],.func (.func 103) #[] #[],.string ⟨#[114]⟩]/\Bk w b 9 #[.string ⟨#[48]⟩]:=by
 rcases h with ⟨h,_⟩|⟨_,_,b,h1,h2⟩
 ·omega
 ·exact⟨b,h1,h2⟩
theorem kd2 {w:World} {kc:Array Value} (h:KdR w 2 kc):∃b,kc= #[.int .i64 0,.int .i64 0,.func (.func 104) #[] #[],.func (.func 150) #[] #[.pointer (some ⟨b,0,none⟩)],.func (.func 105) #[] #[],.func (.func 107) #[] #[],.string ⟨#[115]⟩]/\Bk w b 9 #[.string ⟨#[]⟩]:=by
 rcases h with ⟨h,_⟩|⟨_,_,b,h1,h2⟩
 ·omega
 ·exact⟨b,h1,h2⟩
theorem kd3 {w:World} {kc:Array Value} (h:KdR w 3 kc):∃b,kc= #[.int .i64 0,.int .i64 0,.func (.func 108) #[] #[],.func (.func 150) #[] #[.pointer (some ⟨b,0,none⟩)],.func (.func 109) #[] #[],.func (.func 110) #[] #[],.string ⟨#[]⟩]/\Bk w b 9 #[.string ⟨#[]⟩]:=by
 rcases h with ⟨h,_⟩|⟨_,_,b,h1,h2⟩
 ·omega
 ·exact⟨b,h1,h2⟩
theorem Z35 (W:Int) (v:List UInt8) (hv:v.length<=1099511627776) (w:World):
  Calls Tryz.prog 75 #[.int .i64 W,.string (bs v)] w λx w'=>x=.returned (.bool (vld W v))/\Below w.heap.size w w':=by
 have Hi:=h_ (Z1J v hv w);have ad:(bs v).size=v.length:=Z0 v;have bj:vld W v=(isV v&&decide ((v.length:Int)=W)):=rfl;cases hi:isV v with
 |false=>
  rw[hi] at Hi bj;have HV:=h_ bj;clear ad bj hi;generalize bs v=S at*;go_enter Tryz.func75,Tryz.ntmps75;go_wp2_with fail;refine(Hi.o).mono ?_;rintro x w1 ⟨rfl,a7⟩;go_wp2;go_returns;exact⟨Z4 (by rw[HV.o];rfl),a7⟩
 |true=>
  rw[hi] at Hi bj;have HV:=h_ bj
  have HS:Hid ((((bs v).size:Int)==W)=vld W v):=h_ (by
   rw[bj,ad,Bool.true_and,Vbl,beq_iff_eq,Vas])
  clear ad bj hi;generalize bs v=S at*;go_enter Tryz.func75,Tryz.ntmps75;go_wp2_with fail;refine(Hi.o).mono ?_;rintro x w1 ⟨rfl,a7⟩;go_wp2;go_returns;exact⟨Z4 HS.o,a7⟩
theorem ZkF (n:Int) (v:List UInt8) {w:World} (ht:Tab w):
  Calls Tryz.prog 98 #[.int .i64 n,.string (bs v)] w λx w'=>x=.returned (.bool (Z9 v))/\Below w.heap.size w w':=by
 have H:=h_ (Z9D (bs v) ht);rw[Ze] at H;clear ht;generalize bs v=S at*;go_enter Tryz.func98,Tryz.ntmps98;go_wp2_with fail;refine(H.o).mono ?_;rintro x w1 ⟨rfl,a7⟩;go_wp2;go_returns;exact⟨rfl,a7⟩
theorem ZkG (n:Int) (v:List UInt8) (w:World):
  Calls Tryz.prog 104 #[.int .i64 n,.string (bs v)] w λx w'=>x=.returned (.bool (decide (v.length<=64)))/\Below w.heap.size w w':=by
 have ad:(bs v).size=v.length:=Z0 v;have HS:Hid (decide (((bs v).size:Int)<=64)=decide (v.length<=64)):=h_ (by rw[ad];simp only[decide_eq_decide];omega);clear ad;generalize bs v=S at*;go_enter Tryz.func104,Tryz.ntmps104;go_wp2;go_returns;exact⟨Z4 HS.o,Vae _ _⟩
theorem ZkH (n:Int) (v:List UInt8) (w:World):
  Calls Tryz.prog 108 #[.int .i64 n,.string (bs v)] w λx w'=>x=.returned (.bool (decide (v=[])))/\Below w.heap.size w w':=by
 have HS:=h_ (Xl v);generalize bs v=S at*;go_enter Tryz.func108,Tryz.ntmps108;go_wp2;go_returns;exact⟨Z4 HS.o,Vae _ _⟩
theorem Z5r (n wd:Int) (w:World):
  Calls Tryz.prog 24 #[.int .i64 n,.int .i64 wd] w λx w'=>x=.returned (.bool (tyB (n,wd)))/\Below w.heap.size w w':=by
 have eO:=h_ (ZbU n wd w);generalize tyB (n,wd)=B at*;by_cases bw:n<0\/4<=n
 ·have Ho:=h_ bw;clear bw;go_enter Tryz.func24,Tryz.ntmps24;go_wp2_with fail;refine(eO.o).mono ?_;rintro x w1 ⟨kc,rfl,hk,a7⟩;have:=Zhb hk Ho.o;subst this;have Hb:=h_ (a7.alloc a7.size (.cells zkC 84));unfold zkC at*;clear hk a7;go_wp2;go_returns;exact⟨rfl,Hb.o⟩
 ·have bo:n=0\/n=1\/n=2\/n=3:=(by omega);rcases bo with rfl|rfl|rfl|rfl
  ·clear bw;go_enter Tryz.func24,Tryz.ntmps24;go_wp2_with fail;refine(eO.o).mono ?_;rintro x w1 ⟨kc,rfl,hk,a7⟩;obtain⟨b,rfl,hB⟩:=kd0 hk;have Hb:=h_ (a7.alloc a7.size (.cells #[.int .i64 1,.int .i64 128,.func (.func 75) #[] #[],.func (.func 94) #[] #[],.func (.func 96) #[] #[],.func (.func 97) #[] #[],.string ⟨#[98]⟩] 84));clear hk a7 hB;go_wp2;go_returns;exact⟨rfl,Hb.o⟩
  ·clear bw;go_enter Tryz.func24,Tryz.ntmps24;go_wp2_with fail;refine(eO.o).mono ?_;rintro x w1 ⟨kc,rfl,hk,a7⟩;obtain⟨b,rfl,hB⟩:=kd1 hk;have Hb:=h_ (a7.alloc a7.size (.cells #[.int .i64 0,.int .i64 0,.func (.func 98) #[] #[],.func (.func 150) #[] #[.pointer (some ⟨b,0,none⟩)],.func (.func 101) #[] #[],.func (.func 103) #[] #[],.string ⟨#[114]⟩] 84));clear hk a7 hB;go_wp2;go_returns;exact⟨rfl,Hb.o⟩
  ·clear bw;go_enter Tryz.func24,Tryz.ntmps24;go_wp2_with fail;refine(eO.o).mono ?_;rintro x w1 ⟨kc,rfl,hk,a7⟩;obtain⟨b,rfl,hB⟩:=kd2 hk;have Hb:=h_ (a7.alloc a7.size (.cells #[.int .i64 0,.int .i64 0,.func (.func 104) #[] #[],.func (.func 150) #[] #[.pointer (some ⟨b,0,none⟩)],.func (.func 105) #[] #[],.func (.func 107) #[] #[],.string ⟨#[115]⟩] 84));clear hk a7 hB;go_wp2;go_returns;exact⟨rfl,Hb.o⟩
  ·clear bw;go_enter Tryz.func24,Tryz.ntmps24;go_wp2_with fail;refine(eO.o).mono ?_;rintro x w1 ⟨kc,rfl,hk,a7⟩;obtain⟨b,rfl,hB⟩:=kd3 hk;have Hb:=h_ (a7.alloc a7.size (.cells #[.int .i64 0,.int .i64 0,.func (.func 108) #[] #[],.func (.func 150) #[] #[.pointer (some ⟨b,0,none⟩)],.func (.func 109) #[] #[],.func (.func 110) #[] #[],.string ⟨#[]⟩] 84));clear hk a7 hB;go_wp2;go_returns;exact⟨rfl,Hb.o⟩
theorem Z9E (n wd:Int) (v:List UInt8) (hv:v.length<=1099511627776) {w:World} (ht:Tab w):
  Calls Tryz.prog 25 #[.int .i64 n,.int .i64 wd,.string (bs v)] w λx w'=>x=.returned (.bool (vaB Z9 (n,wd) v))/\Below w.heap.size w w':=by
 have eO:=h_ (ZbU n wd w);have eN:vaB Z9 (n,wd) v=(tyB (n,wd)&&kvB Z9 n wd v):=rfl;by_cases bw:n<0\/4<=n
 ·have hty:=ZgT (wd:=wd) bw;have Ho:=h_ bw;rw[hty] at eO eN;have iq:=h_ eN;clear bw hty eN;generalize bs v=S at*;go_enter Tryz.func25,Tryz.ntmps25;go_wp2_with fail;refine(eO.o).mono ?_;rintro x w1 ⟨kc,rfl,hk,a7⟩;have:=Zhb hk Ho.o;subst this;have Hb:=h_ (a7.alloc a7.size (.cells zkC 84));unfold zkC at*;clear hk a7;go_wp2;go_returns;exact⟨Z4 (by rw[iq.o];rfl),Hb.o⟩
 ·have bo:n=0\/n=1\/n=2\/n=3:=(by omega);rcases bo with rfl|rfl|rfl|rfl
  ·clear bw;have Ht:=h_ ht;have Hc:=h_ (λ(W:World) (hW:Tab W)=>Z35 wd v hv W);have lU:kvB Z9 0 wd v=vld wd v:=rfl;rw[lU] at eN;clear lU ht;generalize vld wd v=R at*;clear hv;generalize bs v=S at*;cases hty:tyB (0,wd) with
   |false=>
    rw[hty] at eO eN;have iq:=h_ eN;clear hty eN;go_enter Tryz.func25,Tryz.ntmps25;go_wp2_with fail;refine(eO.o).mono ?_;rintro x w1 ⟨kc,rfl,hk,a7⟩;obtain⟨b,rfl,hB⟩:=kd0 hk;have Hb:=h_ (a7.alloc a7.size (.cells #[.int .i64 1,.int .i64 128,.func (.func 75) #[] #[],.func (.func 94) #[] #[],.func (.func 96) #[] #[],.func (.func 97) #[] #[],.string ⟨#[98]⟩] 84));clear hk a7 hB;go_wp2;go_returns;exact⟨Z4 (by rw[iq.o];rfl),Hb.o⟩
   |true=>
    rw[hty] at eO eN;have iq:=h_ eN;clear hty eN;go_enter Tryz.func25,Tryz.ntmps25;go_wp2_with fail;refine(eO.o).mono ?_;rintro x w1 ⟨kc,rfl,hk,a7⟩;obtain⟨b,rfl,hB⟩:=kd0 hk;have Hb:=h_ (a7.alloc a7.size (.cells #[.int .i64 1,.int .i64 128,.func (.func 75) #[] #[],.func (.func 94) #[] #[],.func (.func 96) #[] #[],.func (.func 97) #[] #[],.string ⟨#[98]⟩] 84));clear hk a7 hB;go_wp2_with fail;refine(Hc.o _ (Ht.o.below Hb.o)).mono ?_;rintro x w2 ⟨rfl,a8⟩;have an:=h_ (Hb.o.trans (a8.mono Hb.o.size));clear a8;go_wp2;go_returns;exact⟨Z4 (by rw[iq.o];rfl),an.o⟩
  ·clear bw;have Ht:=h_ ht;have Hc:=h_ (λ(W:World) (hW:Tab W)=>ZkF wd v hW);have lU:kvB Z9 1 wd v=Z9 v:=rfl;rw[lU] at eN;clear lU ht;generalize Z9 v=R at*;clear hv;generalize bs v=S at*;cases hty:tyB (1,wd) with
   |false=>
    rw[hty] at eO eN;have iq:=h_ eN;clear hty eN;go_enter Tryz.func25,Tryz.ntmps25;go_wp2_with fail;refine(eO.o).mono ?_;rintro x w1 ⟨kc,rfl,hk,a7⟩;obtain⟨b,rfl,hB⟩:=kd1 hk;have Hb:=h_ (a7.alloc a7.size (.cells #[.int .i64 0,.int .i64 0,.func (.func 98) #[] #[],.func (.func 150) #[] #[.pointer (some ⟨b,0,none⟩)],.func (.func 101) #[] #[],.func (.func 103) #[] #[],.string ⟨#[114]⟩] 84));clear hk a7 hB;go_wp2;go_returns;exact⟨Z4 (by rw[iq.o];rfl),Hb.o⟩
   |true=>
    rw[hty] at eO eN;have iq:=h_ eN;clear hty eN;go_enter Tryz.func25,Tryz.ntmps25;go_wp2_with fail;refine(eO.o).mono ?_;rintro x w1 ⟨kc,rfl,hk,a7⟩;obtain⟨b,rfl,hB⟩:=kd1 hk;have Hb:=h_ (a7.alloc a7.size (.cells #[.int .i64 0,.int .i64 0,.func (.func 98) #[] #[],.func (.func 150) #[] #[.pointer (some ⟨b,0,none⟩)],.func (.func 101) #[] #[],.func (.func 103) #[] #[],.string ⟨#[114]⟩] 84));clear hk a7 hB;go_wp2_with fail;refine(Hc.o _ (Ht.o.below Hb.o)).mono ?_;rintro x w2 ⟨rfl,a8⟩;have an:=h_ (Hb.o.trans (a8.mono Hb.o.size));clear a8;go_wp2;go_returns;exact⟨Z4 (by rw[iq.o];rfl),an.o⟩
  ·clear bw;have Ht:=h_ ht;have Hc:=h_ (λ(W:World) (hW:Tab W)=>ZkG wd v W);have lU:kvB Z9 2 wd v=decide (v.length<=64):=rfl;rw[lU] at eN;clear lU ht;generalize decide (v.length<=64)=R at*;clear hv;generalize bs v=S at*;cases hty:tyB (2,wd) with
   |false=>
    rw[hty] at eO eN;have iq:=h_ eN;clear hty eN;go_enter Tryz.func25,Tryz.ntmps25;go_wp2_with fail;refine(eO.o).mono ?_;rintro x w1 ⟨kc,rfl,hk,a7⟩;obtain⟨b,rfl,hB⟩:=kd2 hk;have Hb:=h_ (a7.alloc a7.size (.cells #[.int .i64 0,.int .i64 0,.func (.func 104) #[] #[],.func (.func 150) #[] #[.pointer (some ⟨b,0,none⟩)],.func (.func 105) #[] #[],.func (.func 107) #[] #[],.string ⟨#[115]⟩] 84));clear hk a7 hB;go_wp2;go_returns;exact⟨Z4 (by rw[iq.o];rfl),Hb.o⟩
   |true=>
    rw[hty] at eO eN;have iq:=h_ eN;clear hty eN;go_enter Tryz.func25,Tryz.ntmps25;go_wp2_with fail;refine(eO.o).mono ?_;rintro x w1 ⟨kc,rfl,hk,a7⟩;obtain⟨b,rfl,hB⟩:=kd2 hk;have Hb:=h_ (a7.alloc a7.size (.cells #[.int .i64 0,.int .i64 0,.func (.func 104) #[] #[],.func (.func 150) #[] #[.pointer (some ⟨b,0,none⟩)],.func (.func 105) #[] #[],.func (.func 107) #[] #[],.string ⟨#[115]⟩] 84));clear hk a7 hB;go_wp2_with fail;refine(Hc.o _ (Ht.o.below Hb.o)).mono ?_;rintro x w2 ⟨rfl,a8⟩;have an:=h_ (Hb.o.trans (a8.mono Hb.o.size));clear a8;go_wp2;go_returns;exact⟨Z4 (by rw[iq.o];rfl),an.o⟩
  ·clear bw;have Ht:=h_ ht;have Hc:=h_ (λ(W:World) (hW:Tab W)=>ZkH wd v W);have lU:kvB Z9 3 wd v=decide (v=[]):=rfl;rw[lU] at eN;clear lU ht;generalize decide (v=[])=R at*;clear hv;generalize bs v=S at*;cases hty:tyB (3,wd) with
   |false=>
    rw[hty] at eO eN;have iq:=h_ eN;clear hty eN;go_enter Tryz.func25,Tryz.ntmps25;go_wp2_with fail;refine(eO.o).mono ?_;rintro x w1 ⟨kc,rfl,hk,a7⟩;obtain⟨b,rfl,hB⟩:=kd3 hk;have Hb:=h_ (a7.alloc a7.size (.cells #[.int .i64 0,.int .i64 0,.func (.func 108) #[] #[],.func (.func 150) #[] #[.pointer (some ⟨b,0,none⟩)],.func (.func 109) #[] #[],.func (.func 110) #[] #[],.string ⟨#[]⟩] 84));clear hk a7 hB;go_wp2;go_returns;exact⟨Z4 (by rw[iq.o];rfl),Hb.o⟩
   |true=>
    rw[hty] at eO eN;have iq:=h_ eN;clear hty eN;go_enter Tryz.func25,Tryz.ntmps25;go_wp2_with fail;refine(eO.o).mono ?_;rintro x w1 ⟨kc,rfl,hk,a7⟩;obtain⟨b,rfl,hB⟩:=kd3 hk;have Hb:=h_ (a7.alloc a7.size (.cells #[.int .i64 0,.int .i64 0,.func (.func 108) #[] #[],.func (.func 150) #[] #[.pointer (some ⟨b,0,none⟩)],.func (.func 109) #[] #[],.func (.func 110) #[] #[],.string ⟨#[]⟩] 84));clear hk a7 hB;go_wp2_with fail;refine(Hc.o _ (Ht.o.below Hb.o)).mono ?_;rintro x w2 ⟨rfl,a8⟩;have an:=h_ (Hb.o.trans (a8.mono Hb.o.size));clear a8;go_wp2;go_returns;exact⟨Z4 (by rw[iq.o];rfl),an.o⟩
end Go.Proofs.YtchokmkfobandaaGreatDoor
