import Derived.Test.YtchokmkfobandaaGreatDoorM19
import Derived.Test.YtchokmkfobandaaGreatDoorM34
set_option linter.unusedVariables false
set_option linter.unusedSimpArgs false
set_option maxRecDepth 100000
set_option maxHeartbeats 8000000
namespace Go.Proofs.YtchokmkfobandaaGreatDoor
open Go.RowKit Go.Proofs Wv Wv.Dc
theorem ZkI {a b:ByteArray} :(a.toList==b.toList)=decide (a=b):=by
 rw[Vbl,beq_iff_eq,Vaq,ByteArray.toList_eq,ByteArray.toList_eq];constructor
 ·intro h;apply Vcj;apply Vbj.1;exact h
 ·intro h;rw[h]
theorem Zgf (s:List UInt8):canN s=match (scn cl1 s).map Xa with
  |none=>none
  |some n=>if Xb n=(s,0) then some n else none:=by
 unfold canN;match scn cl1 s with
 |none=>rfl
 |some m=>rfl
theorem Z9C (s:ByteArray) {w:World} (ht:Tab w):
  Calls Tryz.prog 149 #[.string s] w λx w'=>Zc3 w w' (canN (toL s)) x:=by
 have Hs:=h_ (λW=>Zc5 s W);have Ht:=h_ ht;have hd:=Zgf (toL s);obtain⟨R,hR⟩:∃R,canN (toL s)=R:=⟨_,rfl⟩;rw[hR] at hd⊢;have aD:=(Vae w.heap.size w).alloc UZz (.cells #[.bool false,.slice none 0 0,.int .i64 0] 197);have cg:=Bk.new w 197 #[.bool false,.slice none 0 0,.int .i64 0];have aP:=h_ aD;have dF:=h_ cg;clear ht hR aD cg;cases ho:(scn cl1 (toL s)).map Xa with
 |none=>
  rw[ho] at Hs hd;simp only at hd;subst hd;clear ho;go_enter Tryz.func149,Tryz.ntmps149;go_wp2_with fail;refine((Hs.o _).mono ?_);rintro x w1 ⟨v,b,rfl,hb,⟨b0,A0,l0,k0,e0,rfl⟩,rfl⟩;have bk:=dF.o.below hb dF.o.lt;have r0:=bk.cell 0;have r1:=bk.cell 1;have r2:=bk.cell 2;have g0:=bk.frozen 0;have g1:=bk.frozen 1;have g2:=bk.frozen 2;have ab:=bk.lt;simp at r0 r1 r2;have al:=h_ (aP.o.trans (hb.mono aP.o.size));obtain⟨WF,gB,u0,u1,u2,gP,dD⟩:=Qv bk al.o UZz (L:=[]) (At.nil _ none) false (.slice none 0 0) 0;have jR:=h_ gB;have kC:=(Vae WF.heap.size WF).alloc UZz (.cells #[.bool b0,.slice A0 l0 k0,.int .i64 e0] 197);have v0:=YE u0 kC;have v1:=YE u1 kC;have v2:=YE u2 kC;have fS:=h_ (dD.trans (kC.mono dD.size));obtain⟨WG,JR⟩:∃WG,WF.alloc (.cells #[.bool b0,.slice A0 l0 k0,.int .i64 e0] 197)=WG:=⟨_,rfl⟩;rw[JR] at v0 v1 v2 fS;have UE:=h_ JR;clear hb bk gB gP dD kC u0 u1 u2 JR;go_wp2;rw[jR.o,UE.o];refine bodyPost_ret (by simp[results,Tryz.results149,go_sem,v0,v1,v2];try rfl) rfl ?_;exact⟨_,_,rfl,fS.o,⟨_,_,_,_,_,rfl⟩,rfl⟩
 |some n=>
  rw[ho] at Hs hd;simp only at hd;clear ho;go_enter Tryz.func149,Tryz.ntmps149;go_wp2_with fail;refine((Hs.o _).mono ?_);rintro x w1 ⟨v,b,rfl,hb,_,rfl,hn,hz⟩;have bk:=dF.o.below hb dF.o.lt;have a7:=aP.o.trans (hb.mono aP.o.size);obtain⟨A,cap,rfl,an,cq,dN⟩:=hn;obtain⟨bn,dn,en⟩:=n;simp only at an cq dN;have mX:=a7.alloc a7.size (.cells #[.bool bn,.slice A dn.length cap,.int .i64 en] 197);have Aa:NV (w1.alloc (.cells #[.bool bn,.slice A dn.length cap,.int .i64 en] 197)) (.agg #[.bool bn,.slice A dn.length cap,.int .i64 en]) ⟨bn,dn,en⟩:=⟨A,cap,rfl,an.alloc _,cq,dN⟩;have gG:=h_ (Zc2 Aa hz (Ht.o.below mX));have cK:=bk.alloc (.cells #[.bool bn,.slice A dn.length cap,.int .i64 en] 197);have cY:=Bk.new w1 197 #[.bool bn,.slice A dn.length cap,.int .i64 en];have ab:=bk.lt;have ox:=h_ cK;have rN:=h_ cY;have JS:=h_ mX;have bJ:=h_ an;have fL:=h_ cq;have il:=h_ dN;have Hz:=h_ hz;have Hd:=h_ hd;clear hb bk a7 an cq dN mX Aa cK cY hz hd;go_wp2_with fail;refine(gG.o).mono ?_;rintro x w3 ⟨rfl,af⟩;have eN:=ox.o.below af ox.o.lt;have om:=rN.o.below af rN.o.lt;have au:=JS.o.trans (af.mono JS.o.size);have n0:=om.cell 0;have n1:=om.cell 1;have n2:=om.cell 2;have r0:=eN.cell 0;have r1:=eN.cell 1;have r2:=eN.cell 2;have g0:=eN.frozen 0;have g1:=eN.frozen 1;have g2:=eN.frozen 2;simp at n0 n1 n2 r0 r1 r2;have cD:=(bJ.o.alloc (.cells #[.bool bn,.slice A dn.length cap,.int .i64 en] 197)).below af;obtain⟨WF,gB,u0,u1,u2,gP,dD⟩:=Qv eN au UZz cD bn (.slice A dn.length cap) en;have jR:=h_ gB;have pH:=h_ gP;have fS:=h_ dD;obtain⟨T,e,hT⟩:∃T e,Xb ⟨bn,dn,en⟩=(T,e):=⟨_,_,rfl⟩;have hd:=Hd.o;rw[hT] at hd;rw[hT];have JT:=h_ (@ZkI (bs T) s);clear af eN om au gB gP dD cD Hd gG bJ ox rN JS Hs hT
  have iA:Hid (Zc3 w WF R (.returned (.tuple #[.agg #[.bool bn,.slice A dn.length cap,.int .i64 en],.bool (decide ((T,e)=(toL s,0)))]))):=h_ (by
   refine⟨_,_,rfl,fS.o,⟨_,_,_,_,_,rfl⟩,?_⟩;by_cases hq:(T,e)=(toL s,0)
   ·rw[hd,Vaf hq];exact⟨by simpa using hq,⟨A,cap,rfl,pH.o,fL.o,il.o⟩,Hz.o⟩
   ·rw[hd,Vad hq];simpa using hq)
  by_cases he:e=0
  ·subst he;clear hd;go_wp2;rw[jR.o];refine bodyPost_ret (by simp[results,Tryz.results149,go_sem,u0,u1,u2];try rfl) rfl ?_
   have hq:((bs T).toList==s.toList)=decide ((T,0)=(toL s,0)):=by
    rw[JT.o,Vbl,Vaq,Vaq,Prod.mk.injEq];constructor
    ·intro h;exact⟨by rw[<-h];rfl,rfl⟩
    ·intro h;rw[h.1];rfl
   rw[hq];exact iA.o
  ·have ay:((e:Int)==0)=false:=by rw[Van];omega
   have tJ:decide ((T,e)=(toL s,0))=false:=by
    rw[Vbq,Prod.mk.injEq];exact λh=>he h.2
   rw[tJ] at iA;clear hd tJ;go_wp2;rw[jR.o];refine bodyPost_ret (by simp[results,Tryz.results149,go_sem,u0,u1,u2];try rfl) rfl ?_;exact iA.o
def CRes (w w':World) (o:Option Num) (x:Ending):Prop:=∃b0 A l c e,x=.returned (.tuple #[.agg #[.bool b0,.slice A l c,.int .i64 e],.bool o.isSome])/\Below w.heap.size w w'/\∀n,o=some n->NV w' (.agg #[.bool b0,.slice A l c,.int .i64 e]) n
theorem cres {w w':World} {o:Option Num} {x:Ending} (h:Zc3 w w' o x):CRes w w' o x:=by
 obtain⟨v,b,rfl,hb,⟨b0,A,l,c,e,rfl⟩,hm⟩:=h;match o,hm with
 |none,hm=>subst hm;exact⟨b0,A,l,c,e,rfl,hb,λn h=>by cases h⟩
 |some m,hm=>
  obtain⟨rfl,h2,h3⟩:=hm;exact⟨b0,A,l,c,e,rfl,hb,λn h=>by injection h with h;subst h;exact h2⟩
theorem pcan (s:ByteArray) {w:World} (ht:Tab w):Calls Tryz.prog 149 #[.string s] w λx w'=>CRes w w' (canN (toL s)) x:=(Z9C s ht).mono λx w' h=>cres h
theorem Z9D (s:ByteArray) {w:World} (ht:Tab w):
  Calls Tryz.prog 99 #[.string s] w λx w'=>x=.returned (.bool (Z6 (toL s)))/\Below w.heap.size w w':=by
 have Hc:=h_ (pcan s ht);have hv:(canN (toL s)).isSome=Z6 (toL s):=rfl;clear ht;generalize canN (toL s)=o at*;have Hv:=h_ hv;clear hv;go_enter Tryz.func99,Tryz.ntmps99;go_wp2_with fail;refine(Hc.o).mono ?_;rintro x w1 ⟨b0,A,l,c,e,rfl,hb,_⟩;have Hb:=h_ (hb.alloc hb.size (.cells #[.bool b0,.slice A l c,.int .i64 e] 197));clear hb;go_wp2;go_returns;exact⟨Zb0 Hv.o,Hb.o⟩
open Wv.Vi Wv.Bc Wv.Sn
theorem Zhf {w:World} {n:Int} {kc:Array Value} (h:KdR w n kc) (hn:n<0\/4<=n):kc=zkC:=by
 rcases h with ⟨_,h⟩|⟨h0,h1,_⟩
 ·exact h
 ·omega
theorem kd0 {w:World} {kc:Array Value} (h:KdR w 0 kc):∃b,kc= #[.int .i64 1,.int .i64 128,.func (.func 75) #[] #[],.func (.func 94) #[] #[],.func (.func 96) #[] #[],.func (.func 97) #[] #[],.string ⟨#[98]⟩]/\Bk w b 9 #[.string ⟨#[]⟩]:=by
 rcases h with ⟨h,_⟩|⟨_,_,b,h1,h2⟩
 ·omega
 ·exact⟨b,h1,h2⟩
theorem kd1 {w:World} {kc:Array Value} (h:KdR w 1 kc):∃b,kc= #[.int .i64 0,.int .i64 0,.func (.func 98) #[] #[],.func (.func 150) #[] #[.pointer (some ⟨b,0,none⟩)],.func (.func 101) #[] #[],.func (.func 103) #[] #[],.string ⟨#[114]⟩]/\Bk w b 9 #[.string ⟨#[48]⟩]:=by
 rcases h with ⟨h,_⟩|⟨_,_,b,h1,h2⟩
 ·omega
 ·exact⟨b,h1,h2⟩
theorem kd2 {w:World} {kc:Array Value} (h:KdR w 2 kc):∃b,kc= #[.int .i64 0,.int .i64 0,.func (.func 104) #[] #[],.func (.func 150) #[] #[.pointer (some ⟨b,0,none⟩)],.func (.func 105) #[] #[],.func (.func 107) #[] #[],.string ⟨#[115]⟩]/\Bk w b 9 #[.string ⟨#[]⟩]:=by
 rcases h with ⟨h,_⟩|⟨_,_,b,h1,h2⟩
 ·omega
 ·exact⟨b,h1,h2⟩
theorem kd3 {w:World} {kc:Array Value} (h:KdR w 3 kc):∃b,kc= #[.int .i64 0,.int .i64 0,.func (.func 108) #[] #[],.func (.func 150) #[] #[.pointer (some ⟨b,0,none⟩)],.func (.func 109) #[] #[],.func (.func 110) #[] #[],.string ⟨#[]⟩]/\Bk w b 9 #[.string ⟨#[]⟩]:=by
 rcases h with ⟨h,_⟩|⟨_,_,b,h1,h2⟩
 ·omega
 ·exact⟨b,h1,h2⟩
theorem Z3c (W:Int) (v:List UInt8) (hv:v.length<=1099511627776) (w:World):
  Calls Tryz.prog 75 #[.int .i64 W,.string (bs v)] w λx w'=>x=.returned (.bool (vld W v))/\Below w.heap.size w w':=by
 have Hi:=h_ (Z1P v hv w);have ad:(bs v).size=v.length:=Z0 v;have bm:vld W v=(isV v&&decide ((v.length:Int)=W)):=rfl;cases hi:isV v with
 |false=>
  rw[hi] at Hi bm;have HV:=h_ bm;clear ad bm hi;generalize bs v=S at*;go_enter Tryz.func75,Tryz.ntmps75;go_wp2_with fail;refine(Hi.o).mono ?_;rintro x w1 ⟨rfl,a7⟩;go_wp2;go_returns;exact⟨Z2 (by rw[HV.o];rfl),a7⟩
 |true=>
  rw[hi] at Hi bm;have HV:=h_ bm
  have HS:Hid ((((bs v).size:Int)==W)=vld W v):=h_ (by
   rw[bm,ad,Bool.true_and,Vbl,beq_iff_eq,Vaq])
  clear ad bm hi;generalize bs v=S at*;go_enter Tryz.func75,Tryz.ntmps75;go_wp2_with fail;refine(Hi.o).mono ?_;rintro x w1 ⟨rfl,a7⟩;go_wp2;go_returns;exact⟨Z2 HS.o,a7⟩
theorem ZkJ (n:Int) (v:List UInt8) {w:World} (ht:Tab w):
  Calls Tryz.prog 98 #[.int .i64 n,.string (bs v)] w λx w'=>x=.returned (.bool (Z6 v))/\Below w.heap.size w w':=by
 have H:=h_ (Z9D (bs v) ht);rw[Zd] at H;clear ht;generalize bs v=S at*;go_enter Tryz.func98,Tryz.ntmps98;go_wp2_with fail;refine(H.o).mono ?_;rintro x w1 ⟨rfl,a7⟩;go_wp2;go_returns;exact⟨rfl,a7⟩
theorem ZkK (n:Int) (v:List UInt8) (w:World):
  Calls Tryz.prog 104 #[.int .i64 n,.string (bs v)] w λx w'=>x=.returned (.bool (decide (v.length<=64)))/\Below w.heap.size w w':=by
 have ad:(bs v).size=v.length:=Z0 v;have HS:Hid (decide (((bs v).size:Int)<=64)=decide (v.length<=64)):=h_ (by rw[ad];simp only[decide_eq_decide];omega);clear ad;generalize bs v=S at*;go_enter Tryz.func104,Tryz.ntmps104;go_wp2;go_returns;exact⟨Z2 HS.o,Vae _ _⟩
theorem ZkL (n:Int) (v:List UInt8) (w:World):
  Calls Tryz.prog 108 #[.int .i64 n,.string (bs v)] w λx w'=>x=.returned (.bool (decide (v=[])))/\Below w.heap.size w w':=by
 have HS:=h_ (Xk v);generalize bs v=S at*;go_enter Tryz.func108,Tryz.ntmps108;go_wp2;go_returns;exact⟨Z2 HS.o,Vae _ _⟩
theorem Z2j (n wd:Int) (w:World):
  Calls Tryz.prog 24 #[.int .i64 n,.int .i64 wd] w λx w'=>x=.returned (.bool (tyB (n,wd)))/\Below w.heap.size w w':=by
 have eP:=h_ (ZbV n wd w);generalize tyB (n,wd)=B at*;by_cases bx:n<0\/4<=n
 ·have Ho:=h_ bx;clear bx;go_enter Tryz.func24,Tryz.ntmps24;go_wp2_with fail;refine(eP.o).mono ?_;rintro x w1 ⟨kc,rfl,hk,a7⟩;have:=Zhf hk Ho.o;subst this;have Hb:=h_ (a7.alloc a7.size (.cells zkC 84));unfold zkC at*;clear hk a7;go_wp2;go_returns;exact⟨rfl,Hb.o⟩
 ·have bf:n=0\/n=1\/n=2\/n=3:=(by omega);rcases bf with rfl|rfl|rfl|rfl
  ·clear bx;go_enter Tryz.func24,Tryz.ntmps24;go_wp2_with fail;refine(eP.o).mono ?_;rintro x w1 ⟨kc,rfl,hk,a7⟩;obtain⟨b,rfl,hB⟩:=kd0 hk;have Hb:=h_ (a7.alloc a7.size (.cells #[.int .i64 1,.int .i64 128,.func (.func 75) #[] #[],.func (.func 94) #[] #[],.func (.func 96) #[] #[],.func (.func 97) #[] #[],.string ⟨#[98]⟩] 84));clear hk a7 hB;go_wp2;go_returns;exact⟨rfl,Hb.o⟩
  ·clear bx;go_enter Tryz.func24,Tryz.ntmps24;go_wp2_with fail;refine(eP.o).mono ?_;rintro x w1 ⟨kc,rfl,hk,a7⟩;obtain⟨b,rfl,hB⟩:=kd1 hk;have Hb:=h_ (a7.alloc a7.size (.cells #[.int .i64 0,.int .i64 0,.func (.func 98) #[] #[],.func (.func 150) #[] #[.pointer (some ⟨b,0,none⟩)],.func (.func 101) #[] #[],.func (.func 103) #[] #[],.string ⟨#[114]⟩] 84));clear hk a7 hB;go_wp2;go_returns;exact⟨rfl,Hb.o⟩
  ·clear bx;go_enter Tryz.func24,Tryz.ntmps24;go_wp2_with fail;refine(eP.o).mono ?_;rintro x w1 ⟨kc,rfl,hk,a7⟩;obtain⟨b,rfl,hB⟩:=kd2 hk;have Hb:=h_ (a7.alloc a7.size (.cells #[.int .i64 0,.int .i64 0,.func (.func 104) #[] #[],.func (.func 150) #[] #[.pointer (some ⟨b,0,none⟩)],.func (.func 105) #[] #[],.func (.func 107) #[] #[],.string ⟨#[115]⟩] 84));clear hk a7 hB;go_wp2;go_returns;exact⟨rfl,Hb.o⟩
  ·clear bx;go_enter Tryz.func24,Tryz.ntmps24;go_wp2_with fail;refine(eP.o).mono ?_;rintro x w1 ⟨kc,rfl,hk,a7⟩;obtain⟨b,rfl,hB⟩:=kd3 hk;have Hb:=h_ (a7.alloc a7.size (.cells #[.int .i64 0,.int .i64 0,.func (.func 108) #[] #[],.func (.func 150) #[] #[.pointer (some ⟨b,0,none⟩)],.func (.func 109) #[] #[],.func (.func 110) #[] #[],.string ⟨#[]⟩] 84));clear hk a7 hB;go_wp2;go_returns;exact⟨rfl,Hb.o⟩
theorem Z9E (n wd:Int) (v:List UInt8) (hv:v.length<=1099511627776) {w:World} (ht:Tab w):
  Calls Tryz.prog 25 #[.int .i64 n,.int .i64 wd,.string (bs v)] w λx w'=>x=.returned (.bool (vaB Z6 (n,wd) v))/\Below w.heap.size w w':=by
 have eP:=h_ (ZbV n wd w);have eO:vaB Z6 (n,wd) v=(tyB (n,wd)&&kvB Z6 n wd v):=rfl;by_cases bx:n<0\/4<=n
 ·have hty:=ZgX (wd:=wd) bx;have Ho:=h_ bx;rw[hty] at eP eO;have im:=h_ eO;clear bx hty eO;generalize bs v=S at*;go_enter Tryz.func25,Tryz.ntmps25;go_wp2_with fail;refine(eP.o).mono ?_;rintro x w1 ⟨kc,rfl,hk,a7⟩;have:=Zhf hk Ho.o;subst this;have Hb:=h_ (a7.alloc a7.size (.cells zkC 84));unfold zkC at*;clear hk a7;go_wp2;go_returns;exact⟨Z2 (by rw[im.o];rfl),Hb.o⟩
 ·have bf:n=0\/n=1\/n=2\/n=3:=(by omega);rcases bf with rfl|rfl|rfl|rfl
  ·clear bx;have Ht:=h_ ht;have Hc:=h_ (λ(W:World) (hW:Tab W)=>Z3c wd v hv W);have lU:kvB Z6 0 wd v=vld wd v:=rfl;rw[lU] at eO;clear lU ht;generalize vld wd v=R at*;clear hv;generalize bs v=S at*;cases hty:tyB (0,wd) with
   |false=>
    rw[hty] at eP eO;have im:=h_ eO;clear hty eO;go_enter Tryz.func25,Tryz.ntmps25;go_wp2_with fail;refine(eP.o).mono ?_;rintro x w1 ⟨kc,rfl,hk,a7⟩;obtain⟨b,rfl,hB⟩:=kd0 hk;have Hb:=h_ (a7.alloc a7.size (.cells #[.int .i64 1,.int .i64 128,.func (.func 75) #[] #[],.func (.func 94) #[] #[],.func (.func 96) #[] #[],.func (.func 97) #[] #[],.string ⟨#[98]⟩] 84));clear hk a7 hB;go_wp2;go_returns;exact⟨Z2 (by rw[im.o];rfl),Hb.o⟩
   |true=>
    rw[hty] at eP eO;have im:=h_ eO;clear hty eO;go_enter Tryz.func25,Tryz.ntmps25;go_wp2_with fail;refine(eP.o).mono ?_;rintro x w1 ⟨kc,rfl,hk,a7⟩;obtain⟨b,rfl,hB⟩:=kd0 hk;have Hb:=h_ (a7.alloc a7.size (.cells #[.int .i64 1,.int .i64 128,.func (.func 75) #[] #[],.func (.func 94) #[] #[],.func (.func 96) #[] #[],.func (.func 97) #[] #[],.string ⟨#[98]⟩] 84));clear hk a7 hB;go_wp2_with fail;refine(Hc.o _ (Ht.o.below Hb.o)).mono ?_;rintro x w2 ⟨rfl,a8⟩;have ak:=h_ (Hb.o.trans (a8.mono Hb.o.size));clear a8;go_wp2;go_returns;exact⟨Z2 (by rw[im.o];rfl),ak.o⟩
  ·clear bx;have Ht:=h_ ht;have Hc:=h_ (λ(W:World) (hW:Tab W)=>ZkJ wd v hW);have lU:kvB Z6 1 wd v=Z6 v:=rfl;rw[lU] at eO;clear lU ht;generalize Z6 v=R at*;clear hv;generalize bs v=S at*;cases hty:tyB (1,wd) with
   |false=>
    rw[hty] at eP eO;have im:=h_ eO;clear hty eO;go_enter Tryz.func25,Tryz.ntmps25;go_wp2_with fail;refine(eP.o).mono ?_;rintro x w1 ⟨kc,rfl,hk,a7⟩;obtain⟨b,rfl,hB⟩:=kd1 hk;have Hb:=h_ (a7.alloc a7.size (.cells #[.int .i64 0,.int .i64 0,.func (.func 98) #[] #[],.func (.func 150) #[] #[.pointer (some ⟨b,0,none⟩)],.func (.func 101) #[] #[],.func (.func 103) #[] #[],.string ⟨#[114]⟩] 84));clear hk a7 hB;go_wp2;go_returns;exact⟨Z2 (by rw[im.o];rfl),Hb.o⟩
   |true=>
    rw[hty] at eP eO;have im:=h_ eO;clear hty eO;go_enter Tryz.func25,Tryz.ntmps25;go_wp2_with fail;refine(eP.o).mono ?_;rintro x w1 ⟨kc,rfl,hk,a7⟩;obtain⟨b,rfl,hB⟩:=kd1 hk;have Hb:=h_ (a7.alloc a7.size (.cells #[.int .i64 0,.int .i64 0,.func (.func 98) #[] #[],.func (.func 150) #[] #[.pointer (some ⟨b,0,none⟩)],.func (.func 101) #[] #[],.func (.func 103) #[] #[],.string ⟨#[114]⟩] 84));clear hk a7 hB;go_wp2_with fail;refine(Hc.o _ (Ht.o.below Hb.o)).mono ?_;rintro x w2 ⟨rfl,a8⟩;have ak:=h_ (Hb.o.trans (a8.mono Hb.o.size));clear a8;go_wp2;go_returns;exact⟨Z2 (by rw[im.o];rfl),ak.o⟩
  ·clear bx;have Ht:=h_ ht;have Hc:=h_ (λ(W:World) (hW:Tab W)=>ZkK wd v W);have lU:kvB Z6 2 wd v=decide (v.length<=64):=rfl;rw[lU] at eO;clear lU ht;generalize decide (v.length<=64)=R at*;clear hv;generalize bs v=S at*;cases hty:tyB (2,wd) with
   |false=>
    rw[hty] at eP eO;have im:=h_ eO;clear hty eO;go_enter Tryz.func25,Tryz.ntmps25;go_wp2_with fail;refine(eP.o).mono ?_;rintro x w1 ⟨kc,rfl,hk,a7⟩;obtain⟨b,rfl,hB⟩:=kd2 hk;have Hb:=h_ (a7.alloc a7.size (.cells #[.int .i64 0,.int .i64 0,.func (.func 104) #[] #[],.func (.func 150) #[] #[.pointer (some ⟨b,0,none⟩)],.func (.func 105) #[] #[],.func (.func 107) #[] #[],.string ⟨#[115]⟩] 84));clear hk a7 hB;go_wp2;go_returns;exact⟨Z2 (by rw[im.o];rfl),Hb.o⟩
   |true=>
    rw[hty] at eP eO;have im:=h_ eO;clear hty eO;go_enter Tryz.func25,Tryz.ntmps25;go_wp2_with fail;refine(eP.o).mono ?_;rintro x w1 ⟨kc,rfl,hk,a7⟩;obtain⟨b,rfl,hB⟩:=kd2 hk;have Hb:=h_ (a7.alloc a7.size (.cells #[.int .i64 0,.int .i64 0,.func (.func 104) #[] #[],.func (.func 150) #[] #[.pointer (some ⟨b,0,none⟩)],.func (.func 105) #[] #[],.func (.func 107) #[] #[],.string ⟨#[115]⟩] 84));clear hk a7 hB;go_wp2_with fail;refine(Hc.o _ (Ht.o.below Hb.o)).mono ?_;rintro x w2 ⟨rfl,a8⟩;have ak:=h_ (Hb.o.trans (a8.mono Hb.o.size));clear a8;go_wp2;go_returns;exact⟨Z2 (by rw[im.o];rfl),ak.o⟩
  ·clear bx;have Ht:=h_ ht;have Hc:=h_ (λ(W:World) (hW:Tab W)=>ZkL wd v W);have lU:kvB Z6 3 wd v=decide (v=[]):=rfl;rw[lU] at eO;clear lU ht;generalize decide (v=[])=R at*;clear hv;generalize bs v=S at*;cases hty:tyB (3,wd) with
   |false=>
    rw[hty] at eP eO;have im:=h_ eO;clear hty eO;go_enter Tryz.func25,Tryz.ntmps25;go_wp2_with fail;refine(eP.o).mono ?_;rintro x w1 ⟨kc,rfl,hk,a7⟩;obtain⟨b,rfl,hB⟩:=kd3 hk;have Hb:=h_ (a7.alloc a7.size (.cells #[.int .i64 0,.int .i64 0,.func (.func 108) #[] #[],.func (.func 150) #[] #[.pointer (some ⟨b,0,none⟩)],.func (.func 109) #[] #[],.func (.func 110) #[] #[],.string ⟨#[]⟩] 84));clear hk a7 hB;go_wp2;go_returns;exact⟨Z2 (by rw[im.o];rfl),Hb.o⟩
   |true=>
    rw[hty] at eP eO;have im:=h_ eO;clear hty eO;go_enter Tryz.func25,Tryz.ntmps25;go_wp2_with fail;refine(eP.o).mono ?_;rintro x w1 ⟨kc,rfl,hk,a7⟩;obtain⟨b,rfl,hB⟩:=kd3 hk;have Hb:=h_ (a7.alloc a7.size (.cells #[.int .i64 0,.int .i64 0,.func (.func 108) #[] #[],.func (.func 150) #[] #[.pointer (some ⟨b,0,none⟩)],.func (.func 109) #[] #[],.func (.func 110) #[] #[],.string ⟨#[]⟩] 84));clear hk a7 hB;go_wp2_with fail;refine(Hc.o _ (Ht.o.below Hb.o)).mono ?_;rintro x w2 ⟨rfl,a8⟩;have ak:=h_ (Hb.o.trans (a8.mono Hb.o.size));clear a8;go_wp2;go_returns;exact⟨Z2 (by rw[im.o];rfl),ak.o⟩
end Go.Proofs.YtchokmkfobandaaGreatDoor
