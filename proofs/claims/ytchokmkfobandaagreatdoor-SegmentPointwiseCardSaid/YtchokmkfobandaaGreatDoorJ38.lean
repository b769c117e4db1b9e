import Derived.Test.YtchokmkfobandaaGreatDoorJ20
import Derived.Test.YtchokmkfobandaaGreatDoorJ36
set_option linter.unusedVariables false
set_option linter.unusedSimpArgs false
set_option maxRecDepth 100000
set_option maxHeartbeats 8000000
namespace Go.Proofs.YtchokmkfobandaaGreatDoor
open Go.RowKit Go.Proofs Wv Wv.Dc
theorem Zoa {a b:ByteArray} :(a.toList==b.toList)=decide (a=b):=by
 rw[Bool.eq_iff_iff,beq_iff_eq,decide_eq_true_iff,ByteArray.toList_eq,ByteArray.toList_eq];constructor
 ·intro h;apply ByteArray.ext;apply Array.toList_inj.1;exact h
 ·intro h;rw[h]
theorem ZjO (s:List UInt8):canN s=match (scn cl1 s).map Z28 with
  |none=>none
  |some n=>if Z29 n=(s,0) then some n else none:=by
 unfold canN;match scn cl1 s with
 |none=>rfl
 |some m=>rfl
theorem Zdu (s:ByteArray) {w:World} (ht:Tab w):
  Calls Tryz.prog 149 #[.string s] w λx w'=>ZfW w w' (canN (toL s)) x:=by
 have Hs:=h_ (λW=>ZfY s W);have Ht:=h_ ht;have hd:=ZjO (toL s);obtain⟨R,hR⟩:∃R,canN (toL s)=R:=⟨_,rfl⟩;rw[hR] at hd⊢;have aA:=(Below.refl w.heap.size w).alloc (Nat.le_refl _) (.cells #[.bool false,.slice none 0 0,.int .i64 0] 197);have bU:=Bk.new w 197 #[.bool false,.slice none 0 0,.int .i64 0];have aI:=h_ aA;have dw:=h_ bU;clear ht hR aA bU;cases ho:(scn cl1 (toL s)).map Z28 with
 |none=>
  rw[ho] at Hs hd;simp only at hd;subst hd;clear ho;go_enter Tryz.func149,Tryz.ntmps149;go_wp2_with fail;refine((Hs.o _).mono ?_);rintro x w1 ⟨v,b,rfl,hb,⟨b0,A0,l0,k0,e0,rfl⟩,rfl⟩;have aP:=dw.o.below hb dw.o.lt;have r0:=aP.cell 0;have r1:=aP.cell 1;have r2:=aP.cell 2;have g0:=aP.frozen 0;have g1:=aP.frozen 1;have g2:=aP.frozen 2;have ab:=aP.lt;simp at r0 r1 r2;have an:=h_ (aI.o.trans (hb.mono aI.o.size));obtain⟨WF,gj,u0,u1,u2,gC,eo⟩:=Z3s aP an.o (Nat.le_refl _) (L:=[]) (At.nil _ none) false (.slice none 0 0) 0;have jK:=h_ gj;have jY:=(Below.refl WF.heap.size WF).alloc (Nat.le_refl _) (.cells #[.bool b0,.slice A0 l0 k0,.int .i64 e0] 197);have v0:=Z1z u0 jY;have v1:=Z1z u1 jY;have v2:=Z1z u2 jY;have gD:=h_ (eo.trans (jY.mono eo.size));obtain⟨WG,IX⟩:∃WG,WF.alloc (.cells #[.bool b0,.slice A0 l0 k0,.int .i64 e0] 197)=WG:=⟨_,rfl⟩;rw[IX] at v0 v1 v2 gD;have SO:=h_ IX;clear hb aP gj gC eo jY u0 u1 u2 IX;go_wp2;rw[jK.o,SO.o];refine bodyPost_ret (by simp[results,Tryz.results149,go_sem,v0,v1,v2];try rfl) rfl ?_;exact⟨_,_,rfl,gD.o,⟨_,_,_,_,_,rfl⟩,rfl⟩
 |some n=>
  rw[ho] at Hs hd;simp only at hd;clear ho;go_enter Tryz.func149,Tryz.ntmps149;go_wp2_with fail;refine((Hs.o _).mono ?_);rintro x w1 ⟨v,b,rfl,hb,_,rfl,hn,hz⟩;have aP:=dw.o.below hb dw.o.lt;have a7:=aI.o.trans (hb.mono aI.o.size);obtain⟨A,cap,rfl,ak,bY,dF⟩:=hn;obtain⟨bn,dn,en⟩:=n;simp only at ak bY dF;have mz:=a7.alloc a7.size (.cells #[.bool bn,.slice A dn.length cap,.int .i64 en] 197);have zh:NV (w1.alloc (.cells #[.bool bn,.slice A dn.length cap,.int .i64 en] 197)) (.agg #[.bool bn,.slice A dn.length cap,.int .i64 en]) ⟨bn,dn,en⟩:=⟨A,cap,rfl,ak.alloc _,bY,dF⟩;have gq:=h_ (ZfV zh hz (Ht.o.below mz));have cE:=aP.alloc (.cells #[.bool bn,.slice A dn.length cap,.int .i64 en] 197);have dN:=Bk.new w1 197 #[.bool bn,.slice A dn.length cap,.int .i64 en];have ab:=aP.lt;have nW:=h_ cE;have rh:=h_ dN;have IY:=h_ mz;have bd:=h_ ak;have fy:=h_ bY;have gX:=h_ dF;have Hz:=h_ hz;have Hd:=h_ hd;clear hb aP a7 ak bY dF mz zh cE dN hz hd;go_wp2_with fail;refine(gq.o).mono ?_;rintro x w3 ⟨rfl,ae⟩;have eD:=nW.o.below ae nW.o.lt;have nS:=rh.o.below ae rh.o.lt;have aw:=IY.o.trans (ae.mono IY.o.size);have n0:=nS.cell 0;have n1:=nS.cell 1;have n2:=nS.cell 2;have r0:=eD.cell 0;have r1:=eD.cell 1;have r2:=eD.cell 2;have g0:=eD.frozen 0;have g1:=eD.frozen 1;have g2:=eD.frozen 2;simp at n0 n1 n2 r0 r1 r2;have bH:=(bd.o.alloc (.cells #[.bool bn,.slice A dn.length cap,.int .i64 en] 197)).below ae;obtain⟨WF,gj,u0,u1,u2,gC,eo⟩:=Z3s eD aw (Nat.le_refl _) bH bn (.slice A dn.length cap) en;have jK:=h_ gj;have pa:=h_ gC;have gD:=h_ eo;obtain⟨T,e,hT⟩:∃T e,Z29 ⟨bn,dn,en⟩=(T,e):=⟨_,_,rfl⟩;have hd:=Hd.o;rw[hT] at hd;rw[hT];have IZ:=h_ (@Zoa (bs T) s);clear ae eD nS aw gj gC eo bH Hd gq bd nW rh IY Hs hT
  have il:Hid (ZfW w WF R (.returned (.tuple #[.agg #[.bool bn,.slice A dn.length cap,.int .i64 en],.bool (decide ((T,e)=(toL s,0)))]))):=h_ (by
   refine⟨_,_,rfl,gD.o,⟨_,_,_,_,_,rfl⟩,?_⟩;by_cases hq:(T,e)=(toL s,0)
   ·rw[hd,if_pos hq];exact⟨by simpa using hq,⟨A,cap,rfl,pa.o,fy.o,gX.o⟩,Hz.o⟩
   ·rw[hd,if_neg hq];simpa using hq)
  by_cases he:e=0
  ·subst he;clear hd;go_wp2;rw[jK.o];refine bodyPost_ret (by simp[results,Tryz.results149,go_sem,u0,u1,u2];try rfl) rfl ?_
   have hq:((bs T).toList==s.toList)=decide ((T,0)=(toL s,0)):=by
    rw[IZ.o,Bool.eq_iff_iff,decide_eq_true_iff,decide_eq_true_iff,Prod.mk.injEq];constructor
    ·intro h;exact⟨by rw[<-h];rfl,rfl⟩
    ·intro h;rw[h.1];rfl
   rw[hq];exact il.o
  ·have ay:((e:Int)==0)=false:=by rw[beq_eq_false_iff_ne];omega
   have sS:decide ((T,e)=(toL s,0))=false:=by
    rw[decide_eq_false_iff_not,Prod.mk.injEq];exact λh=>he h.2
   rw[sS] at il;clear hd sS;go_wp2;rw[jK.o];refine bodyPost_ret (by simp[results,Tryz.results149,go_sem,u0,u1,u2];try rfl) rfl ?_;exact il.o
def CRes (w w':World) (o:Option Num) (x:Ending):Prop:=∃b0 A l c e,x=.returned (.tuple #[.agg #[.bool b0,.slice A l c,.int .i64 e],.bool o.isSome])/\Below w.heap.size w w'/\∀n,o=some n->NV w' (.agg #[.bool b0,.slice A l c,.int .i64 e]) n
theorem cres {w w':World} {o:Option Num} {x:Ending} (h:ZfW w w' o x):CRes w w' o x:=by
 obtain⟨v,b,rfl,hb,⟨b0,A,l,c,e,rfl⟩,hm⟩:=h;match o,hm with
 |none,hm=>subst hm;exact⟨b0,A,l,c,e,rfl,hb,λn h=>by cases h⟩
 |some m,hm=>
  obtain⟨rfl,h2,h3⟩:=hm;exact⟨b0,A,l,c,e,rfl,hb,λn h=>by injection h with h;subst h;exact h2⟩
theorem pcan (s:ByteArray) {w:World} (ht:Tab w):Calls Tryz.prog 149 #[.string s] w λx w'=>CRes w w' (canN (toL s)) x:=(Zdu s ht).mono λx w' h=>cres h
theorem Zdv (s:ByteArray) {w:World} (ht:Tab w):
  Calls Tryz.prog 99 #[.string s] w λx w'=>x=.returned (.bool (Z0u (toL s)))/\Below w.heap.size w w':=by
 have Hc:=h_ (pcan s ht);have hv:(canN (toL s)).isSome=Z0u (toL s):=rfl;clear ht;generalize canN (toL s)=o at*;have Hv:=h_ hv;clear hv;go_enter Tryz.func99,Tryz.ntmps99;go_wp2_with fail;refine(Hc.o).mono ?_;rintro x w1 ⟨b0,A,l,c,e,rfl,hb,_⟩;have Hb:=h_ (hb.alloc hb.size (.cells #[.bool b0,.slice A l c,.int .i64 e] 197));clear hb;go_wp2;go_returns;exact⟨ZeT Hv.o,Hb.o⟩
open Wv.Vi Wv.Bc Wv.Sn
theorem ZkL {w:World} {n:Int} {kc:Array Value} (h:KdR w n kc) (hn:n<0\/4<=n):kc=zkC:=by
 rcases h with ⟨_,h⟩|⟨h0,h1,_⟩
 ·exact h
 ·omega
theorem kd0 {w:World} {kc:Array Value} (h:KdR w 0 kc):∃b,kc= #[.int .i64 1,.int .i64 128,.func (.func 75) #[] #[],.func (.func 94) #[] #[],.func (.func 96) #[] #[],.func (.func 97) #[] #[],.string ⟨#[98]⟩]/\Bk w b 9 #[.string ⟨#[]⟩]:=by
 rcases h with ⟨h,_⟩|⟨_,_,b,h1,h2⟩
 ·omega
 ·exact⟨b,h1,h2⟩
theorem kd1 {w:World} {kc:Array Value} (h:KdR w 1 kc):∃b,kc= #[.int .i64 0,.int .i64 0,.func (.func 98) #[] #[],.func (.func 150) #[] #[.pointer (some ⟨b,0,none⟩)],.func (.func 101) #[] #[],.func (.func 103) #[] #[],.string ⟨#[114]⟩]/\Bk w b 9 #[.string ⟨#[48]⟩]:=by
 rcases h with ⟨h,_⟩|⟨_,_,b,h1,h2⟩
 ·omega
 ·exact⟨b,h1,h2⟩
theorem kd2 {w:World} {kc:Array Value} (h:KdR w 2 kc):∃b,kc= #[.int .i64 0,.int .i64 0,.func (.func 104) #[] #[],.func (.func 150) #[] #[.pointer (some ⟨b,0,none⟩)],.func (.func 105) #[] #[],.func (.func 107) #[] #[],.string ⟨#[115]⟩]/\Bk w b 9 #[.string ⟨#[]⟩]:=by
 rcases h with ⟨h,_⟩|⟨_,_,b,h1,h2⟩
 ·omega
 ·exact⟨b,h1,h2⟩
theorem kd3 {w:World} {kc:Array Value} (h:KdR w 3 kc):∃b,kc= #[.int .i64 0,.int .i64 0,.func (.func 108) #[] #[],.func (.func 150) #[] #[.pointer (some ⟨b,0,none⟩)],.func (.func 109) #[] #[],.func (.func 110) #[] #[],.string ⟨#[]⟩]/\Bk w b 9 #[.string ⟨#[]⟩]:=by
 rcases h with ⟨h,_⟩|⟨_,_,b,h1,h2⟩
 ·omega
 ·exact⟨b,h1,h2⟩
theorem Z6Y (W:Int) (v:List UInt8) (hv:v.length<=1099511627776) (w:World):
  Calls Tryz.prog 75 #[.int .i64 W,.string (bs v)] w λx w'=>x=.returned (.bool (vld W v))/\Below w.heap.size w w':=by
 have Hi:=h_ (Z5G v hv w);have ad:(bs v).size=v.length:=Z00 v;have bj:vld W v=(isV v&&decide ((v.length:Int)=W)):=rfl;cases hi:isV v with
 |false=>
  rw[hi] at Hi bj;have HV:=h_ bj;clear ad bj hi;generalize bs v=S at*;go_enter Tryz.func75,Tryz.ntmps75;go_wp2_with fail;refine(Hi.o).mono ?_;rintro x w1 ⟨rfl,a7⟩;go_wp2;go_returns;exact⟨Z03 (by rw[HV.o];rfl),a7⟩
 |true=>
  rw[hi] at Hi bj;have HV:=h_ bj
  have HS:Hid ((((bs v).size:Int)==W)=vld W v):=h_ (by
   rw[bj,ad,Bool.true_and,Bool.eq_iff_iff,beq_iff_eq,decide_eq_true_iff])
  clear ad bj hi;generalize bs v=S at*;go_enter Tryz.func75,Tryz.ntmps75;go_wp2_with fail;refine(Hi.o).mono ?_;rintro x w1 ⟨rfl,a7⟩;go_wp2;go_returns;exact⟨Z03 HS.o,a7⟩
theorem Zob (n:Int) (v:List UInt8) {w:World} (ht:Tab w):
  Calls Tryz.prog 98 #[.int .i64 n,.string (bs v)] w λx w'=>x=.returned (.bool (Z0u v))/\Below w.heap.size w w':=by
 have H:=h_ (Zdv (bs v) ht);rw[Z0d] at H;clear ht;generalize bs v=S at*;go_enter Tryz.func98,Tryz.ntmps98;go_wp2_with fail;refine(H.o).mono ?_;rintro x w1 ⟨rfl,a7⟩;go_wp2;go_returns;exact⟨rfl,a7⟩
theorem Zoc (n:Int) (v:List UInt8) (w:World):
  Calls Tryz.prog 104 #[.int .i64 n,.string (bs v)] w λx w'=>x=.returned (.bool (decide (v.length<=64)))/\Below w.heap.size w w':=by
 have ad:(bs v).size=v.length:=Z00 v;have HS:Hid (decide (((bs v).size:Int)<=64)=decide (v.length<=64)):=h_ (by rw[ad];simp only[decide_eq_decide];omega);clear ad;generalize bs v=S at*;go_enter Tryz.func104,Tryz.ntmps104;go_wp2;go_returns;exact⟨Z03 HS.o,Below.refl _ _⟩
theorem Zod (n:Int) (v:List UInt8) (w:World):
  Calls Tryz.prog 108 #[.int .i64 n,.string (bs v)] w λx w'=>x=.returned (.bool (decide (v=[])))/\Below w.heap.size w w':=by
 have HS:=h_ (Z2i v);generalize bs v=S at*;go_enter Tryz.func108,Tryz.ntmps108;go_wp2;go_returns;exact⟨Z03 HS.o,Below.refl _ _⟩
theorem Zh2 (n wd:Int) (w:World):
  Calls Tryz.prog 24 #[.int .i64 n,.int .i64 wd] w λx w'=>x=.returned (.bool (tyB (n,wd)))/\Below w.heap.size w w':=by
 have eF:=h_ (ZfO n wd w);generalize tyB (n,wd)=B at*;by_cases bp:n<0\/4<=n
 ·have Ho:=h_ bp;clear bp;go_enter Tryz.func24,Tryz.ntmps24;go_wp2_with fail;refine(eF.o).mono ?_;rintro x w1 ⟨kc,rfl,hk,a7⟩;have:=ZkL hk Ho.o;subst this;have Hb:=h_ (a7.alloc a7.size (.cells zkC 84));unfold zkC at*;clear hk a7;go_wp2;go_returns;exact⟨rfl,Hb.o⟩
 ·have bu:n=0\/n=1\/n=2\/n=3:=(by omega);rcases bu with rfl|rfl|rfl|rfl
  ·clear bp;go_enter Tryz.func24,Tryz.ntmps24;go_wp2_with fail;refine(eF.o).mono ?_;rintro x w1 ⟨kc,rfl,hk,a7⟩;obtain⟨b,rfl,hB⟩:=kd0 hk;have Hb:=h_ (a7.alloc a7.size (.cells #[.int .i64 1,.int .i64 128,.func (.func 75) #[] #[],.func (.func 94) #[] #[],.func (.func 96) #[] #[],.func (.func 97) #[] #[],.string ⟨#[98]⟩] 84));clear hk a7 hB;go_wp2;go_returns;exact⟨rfl,Hb.o⟩
  ·clear bp;go_enter Tryz.func24,Tryz.ntmps24;go_wp2_with fail;refine(eF.o).mono ?_;rintro x w1 ⟨kc,rfl,hk,a7⟩;obtain⟨b,rfl,hB⟩:=kd1 hk;have Hb:=h_ (a7.alloc a7.size (.cells #[.int .i64 0,.int .i64 0,.func (.func 98) #[] #[],.func (.func 150) #[] #[.pointer (some ⟨b,0,none⟩)],.func (.func 101) #[] #[],.func (.func 103) #[] #[],.string ⟨#[114]⟩] 84));clear hk a7 hB;go_wp2;go_returns;exact⟨rfl,Hb.o⟩
  ·clear bp;go_enter Tryz.func24,Tryz.ntmps24;go_wp2_with fail;refine(eF.o).mono ?_;rintro x w1 ⟨kc,rfl,hk,a7⟩;obtain⟨b,rfl,hB⟩:=kd2 hk;have Hb:=h_ (a7.alloc a7.size (.cells #[.int .i64 0,.int .i64 0,.func (.func 104) #[] #[],.func (.func 150) #[] #[.pointer (some ⟨b,0,none⟩)],.func (.func 105) #[] #[],.func (.func 107) #[] #[],.string ⟨#[115]⟩] 84));clear hk a7 hB;go_wp2;go_returns;exact⟨rfl,Hb.o⟩
  ·clear bp;go_enter Tryz.func24,Tryz.ntmps24;go_wp2_with fail;refine(eF.o).mono ?_;rintro x w1 ⟨kc,rfl,hk,a7⟩;obtain⟨b,rfl,hB⟩:=kd3 hk;have Hb:=h_ (a7.alloc a7.size (.cells #[.int .i64 0,.int .i64 0,.func (.func 108) #[] #[],.func (.func 150) #[] #[.pointer (some ⟨b,0,none⟩)],.func (.func 109) #[] #[],.func (.func 110) #[] #[],.string ⟨#[]⟩] 84));clear hk a7 hB;go_wp2;go_returns;exact⟨rfl,Hb.o⟩
theorem Zdw (n wd:Int) (v:List UInt8) (hv:v.length<=1099511627776) {w:World} (ht:Tab w):
  Calls Tryz.prog 25 #[.int .i64 n,.int .i64 wd,.string (bs v)] w λx w'=>x=.returned (.bool (vaB Z0u (n,wd) v))/\Below w.heap.size w w':=by
 have eF:=h_ (ZfO n wd w);have eE:vaB Z0u (n,wd) v=(tyB (n,wd)&&kvB Z0u n wd v):=rfl;by_cases bp:n<0\/4<=n
 ·have hty:=Zkt (wd:=wd) bp;have Ho:=h_ bp;rw[hty] at eF eE;have gY:=h_ eE;clear bp hty eE;generalize bs v=S at*;go_enter Tryz.func25,Tryz.ntmps25;go_wp2_with fail;refine(eF.o).mono ?_;rintro x w1 ⟨kc,rfl,hk,a7⟩;have:=ZkL hk Ho.o;subst this;have Hb:=h_ (a7.alloc a7.size (.cells zkC 84));unfold zkC at*;clear hk a7;go_wp2;go_returns;exact⟨Z03 (by rw[gY.o];rfl),Hb.o⟩
 ·have bu:n=0\/n=1\/n=2\/n=3:=(by omega);rcases bu with rfl|rfl|rfl|rfl
  ·clear bp;have Ht:=h_ ht;have Hc:=h_ (λ(W:World) (hW:Tab W)=>Z6Y wd v hv W);have ly:kvB Z0u 0 wd v=vld wd v:=rfl;rw[ly] at eE;clear ly ht;generalize vld wd v=R at*;clear hv;generalize bs v=S at*;cases hty:tyB (0,wd) with
   |false=>
    rw[hty] at eF eE;have gY:=h_ eE;clear hty eE;go_enter Tryz.func25,Tryz.ntmps25;go_wp2_with fail;refine(eF.o).mono ?_;rintro x w1 ⟨kc,rfl,hk,a7⟩;obtain⟨b,rfl,hB⟩:=kd0 hk;have Hb:=h_ (a7.alloc a7.size (.cells #[.int .i64 1,.int .i64 128,.func (.func 75) #[] #[],.func (.func 94) #[] #[],.func (.func 96) #[] #[],.func (.func 97) #[] #[],.string ⟨#[98]⟩] 84));clear hk a7 hB;go_wp2;go_returns;exact⟨Z03 (by rw[gY.o];rfl),Hb.o⟩
   |true=>
    rw[hty] at eF eE;have gY:=h_ eE;clear hty eE;go_enter Tryz.func25,Tryz.ntmps25;go_wp2_with fail;refine(eF.o).mono ?_;rintro x w1 ⟨kc,rfl,hk,a7⟩;obtain⟨b,rfl,hB⟩:=kd0 hk;have Hb:=h_ (a7.alloc a7.size (.cells #[.int .i64 1,.int .i64 128,.func (.func 75) #[] #[],.func (.func 94) #[] #[],.func (.func 96) #[] #[],.func (.func 97) #[] #[],.string ⟨#[98]⟩] 84));clear hk a7 hB;go_wp2_with fail;refine(Hc.o _ (Ht.o.below Hb.o)).mono ?_;rintro x w2 ⟨rfl,a8⟩;have al:=h_ (Hb.o.trans (a8.mono Hb.o.size));clear a8;go_wp2;go_returns;exact⟨Z03 (by rw[gY.o];rfl),al.o⟩
  ·clear bp;have Ht:=h_ ht;have Hc:=h_ (λ(W:World) (hW:Tab W)=>Zob wd v hW);have ly:kvB Z0u 1 wd v=Z0u v:=rfl;rw[ly] at eE;clear ly ht;generalize Z0u v=R at*;clear hv;generalize bs v=S at*;cases hty:tyB (1,wd) with
   |false=>
    rw[hty] at eF eE;have gY:=h_ eE;clear hty eE;go_enter Tryz.func25,Tryz.ntmps25;go_wp2_with fail;refine(eF.o).mono ?_;rintro x w1 ⟨kc,rfl,hk,a7⟩;obtain⟨b,rfl,hB⟩:=kd1 hk;have Hb:=h_ (a7.alloc a7.size (.cells #[.int .i64 0,.int .i64 0,.func (.func 98) #[] #[],.func (.func 150) #[] #[.pointer (some ⟨b,0,none⟩)],.func (.func 101) #[] #[],.func (.func 103) #[] #[],.string ⟨#[114]⟩] 84));clear hk a7 hB;go_wp2;go_returns;exact⟨Z03 (by rw[gY.o];rfl),Hb.o⟩
   |true=>
    rw[hty] at eF eE;have gY:=h_ eE;clear hty eE;go_enter Tryz.func25,Tryz.ntmps25;go_wp2_with fail;refine(eF.o).mono ?_;rintro x w1 ⟨kc,rfl,hk,a7⟩;obtain⟨b,rfl,hB⟩:=kd1 hk;have Hb:=h_ (a7.alloc a7.size (.cells #[.int .i64 0,.int .i64 0,.func (.func 98) #[] #[],.func (.func 150) #[] #[.pointer (some ⟨b,0,none⟩)],.func (.func 101) #[] #[],.func (.func 103) #[] #[],.string ⟨#[114]⟩] 84));clear hk a7 hB;go_wp2_with fail;refine(Hc.o _ (Ht.o.below Hb.o)).mono ?_;rintro x w2 ⟨rfl,a8⟩;have al:=h_ (Hb.o.trans (a8.mono Hb.o.size));clear a8;go_wp2;go_returns;exact⟨Z03 (by rw[gY.o];rfl),al.o⟩
  ·clear bp;have Ht:=h_ ht;have Hc:=h_ (λ(W:World) (hW:Tab W)=>Zoc wd v W);have ly:kvB Z0u 2 wd v=decide (v.length<=64):=rfl;rw[ly] at eE;clear ly ht;generalize decide (v.length<=64)=R at*;clear hv;generalize bs v=S at*;cases hty:tyB (2,wd) with
   |false=>
    rw[hty] at eF eE;have gY:=h_ eE;clear hty eE;go_enter Tryz.func25,Tryz.ntmps25;go_wp2_with fail;refine(eF.o).mono ?_;rintro x w1 ⟨kc,rfl,hk,a7⟩;obtain⟨b,rfl,hB⟩:=kd2 hk;have Hb:=h_ (a7.alloc a7.size (.cells #[.int .i64 0,.int .i64 0,.func (.func 104) #[] #[],.func (.func 150) #[] #[.pointer (some ⟨b,0,none⟩)],.func (.func 105) #[] #[],.func (.func 107) #[] #[],.string ⟨#[115]⟩] 84));clear hk a7 hB;go_wp2;go_returns;exact⟨Z03 (by rw[gY.o];rfl),Hb.o⟩
   |true=>
    rw[hty] at eF eE;have gY:=h_ eE;clear hty eE;go_enter Tryz.func25,Tryz.ntmps25;go_wp2_with fail;refine(eF.o).mono ?_;rintro x w1 ⟨kc,rfl,hk,a7⟩;obtain⟨b,rfl,hB⟩:=kd2 hk;have Hb:=h_ (a7.alloc a7.size (.cells #[.int .i64 0,.int .i64 0,.func (.func 104) #[] #[],.func (.func 150) #[] #[.pointer (some ⟨b,0,none⟩)],.func (.func 105) #[] #[],.func (.func 107) #[] #[],.string ⟨#[115]⟩] 84));clear hk a7 hB;go_wp2_with fail;refine(Hc.o _ (Ht.o.below Hb.o)).mono ?_;rintro x w2 ⟨rfl,a8⟩;have al:=h_ (Hb.o.trans (a8.mono Hb.o.size));clear a8;go_wp2;go_returns;exact⟨Z03 (by rw[gY.o];rfl),al.o⟩
  ·clear bp;have Ht:=h_ ht;have Hc:=h_ (λ(W:World) (hW:Tab W)=>Zod wd v W);have ly:kvB Z0u 3 wd v=decide (v=[]):=rfl;rw[ly] at eE;clear ly ht;generalize decide (v=[])=R at*;clear hv;generalize bs v=S at*;cases hty:tyB (3,wd) with
   |false=>
    rw[hty] at eF eE;have gY:=h_ eE;clear hty eE;go_enter Tryz.func25,Tryz.ntmps25;go_wp2_with fail;refine(eF.o).mono ?_;rintro x w1 ⟨kc,rfl,hk,a7⟩;obtain⟨b,rfl,hB⟩:=kd3 hk;have Hb:=h_ (a7.alloc a7.size (.cells #[.int .i64 0,.int .i64 0,.func (.func 108) #[] #[],.func (.func 150) #[] #[.pointer (some ⟨b,0,none⟩)],.func (.func 109) #[] #[],.func (.func 110) #[] #[],.string ⟨#[]⟩] 84));clear hk a7 hB;go_wp2;go_returns;exact⟨Z03 (by rw[gY.o];rfl),Hb.o⟩
   |true=>
    rw[hty] at eF eE;have gY:=h_ eE;clear hty eE;go_enter Tryz.func25,Tryz.ntmps25;go_wp2_with fail;refine(eF.o).mono ?_;rintro x w1 ⟨kc,rfl,hk,a7⟩;obtain⟨b,rfl,hB⟩:=kd3 hk;have Hb:=h_ (a7.alloc a7.size (.cells #[.int .i64 0,.int .i64 0,.func (.func 108) #[] #[],.func (.func 150) #[] #[.pointer (some ⟨b,0,none⟩)],.func (.func 109) #[] #[],.func (.func 110) #[] #[],.string ⟨#[]⟩] 84));clear hk a7 hB;go_wp2_with fail;refine(Hc.o _ (Ht.o.below Hb.o)).mono ?_;rintro x w2 ⟨rfl,a8⟩;have al:=h_ (Hb.o.trans (a8.mono Hb.o.size));clear a8;go_wp2;go_returns;exact⟨Z03 (by rw[gY.o];rfl),al.o⟩
end Go.Proofs.YtchokmkfobandaaGreatDoor
