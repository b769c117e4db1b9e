import Derived.Test.YtchokmkfobandaaGreatDoorM42
import Derived.Test.YtchokmkfobandaaGreatDoorM43
import Derived.Test.YtchokmkfobandaaGreatDoorM31
set_option linter.unusedVariables false
set_option linter.unusedSimpArgs false
set_option maxRecDepth 100000
set_option maxHeartbeats 8000000
namespace Wv.Sg
open Wv.Vi Wv.Ru Wv.Bc Wv.Fm Wv.Lz Wv.Sn Wv.Tm Wv.Dc
open Go.Proofs.YtchokmkfobandaaGreatDoor
theorem Zhi {s:Int×Int} {f t:Int} {b:ByteArray} {l:List Chg} (h:sgV s f t b l=false):sgE s f t b l=([],1):=by unfold sgE;rw[Vaf h]
theorem ZdJ {s:Int×Int} {f t:Int} {b:ByteArray} (h:sgV s f t b []=true):sgE s f t b []=([],0):=by unfold sgE;rw[Vad (by simp[h]),Vaf rfl]
theorem Zhj {s:Int×Int} {f t:Int} {b:ByteArray} {l:List Chg} (h:sgV s f t b l=true) (h2:l≠[]):sgE s f t b l=strm (frms s f l):=by unfold sgE;rw[Vad (by simp[h]),Vad h2]
theorem Z4h {s:Int×Int} {vs:List ByteArray} (hs:tyB s=true) (hv:∀v∈vs,vaB Z6 s (toL v)=true) (hl:vs.length<=4096):(vlsE s vs).1.length<=1000000000:=by
 unfold vlsE;split
 ·rename_i h0;obtain⟨w1,w2⟩:=Z7H hs h0;have hb:Zy s.2 vs=true:=Zz.2 ⟨λv h=>Zdp h0 (hv v h),w1,w2,hl⟩;unfold ZY;rw[Vad (by simp[hb])];have:=Z8a hb 4;show(bstB _ _ 4).length<=_;omega
 ·have:=Xx hl (λv h=>by have:=Z8h (hv v h);rwa [Z1] at this);omega
theorem Z8o (f:Int) (l:List Chg) (i:Nat) (h:i<l.length):tms f (l.take (i+1))=tms f (l.take i)++[l[i].1-(f+1)]:=by
 unfold tms;rw[Vac h,Vbk];rfl
theorem Z71 {s:Int×Int} {t:Int} :∀ {l:List Chg} {a:Int} {b:ByteArray},rise s t a b l=true->∀c∈l,a<c.1/\c.1<=t
 |[],_,_,_,c,hc=>by cases hc
 |d::l,a,b,h,c,hc=>by
  obtain⟨h1,h2,_,_,h5⟩:=Qk.1 h;rcases Va9.1 hc with rfl|hc
  ·exact⟨h1,h2⟩
  ·have:=Z71 h5 c hc;exact⟨by omega,this.2⟩
end Wv.Sg
namespace Go.Proofs.YtchokmkfobandaaGreatDoor
open Go.RowKit Go.Proofs Wv Wv.Vi Wv.Ru Wv.Bc Wv.Sn Wv.Sg Wv.Tm Wv.Dc
open Wv.Rc Wv.Mo in
theorem ZdK {l:List Int} (h:Ze l=true) {c:Nat} (hc:c<=2) (h1:c=1->2<=l.length):(codT c l).length<=3000000:=by
 have hk:=λn=>Y9 n;have fE:c=0\/c=1\/c=2:=(by omega);rcases fE with rfl|rfl|rfl
 ·show(num 0++ZI (Z7 l)).length<=_;rw[Vab,Z8];have:=Yd h;have:=hk 0;omega
 ·show(cod1 l).length<=_;have hv:=XJ h (h1 rfl);have hi:=(Yw.1 hv).1;have h2:=Yd (X2 hi l);have h3:=Yd (Qr (c:=Zn l) h);rw[Zcc];unfold text;simp only[Vab,Z8,Z1,Z0];have:=hk 1;have:=hk (Zn l).st.toNat;have:=hk (Zn l).f.toNat;have:=hk (Zn l).s.toNat;have:=hk (Zn l).n.toNat;have:=hk (ZI (Z7 (XY (Zn l) l))).length;omega
 ·show(num 2++(enc (txts (Z7 l))).1).length<=_;rw[Vab,Z8];have:=(Z7T h).2;have:=hk 2;omega
open Wv.Rc Wv.Mo in
theorem Z5I (l:List Int):(encT l).1.length<=3000000:=by
 cases h:Ze l with
 |false=>rw[Z7U h];simp
 |true=>
  obtain⟨c,hc,h1,he⟩:=YR h;rw[he];exact ZdK h hc h1
theorem Z8p (W:World) (B:Nat) (e:TypeId) (x y:Value) (hB:B<=W.heap.size):(W.alloc (.cells #[x,y] e)).ownsRow B e 2 (.slice (some ⟨W.heap.size,0,none⟩) 1 1) 1 [x,y]:=
 ⟨rfl,.inr ⟨W.heap.size,1,#[x,y],rfl,hB,heap_alloc_new W _,UZz,by unfold maxLen;omega,rfl,by simp⟩⟩
theorem Z5J {w:World} {A:Option Addr} {b:ByteArray} {l:List (Int×ByteArray)} (ha:At w A (cv l)) (a c f t:Int) (hv:VaC a c w) (bz:b.size<=1099511627776) (ad:∀x∈l,x.2.size<=1099511627776) (n cap:Nat) (hn:n=l.length) (bf:n<=9223372036854775807):
  Calls Tryz.prog 13 #[.agg #[.int .i64 a,.int .i64 c],.int .i64 f,.int .i64 t,.string b,.slice A n cap] w λx w'=>ERes w (sgE (a,c) f t b l) x w':=by
 have HV:=h_ (λW (hb:Below w.heap.size w W)=>Y0 (ha.below hb) a c f t (hv.below hb) bz ad n cap hn bf);have HK:=h_ (λW h=>Y5 (w:=w) (W:=W) (a:=a) (c:=c) h);obtain⟨R,hR⟩:∃R,sgE (a,c) f t b l=R:=⟨_,rfl⟩;rw[hR];unfold ERes;cases aV:sgV (a,c) f t b l with
 |false=>
  rw[aV] at HV;rw[Zhi aV] at hR;subst hR;have eQ:bs ([]:List UInt8)=⟨#[]⟩:=rfl;simp only[eQ];clear ha hv bz ad hn bf aV;go_enter Tryz.func13,Tryz.ntmps13;go_wp2_with fail;refine(HV.o _ (HK.o _ (Vae _ _)).2.2.1).mono ?_;rintro x w1 ⟨rfl,a7⟩;obtain⟨_,_,a8,_⟩:=HK.o _ a7;go_wp2;go_returns;exact⟨rfl,a8⟩
 |true=>
  rw[aV] at HV;by_cases h0:l=[]
  ·subst h0;rw[ZdJ aV] at hR;subst hR;have eQ:bs ([]:List UInt8)=⟨#[]⟩:=rfl;have mR:n=0:=hn;subst mR;simp only[eQ];clear ha hv bz ad hn bf aV;go_enter Tryz.func13,Tryz.ntmps13;go_wp2_with fail;refine(HV.o _ (HK.o _ (Vae _ _)).2.2.1).mono ?_;rintro x w1 ⟨rfl,a7⟩;obtain⟨_,_,a8,_⟩:=HK.o _ a7;go_wp2;go_returns;exact⟨rfl,a8⟩
  ·rw[Zhj aV h0] at hR;obtain⟨v1,v2,v3,v4,v5⟩:=XV.1 aV;obtain⟨i1,i2,i3⟩:=XT.1 v2;have hT:=Z0s aV;obtain⟨cc,_,_,xC⟩:=YR hT;have ny:=Z5I (tms f l);have xD:(encT (tms f l)).2=0:=(by rw[xC])
   have dU:∀v∈l.map (·.2),vaB Z6 (a,c) (toL v)=true:=λv hm=>by
    obtain⟨x,hx,rfl⟩:=Va6.1 hm;exact Ql v5 x hx
   have eZ:(tms f l).length=l.length:=(by unfold tms;rw[Vag]);have fI:n<=4096:=(by omega)
   have rX:((n:Int)==0)=false:=by
    rw[Van];intro e;exact h0 (Vak (by omega))
   have D6:=h_ (λi (h:i<l.length)=>Z71 v5 _ (Vaj h));have D7:=h_ (λi (h:i<l.length)=>Z8o f l i h);have Ha:=h_ ha;have Hn:=h_ hn;have nC:=h_ (λ(W:World) A2 aE (h:At W A2 (ivs (tms f l)))=>QT h n aE (by rw[eZ,hn]) bf);unfold ERes at nC;rw[xD] at nC;have sE:Hid ((tms f l).length=n):=h_ (by rw[eZ,hn]);have j1:IntKind.i64.wrap (f+1)=f+1:=(by rw[IntWalk.i64_in _ (by omega)]);have H0:=h_ (λ(W:World) (B:Nat)=>(Zk:W.ownsRow B 3 1 (.slice none 0 0) 0 []));obtain⟨T,jY⟩:∃T,(encT (tms f l)).1=T:=⟨_,rfl⟩;rw[jY] at nC ny;have dB:frms (a,c) f l=(1,T)::if a=3 then[] else[(fkd (a,c),(vlsE (a,c) (l.map (·.2))).1)]:=by unfold frms;rw[jY]
   have UT:Hid (tms f (l.take 0)=[]):=h_ rfl;have qT:Hid (tms f (l.take n)=tms f l):=h_ (by rw[Vai (by rw[hn];exact UZz)]);have Hi:Hid (-1<=f/\t<=1099511627776):=h_ ⟨i1,i3⟩;by_cases h3:a=3
   ·rw[Vaf h3] at dB;rw[dB] at hR;have HS:=h_ (λ(W:World) A2 (h:At W A2 (frs [(1,T)])) aE=>QU h (λp hp=>by rw[Vax.1 hp];show(1:Nat)<16;decide) (λp hp=>by rw[Vax.1 hp];show T.length<=_;omega) 1 aE rfl (by decide));rw[hR] at HS;have fV:frs [(1,T)]=[.int .i64 1,.string (bs T)]:=rfl;have ky:=h_ fV;subst h3;generalize bs T=S at*;clear ha hv bz ad hn aV h0 hR v1 v2 v3 v4 v5 hT xC xD dU eZ jY dB ny i1 i2 i3 fV;go_enter Tryz.func13,Tryz.ntmps13;go_wp2_with fail;refine(HV.o _ (HK.o _ (Vae _ _)).2.2.1).mono ?_;rintro x w1 ⟨rfl,a7⟩;have al:=h_ a7;clear a7;go_wp2;go_loopw [12,32] (λmi xE wr=>∃i:Nat,i<=n/\xE=.int .i64 (i:Int)/\Hid (wr.ownsRow (w.alloc (.cells #[.int .i64 3,.int .i64 c] 23)).heap.size 3 1 mi i ((tms f (l.take i)).map iv))/\Hid (Below (w.alloc (.cells #[.int .i64 3,.int .i64 c] 23)).heap.size (w.alloc (.cells #[.int .i64 3,.int .i64 c] 23)) wr)) (λ_ xE _=>(n-intOf xE).toNat);case atStart=>exact⟨0,Var _,rfl,h_ (H0.o _ _),al⟩
    case round=>
     clear al;obtain⟨i,hi,rfl,aa,hb⟩:=hrel;obtain⟨A5,bo,rfl,bp⟩:=Zm aa.o;by_cases ab:i<n
     ·have aX:i<l.length:=(by rw[<-Hn.o];exact ab);obtain⟨z0,z1,cA,dc⟩:=HK.o _ hb.o;obtain⟨bA,oA,rfl,lV,c0,c1⟩:=ZP (Ha.o.below cA) i aX;have cj:=D7.o i aX;have aO:=D6.o i aX;obtain⟨⟨X,V⟩,hTV⟩:∃y,l[i]=y:=⟨_,rfl⟩;rw[hTV] at c0 c1 cj aO;simp only at c0 c1 cj aO;have j2:IntKind.i64.wrap (X-(f+1))=X-(f+1):=(by rw[IntWalk.i64_in _ (by have:=Hi.o;omega)]);have a7:=hb.o.alloc hb.o.size (.cells #[.int .i64 X,.string V] 33);have ah:=Zl aa.o (Fr.of_below (S:=nob) ((Vae wr.heap.size wr).alloc UZz (.cells #[.int .i64 X,.string V] 33))) (λ_ _ f=>f);obtain⟨v',W',ag,ae,aG⟩:=Z0T ah a7 a7.size (by omega) (X-(f+1));rw[<-cj] at ae;rw[World.size_alloc] at ag;have ar:=h_ ag;have aw:=h_ ae;have cH:=h_ aG;have iS:(0:Int)<=(i:Int):=(by omega);have nI:(i:Int)<(n:Int):=(by omega);clear ag ae aG cj hTV aX a7 ah aa hb aO cA bp
      go_wp2_with (
       at_builtin;refine Z4 (by with_reducible rfl) rfl _ _ _ rfl _ _ (by rfl) (by rfl) ar.o ?_)
      refine⟨⟨i+1,ab,by go_num,aw,cH⟩,?_⟩;simp[intOf]<;>omega
     ·have aO:i=n:=(by omega);subst aO;rw[qT.o] at bp;have oE:=h_ (nC.o wr A5 bo bp);clear aa bp;have hz:=HK.o _ hb.o;go_wp2_with fail;refine(oE.o).mono ?_;rintro x w2 ⟨rfl,a8⟩;have ak:=h_ (hb.o.trans (a8.mono hb.o.size));have dD:=ak.o.alloc ak.o.size (.cells #[.int .i64 1,.string S] 36);obtain⟨z0,_,af,_⟩:=HK.o _ dD;have tm:=h_ (HS.o (w2.alloc (.cells #[.int .i64 1,.string S] 36)) (some ⟨w2.heap.size,0,none⟩) (by rw[ky.o];exact(Bk.new w2 36 #[.int .i64 1,.string S]).at_) 1);have aA:=h_ af;clear a8 dD af hz;go_wp2_with fail;refine(tm.o).mono ?_;rintro x w3 ⟨rfl,au⟩;have aU:=h_ (aA.o.trans (au.mono aA.o.size));clear au;go_wp2;go_returns;exact⟨rfl,aU.o⟩
   ·rw[Vad h3] at dB;rw[dB] at hR;have gr:=Z4h v1 dU (by rw[Vag];exact v4);have lJ:=(Z5G v1 h3 dU (by rw[Vag];exact v4)).1;have HE:=h_ (λ(W:World) (hb:Below w.heap.size w W)=>ZdH (ha.below hb) n cap hn (by omega) a c v1 h3 ad);rw[lJ] at HE;obtain⟨D,hD⟩:∃D,(vlsE (a,c) (l.map (·.2))).1=D:=⟨_,rfl⟩;obtain⟨K,hK⟩:∃K,fkd (a,c)=K:=⟨_,rfl⟩;have lK:K<16:=(by rw[<-hK];exact Z8f _);rw[hD,hK] at HE hR;rw[hD] at gr
    have HS:=h_ (λ(W:World) A2 (h:At W A2 (frs [(1,T),(K,D)])) aE=>QU h (λp hp=>by
     rcases Va9.1 hp with rfl|hp
     ·show(1:Nat)<16;decide
     ·rw[Vax.1 hp];exact lK) (λp hp=>by
     rcases Va9.1 hp with rfl|hp
     ·show T.length<=_;omega
     ·rw[Vax.1 hp];exact gr) 2 aE rfl (by decide))
    rw[hR] at HS;have D8:evV (K:Int) D 0=.tuple #[.agg #[.int .i64 (K:Int),.string (bs D)],.int .i64 0]:=rfl;rw[D8] at HE;have fV:frs [(1,T),(K,D)]=[.int .i64 1,.string (bs T)]++[.int .i64 (K:Int),.string (bs D)]:=rfl;have ky:=h_ fV;have xy:(a !=3)=true:=(by rw[Va1];exact h3);generalize bs T=S at*;generalize bs D=S2 at*;generalize (K:Int)=KI at*;clear ha hv bz ad hn aV h0 hR v1 v2 v3 v4 v5 hT xC xD dU eZ jY dB ny i1 i2 i3 fV lJ gr D8 hK lK hD;go_enter Tryz.func13,Tryz.ntmps13;go_wp2_with fail;refine(HV.o _ (HK.o _ (Vae _ _)).2.2.1).mono ?_;rintro x w1 ⟨rfl,a7⟩;have al:=h_ a7;clear a7;go_wp2;go_loopw [12,32] (λmi xE wr=>∃i:Nat,i<=n/\xE=.int .i64 (i:Int)/\Hid (wr.ownsRow (w.alloc (.cells #[.int .i64 a,.int .i64 c] 23)).heap.size 3 1 mi i ((tms f (l.take i)).map iv))/\Hid (Below (w.alloc (.cells #[.int .i64 a,.int .i64 c] 23)).heap.size (w.alloc (.cells #[.int .i64 a,.int .i64 c] 23)) wr)) (λ_ xE _=>(n-intOf xE).toNat);case atStart=>exact⟨0,Var _,rfl,h_ (H0.o _ _),al⟩
    case round=>
     clear al;obtain⟨i,hi,rfl,aa,hb⟩:=hrel;obtain⟨A5,bo,rfl,bp⟩:=Zm aa.o;by_cases ab:i<n
     ·have aX:i<l.length:=(by rw[<-Hn.o];exact ab);obtain⟨z0,z1,cA,dc⟩:=HK.o _ hb.o;obtain⟨bA,oA,rfl,lV,c0,c1⟩:=ZP (Ha.o.below cA) i aX;have cj:=D7.o i aX;have aO:=D6.o i aX;obtain⟨⟨X,V⟩,hTV⟩:∃y,l[i]=y:=⟨_,rfl⟩;rw[hTV] at c0 c1 cj aO;simp only at c0 c1 cj aO;have j2:IntKind.i64.wrap (X-(f+1))=X-(f+1):=(by rw[IntWalk.i64_in _ (by have:=Hi.o;omega)]);have a7:=hb.o.alloc hb.o.size (.cells #[.int .i64 X,.string V] 33);have ah:=Zl aa.o (Fr.of_below (S:=nob) ((Vae wr.heap.size wr).alloc UZz (.cells #[.int .i64 X,.string V] 33))) (λ_ _ f=>f);obtain⟨v',W',ag,ae,aG⟩:=Z0T ah a7 a7.size (by omega) (X-(f+1));rw[<-cj] at ae;rw[World.size_alloc] at ag;have ar:=h_ ag;have aw:=h_ ae;have cH:=h_ aG;have iS:(0:Int)<=(i:Int):=(by omega);have nI:(i:Int)<(n:Int):=(by omega);clear ag ae aG cj hTV aX a7 ah aa hb aO cA bp
      go_wp2_with (
       at_builtin;refine Z4 (by with_reducible rfl) rfl _ _ _ rfl _ _ (by rfl) (by rfl) ar.o ?_)
      refine⟨⟨i+1,ab,by go_num,aw,cH⟩,?_⟩;simp[intOf]<;>omega
     ·have aO:i=n:=(by omega);subst aO;rw[qT.o] at bp;have oE:=h_ (nC.o wr A5 bo bp);clear aa bp;go_wp2_with fail;refine(oE.o).mono ?_;rintro x w2 ⟨rfl,a8⟩;have ak:=h_ (hb.o.trans (a8.mono hb.o.size));have dD:=ak.o.alloc ak.o.size (.cells #[.int .i64 1,.string S] 36);obtain⟨z0,z1,af,_⟩:=HK.o _ dD;have bZ:=h_ (Z8p w2 (w.alloc (.cells #[.int .i64 a,.int .i64 c] 23)).heap.size 36 (.int .i64 1) (.string S) ak.o.size);have fS:=h_ dD;have ss:=h_ (HE.o _ af);clear a8 dD af;go_wp2_with fail;refine(ss.o).mono ?_;rintro x w3 ⟨rfl,au⟩;have xF:=(fS.o.trans (au.mono fS.o.size)).alloc (Vas fS.o.size au.size) (.cells #[.int .i64 KI,.string S2] 36);have aL:=Zl (Zl bZ.o (Fr.of_below (S:=nob) au) (λ_ _ f=>f)) (Fr.of_below (S:=nob) ((Vae w3.heap.size w3).alloc UZz (.cells #[.int .i64 KI,.string S2] 36))) (λ_ _ f=>f)
      obtain⟨v',W',ag,ae,aG,_⟩:=Z1e (P:=Tryz.prog) 37 36 _ _ 2 Tryz.underlying37 ZdA rfl (by decide) aL xF xF.size [.int .i64 KI,.string S2] rfl (by
       intro y hy;simp at hy;rcases hy with rfl|rfl<;>rfl) (by unfold maxLen;omega) (by omega)
      obtain⟨A6,gm,xG,bN⟩:=Zm ae;rw[World.size_alloc] at ag;have ar:=h_ ag;have tm:=h_ (HS.o W' A6 (by rw[ky.o];exact bN) gm);have cQ:=h_ (HK.o _ aG).2.2.1;subst xG;clear ag ae aG aL xF au bN
      go_wp2_with (
       at_builtin;refine Z4 (by with_reducible rfl) rfl _ _ _ rfl _ _ (by rfl) (by rfl) ar.o ?_)
      go_wp2_with fail;refine(tm.o).mono ?_;rintro x w5 ⟨rfl,eA⟩;have oz:=h_ (cQ.o.trans (eA.mono cQ.o.size));clear eA;go_wp2;go_returns;exact⟨rfl,oz.o⟩
end Go.Proofs.YtchokmkfobandaaGreatDoor
namespace Wv.Sg
open Wv.Vi Wv.Ru Wv.Bc Wv.Fm Wv.Lz Wv.Sn Wv.Tm Wv.Dc
open Go.Proofs.YtchokmkfobandaaGreatDoor
theorem Zju {s:Int×Int} {f t:Int} {b:ByteArray} {d:List UInt8} (h:sgV s f t b []=false):sgD s f t b d=([],1):=by unfold sgD;rw[Vaf h]
theorem Zjv {s:Int×Int} {f t:Int} {b:ByteArray} (h:sgV s f t b []=true):sgD s f t b []=([],0):=by unfold sgD;rw[Vad (by simp[h]),Vaf rfl]
theorem Zjw {s:Int×Int} {f t:Int} {b:ByteArray} {d:List UInt8} (h:sgV s f t b []=true) (h4:4096<d.length):sgD s f t b d=([],12):=by
 unfold sgD;rw[Vad (by simp[h]),Vad (by intro e;subst e;simp at h4),Vaf h4]
theorem ZdL {s:Int×Int} {f t:Int} {b:ByteArray} {d:List UInt8} (h:sgV s f t b []=true) (h0:d≠[]) (h4:¬4096<d.length):sgD s f t b d=match rdCh s f d with
  |none=>([],12)
  |some l=>if sgV s f t b l=true then(l,0) else([],12):=by
 unfold sgD;rw[Vad (by simp[h]),Vad h0,Vad h4];cases rdCh s f d<;>rfl
theorem Zjx {s:Int×Int} {f:Int} {d:List UInt8} (h:unws d=none):rdCh s f d=none:=by unfold rdCh;rw[h]
theorem Z8q {s:Int×Int} {f:Int} {d:List UInt8} {fr:List (Nat×List UInt8)} (h:unws d=some fr) (h2:fr.length≠if s.1=3 then 1 else 2):rdCh s f d=none:=by
  unfold rdCh;rw[h];cases fr with
  |nil=>rfl
  |cons p r=>
    simp only;split
    · have : ∀ n, Y6 s n r = none := λn => by
        unfold Y6;by_cases h3:s.1=3
        · rw[Vaf h3] at h2⊢
          rw[Vad (by intro e;subst e;exact h2 rfl)]
        · rw[Vad h3] at h2⊢
          match r,h2 with
          |[],_=>rfl
          |[q],h2=>exact absurd rfl h2
          |_::_::_,_=>rfl
      rw[this];rfl
    · rfl
theorem Xn {s:Int×Int} {f:Int} {d:List UInt8} {p:Nat×List UInt8} {r:List (Nat×List UInt8)} (h:unws d=some (p::r)):rdCh s f d=if p.1=1/\(decT p.2 4096).2=0/\(decT p.2 4096).1≠[] then(Y6 s (decT p.2 4096).1.length r).map (zipC f (decT p.2 4096).1) else none:=by
 unfold rdCh;rw[h]
theorem ZdM {s:Int×Int} {n:Nat} (h3:s.1=3):Y6 s n []=some (List.replicate n ⟨#[]⟩):=by unfold Y6;rw[Vaf h3,Vaf rfl]
theorem Z9N {s:Int×Int} {n:Nat} {q:Nat×List UInt8} (h3:s.1≠3):Y6 s n [q]=if q.1=fkd s/\(vlsD s q.2 n).2=0/\(vlsD s q.2 n).1.length=n then some (vlsD s q.2 n).1 else none:=by unfold Y6;rw[Vad h3]
theorem Z5K (f:Int) {ts:List Int} {vs:List ByteArray} (h:ts.length=vs.length) {i:Nat} (hi:i<ts.length):(zipC f ts vs).take (i+1)=(zipC f ts vs).take i++[(ts[i]+f+1,vs[i]'(by omega))]:=by
 have hl:i<(zipC f ts vs).length:=(by rw[XW f ts vs h];exact hi);rw[Vac hl];congr 2;simp[zipC]
theorem Z3h (f:Int) {ts:List Int} {vs:List ByteArray} (hs:∀v∈vs,v.size<=128):∀c∈zipC f ts vs,c.2.size<=1099511627776:=by
 intro c hc;obtain⟨i,hi,rfl⟩:=List.getElem_of_mem hc;have hv:i<vs.length:=(by unfold zipC at hi;rw[Vb9] at hi;omega);have e:((zipC f ts vs)[i]).2=vs[i]:=(by simp[zipC]);rw[e];have:=hs _ (Vaj hv);omega
theorem Z5L:∀ {l:List (Nat×List UInt8)} {d:List UInt8},ZJ l=some d->∀p∈l,p.2.length<=4096
 |[],_,_,p,hp=>by cases hp
 |q::l,d,h,p,hp=>by
  unfold ZJ at h;cases hw:ZA q.1 q.2 with
  |none=>rw[hw] at h;cases h
  |some w=>
   rw[hw] at h;simp only at h;cases hl:ZJ l with
   |none=>rw[hl] at h;cases h
   |some x=>
    rcases Va9.1 hp with rfl|hp
    ·have h2:=Z2O (k:=p.1) (c:=p.2);rw[hw] at h2;exact of_decide_eq_true h2.symm
    ·exact Z5L hl p hp
theorem Z1q {d:List UInt8} {l:List (Nat×List UInt8)} (h:unws d=some l):∀p∈l,p.2.length<=4096:=Z5L (Z0V d.length UZz h)
end Wv.Sg
namespace Go.Proofs.YtchokmkfobandaaGreatDoor
open Go.RowKit Go.Proofs Wv Wv.Vi Wv.Ru Wv.Bc Wv.Sn Wv.Sg Wv.Tm Wv.Dc Wv.Fm
def CdR (w:World) (r:List (Int×ByteArray)×Nat) (x:Ending) (w':World):Prop:=∃v,x=.returned (.tuple #[v,.int .i64 (r.2:Int)])/\ChR w' v r.1/\Below w.heap.size w w'
theorem ZdN {d:List UInt8} (hd:d.length<=1000000) (h:unws d=none) (W:World):Calls Tryz.prog 36 #[.string (bs d)] W λx w'=>∃v,x=.returned (.tuple #[v,.int .i64 12])/\Below W.heap.size W w':=
 (Z2o d hd W).mono λx w' hx=>by
  unfold FdR at hx;rw[h] at hx;obtain⟨v,h1,_,h2⟩:=hx;exact⟨v,by simpa using h1,h2⟩
theorem Z72 {d:List UInt8} {fr:List (Nat×List UInt8)} (hd:d.length<=1000000) (h:unws d=some fr) (W:World):Calls Tryz.prog 36 #[.string (bs d)] W λx w'=>∃A cap,x=.returned (.tuple #[.slice A fr.length cap,.int .i64 0])/\At w' A (frs fr)/\Below W.heap.size W w':=
 (Z2o d hd W).mono λx w' hx=>by
  unfold FdR at hx;rw[h] at hx;obtain⟨v,h1,⟨A,cap,h2,h3⟩,h4⟩:=hx;subst h2;exact⟨A,cap,by simpa using h1,h3,h4⟩
theorem Zhk {s:Int×Int} {n k:Nat} {C:List UInt8} (h3:s.1≠3):Y6 s n [(k,C)]=dvO s k C n:=by
 rw[Z9N h3];unfold dvO;simp only[Int.ofNat_inj]
theorem ZdO {s:Int×Int} {n:Nat} {k:Int} {C:List UInt8} {r:List ByteArray} (h:dvO s k C n=some r):r.length=n/\∀v∈r,v.size<=128:=by
 unfold dvO at h;split at h
 ·rename_i hc;injection h with h;subst h;exact⟨by have:=hc.2.2;omega,Z9K _ _ _⟩
 ·cases h
theorem Z8r {w:World} {A:Option Addr} {l:List Int} (ha:At w A (ivs l)) (k:Nat) (h:k<l.length):∃b o,A=some ⟨b,o,none⟩/\b<w.heap.size/\w.cell? ⟨b,o+k,none⟩=some (.int .i64 l[k]):=
 ha.get k _ (by unfold ivs;rw[Vbc,Vao h];rfl)
theorem ZdP {w:World} {A:Option Addr} {l:List ByteArray} (ha:At w A (svs l)) (k:Nat) (h:k<l.length):∃b o,A=some ⟨b,o,none⟩/\b<w.heap.size/\w.cell? ⟨b,o+k,none⟩=some (.string l[k]):=
 ha.get k _ (by unfold svs;rw[Vbc,Vao h];rfl)
theorem ZdQ {w:World} (a c f t:Int) (hv:VaC a c w) {b:ByteArray} (bz:b.size<=1099511627776) (d:List UInt8) (hd:d.length<=1000000000) (hr:sgV (a,c) f t b []=false\/d=[]\/4096<d.length\/unws d=none):
  Calls Tryz.prog 18 #[.agg #[.int .i64 a,.int .i64 c],.int .i64 f,.int .i64 t,.string b,.string (bs d)] w λx w'=>CdR w (sgD (a,c) f t b d) x w':=by
 have HV:=h_ (λW (hb:Below w.heap.size w W)=>Y0 (l:=[]) (At.nil W none) a c f t (hv.below hb) bz (λx hx=>by cases hx) 0 0 rfl (by decide));have HK:=h_ (λW h=>Y5 (w:=w) (W:=W) (a:=a) (c:=c) h);unfold CdR;cases aV:sgV (a,c) f t b [] with
 |false=>
  rw[aV] at HV;have HR:=h_ (Zju (d:=d) aV);generalize sgD (a,c) f t b d=R at*;generalize bs d=S at*;clear hv bz hd hr aV;go_enter Tryz.func18,Tryz.ntmps18;go_wp2_with fail;refine(HV.o _ (HK.o _ (Vae _ _)).2.2.1).mono ?_;rintro x w1 ⟨rfl,a7⟩;obtain⟨_,_,a8,_⟩:=HK.o _ a7;go_wp2;go_returns;exact⟨_,by rw[HR.o];rfl,by rw[HR.o];exact ChR.nil _,a8⟩
 |true=>
  rw[aV] at HV;have cB:=Xk d;have ad:(bs d).size=d.length:=Z0 d;by_cases h0:d=[]
  ·subst h0;have HR:=h_ (Zjv aV);generalize sgD (a,c) f t b []=R at*;rw[show bs ([]:List UInt8)=⟨#[]⟩ from rfl];clear hv bz hd hr aV cB ad;go_enter Tryz.func18,Tryz.ntmps18;go_wp2_with fail;refine(HV.o _ (HK.o _ (Vae _ _)).2.2.1).mono ?_;rintro x w1 ⟨rfl,a7⟩;obtain⟨_,_,a8,_⟩:=HK.o _ a7;go_wp2;go_returns;exact⟨_,by rw[HR.o];rfl,by rw[HR.o];exact ChR.nil _,a8⟩
  ·rw[Vah h0] at cB;by_cases h4:4096<d.length
   ·have HR:=h_ (Zjw aV h4);have hg:(4096:Int)<((bs d).size:Int):=(by omega);generalize sgD (a,c) f t b d=R at*;generalize bs d=S at*;clear hv bz hd hr aV h0 ad h4;go_enter Tryz.func18,Tryz.ntmps18;go_wp2_with fail;refine(HV.o _ (HK.o _ (Vae _ _)).2.2.1).mono ?_;rintro x w1 ⟨rfl,a7⟩;obtain⟨_,_,a8,_⟩:=HK.o _ a7;go_wp2;go_returns;exact⟨_,by rw[HR.o];rfl,by rw[HR.o];exact ChR.nil _,a8⟩
   ·have hu:unws d=none:=by
     rcases hr with h|h|h|h
     ·rw[aV] at h;cases h
     ·exact absurd h h0
     ·exact absurd h h4
     ·exact h
    have HR:Hid (sgD (a,c) f t b d=([],12)):=h_ (by rw[ZdL aV h0 h4,Zjx hu]);have hg:¬(4096:Int)<((bs d).size:Int):=(by omega);have HF:=h_ (λW=>ZdN (by omega) hu W);generalize sgD (a,c) f t b d=R at*;generalize bs d=S at*;clear hv bz hd hr aV h0 ad h4 hu;by_cases h3:a=3
    ·subst h3;go_enter Tryz.func18,Tryz.ntmps18;go_wp2_with fail;refine(HV.o _ (HK.o _ (Vae _ _)).2.2.1).mono ?_;rintro x w1 ⟨rfl,a7⟩;obtain⟨_,_,a8,_⟩:=HK.o _ a7;have al:=h_ a7;clear a7 a8;go_wp2_with fail;refine(HF.o _).mono ?_;rintro x w2 ⟨v,rfl,a8⟩;have ak:=h_ (al.o.trans (a8.mono al.o.size));obtain⟨z0,z1,af,_⟩:=HK.o _ ak.o;clear a8;go_wp2;go_returns;exact⟨_,by rw[HR.o];rfl,by rw[HR.o];exact ChR.nil _,af⟩
    ·have xy:(a==3)=false:=(by rw[Van];exact h3);clear h3;go_enter Tryz.func18,Tryz.ntmps18;go_wp2_with fail;refine(HV.o _ (HK.o _ (Vae _ _)).2.2.1).mono ?_;rintro x w1 ⟨rfl,a7⟩;obtain⟨_,_,a8,_⟩:=HK.o _ a7;have al:=h_ a7;clear a7 a8;go_wp2_with fail;refine(HF.o _).mono ?_;rintro x w2 ⟨v,rfl,a8⟩;have ak:=h_ (al.o.trans (a8.mono al.o.size));obtain⟨z0,z1,af,_⟩:=HK.o _ ak.o;clear a8;go_wp2;go_returns;exact⟨_,by rw[HR.o];rfl,by rw[HR.o];exact ChR.nil _,af⟩
theorem Zjy {α:Type} {l:List α} (h:l.length=2):∃p q,l=[p,q]:=by
 match l,h with
 |[p,q],_=>exact⟨p,q,rfl⟩
theorem YT {w W:World} {p:Addr} {v:Value} (hb:Below w.heap.size w W) (hp:p.block<w.heap.size) (hc:w.cell? p=some v):W.cell? p=some v:=by rw[World.cell?_of_block (hb.block _ hp)];exact hc
theorem Zhl {w:World} (a c k:Int) (n:Nat) (D:List UInt8) (hs:tyB (a,c)=true) (h3:a≠3) (hd:D.length<=1000000000):
  Calls Tryz.prog 38 #[.agg #[.int .i64 a,.int .i64 c],.agg #[.int .i64 k,.string (bs D)],.int .i64 (n:Int)] w λx w'=>∃A m cap,x=.returned (.tuple #[.slice A m cap,.bool (dvO (a,c) k D n).isSome])/\(∀r,dvO (a,c) k D n=some r->m=r.length/\At w' A (svs r))/\Below w.heap.size w w':=
 Zjt a c k n D hs h3 hd
theorem ZdR {w:World} (a c f t:Int) (hv:VaC a c w) {b:ByteArray} (bz:b.size<=1099511627776) (d:List UInt8) (aV:sgV (a,c) f t b []=true) (h0:d≠[]) (h4:¬4096<d.length) {fr:List (Nat×List UInt8)} (hu:unws d=some fr) (h3:a≠3):
  Calls Tryz.prog 18 #[.agg #[.int .i64 a,.int .i64 c],.int .i64 f,.int .i64 t,.string b,.string (bs d)] w λx w'=>CdR w (sgD (a,c) f t b d) x w':=by
 have HV:=h_ (λW (hb:Below w.heap.size w W)=>Y0 (l:=[]) (At.nil W none) a c f t (hv.below hb) bz (λx hx=>by cases hx) 0 0 rfl (by decide));rw[aV] at HV;have Kp:=h_ (λW A cap (vs:List ByteArray) {ts:List Int} (hl:vs.length=ts.length) (hs:∀v∈vs,v.size<=128) (h:At W A (cv (zipC f ts vs))) (hb:Below w.heap.size w W) (h9:ts.length<=4096)=>Y0 h a c f t (hv.below hb) bz (Z3h f hs) ts.length cap (by rw[XW f ts vs hl.symm]) (by omega));have HK:=h_ (λW h=>Y5 (w:=w) (W:=W) (a:=a) (c:=c) h);obtain⟨v1,v2,_,_,_⟩:=XV.1 aV;obtain⟨i1,i2,i3⟩:=XT.1 v2;have uh:Hid (-1<=f/\f<=1099511627776):=h_ ⟨i1,by omega⟩;have cL:=h_ v1;have cB:=Xk d;rw[Vah h0] at cB;have hg:¬(4096:Int)<((bs d).size:Int):=(by rw[Z0];omega);have HF:=h_ (λW=>Z72 (by omega) hu W);have oK:=h_ (ZdL aV h0 h4);unfold CdR;generalize sgD (a,c) f t b d=R at*;generalize bs d=S at*;have xy:(a==3)=false:=(by rw[Van];exact h3);have WC:(a !=3)=true:=(by rw[Va1];exact h3);clear hv bz aV h0 h4 v1 v2 i1 i2 i3;go_enter Tryz.func18,Tryz.ntmps18;go_wp2_with fail;refine(HV.o _ (HK.o _ (Vae _ _)).2.2.1).mono ?_;rintro x w1 ⟨rfl,a7⟩;obtain⟨_,_,a8,_⟩:=HK.o _ a7;have al:=h_ a7;clear a7 a8;go_wp2_with fail;refine(HF.o _).mono ?_;rintro x w2 ⟨A2,aE,rfl,an,a8⟩;have ak:=h_ (al.o.trans (a8.mono al.o.size));obtain⟨z0,z1,af,dc⟩:=HK.o _ ak.o;clear a8;by_cases hL:fr.length=2
 ·obtain⟨p,q,rfl⟩:=Zjy hL;obtain⟨kq,D⟩:=q;obtain⟨k,C⟩:=p;obtain⟨bF,oF,rfl,uG,c0,c1⟩:=Z8j an 0 (by simp);obtain⟨UU,UV,dR,_,d0,d1⟩:=Z8j an 1 (by simp);injection dR with dR;injection dR with e1 e2;subst e1;subst e2;simp at d0 d1;simp at c0 c1;try simp only[Vaz,Vb6]
  have HU:=h_ hu;have rE:=Z1q hu (k,C) Vap;by_cases hk:k=1
  ·subst hk;have lA:=h_ (λW=>Z2e (w:=W) (bs C) (by rw[Z0];show C.length<=_;have:C.length<=4096:=rE;omega) 4096);obtain⟨⟨ts,E⟩,cj⟩:∃y,decT C 4096=y:=⟨_,rfl⟩;rw[Zd,cj] at lA;unfold LRes at lA;have mK:=h_ cj;have iO:=Z20 C 4096;rw[cj] at iO;generalize bs C=SC at*;have aA:=h_ af;clear an rE af cj;go_wp2_with fail;refine(lA.o _).mono ?_;rintro x w3 ⟨v,rfl,⟨A3,sX,eu,cD⟩,au⟩;try simp only at eu cD
   subst eu;have aU:=h_ (ak.o.trans (au.mono ak.o.size));obtain⟨z0,z1,aB,dc⟩:=HK.o _ aU.o;by_cases hE:E=0
   ·subst hE;by_cases n6:ts=[]
    ·subst n6;have HR:Hid (R=([],12)):=h_ (by rw[oK.o,Xn HU.o,mK.o];rw[Vad (λh=>h.2.2 rfl)]);simp only[Vb6];clear cD au iO;go_wp2;go_returns;exact⟨_,by rw[HR.o];rfl,by rw[HR.o];exact ChR.nil _,aB⟩
    ·have uH:((ts.length:Int)==0)=false:=by
      rw[Van];intro e;exact n6 (Vak (by omega))
     have hval:Ze ts=true/\ts.length<=4096:=by
      rcases iO with (h|h)|⟨l,h,_,h2,_,h3⟩
      ·injection h with h _;exact absurd h n6
      ·injection h with h _;exact absurd h n6
      ·injection h with h _;subst h;exact⟨h2,(Z9.1 h2).2.2⟩
     have EV:Hid (rdCh (a,c) f d=(Y6 (a,c) ts.length [(kq,D)]).map (zipC f ts)):=h_ (by rw[Xn HU.o,mK.o];exact Vaf ⟨rfl,rfl,n6⟩);have xH:=h_ (λi (h:i<ts.length)=>(Z9.1 hval.1).2.1 ts[i] (Vaj h));have bf:=hval.2;have bG:=Yi (P:=Tryz.prog) 64 9 (.string ⟨#[]⟩) 16 Tryz.underlying64 Z2m rfl (ts.length:Int) ts.length rfl (by omega) (by omega) w3;have cg:=(Bk.new w3 9 (Array.replicate ts.length (.string ⟨#[]⟩))).at_;have kG:=aU.o.alloc aU.o.size (.cells (Array.replicate ts.length (.string ⟨#[]⟩)) 9);have cN:=cD.below ((Vae w3.heap.size w3).alloc UZz (.cells (Array.replicate ts.length (.string ⟨#[]⟩)) 9));have D9:=h_ au;clear au iO cD n6 hval;have gb:=Z1q HU.o (kq,D) (by simp);have Da:=h_ (λW=>Zhl (w:=W) a c (kq:Int) ts.length D cL.o h3 (by show D.length<=_;have:D.length<=4096:=gb;omega));obtain⟨O,hO⟩:∃O,dvO (a,c) (kq:Int) D ts.length=O:=⟨_,rfl⟩;rw[hO] at Da;have Kq:Hid (Y6 (a,c) ts.length [(kq,D)]=O):=h_ (by rw[Zhk h3];exact hO);have Db:Hid (∀r,O=some r->r.length=ts.length/\∀v∈r,v.size<=128):=h_ (λr hr=>ZdO (hO.trans hr));have xI:=(D9.o.trans ((Vae w3.heap.size w3).alloc UZz (.cells (Array.replicate ts.length (.string ⟨#[]⟩)) 9)|>.mono D9.o.size)).drew
     have jV:∀X,Below (w3.alloc (.cells (Array.replicate ts.length (.string ⟨#[]⟩)) 9)).drew.heap.size (w3.alloc (.cells (Array.replicate ts.length (.string ⟨#[]⟩)) 9)).drew X->X.cell? ⟨w.heap.size,0,none⟩=some (.int .i64 a)/\X.cell? ⟨w.heap.size,1,none⟩=some (.int .i64 c)/\X.cell? ⟨bF,oF+2,none⟩=some (.int .i64 (kq:Int))/\X.cell? ⟨bF,oF+3,none⟩=some (.string (bs D)):=λX h=>by
      have g:=HK.o X (kG.drew.trans (h.mono kG.drew.size));have g2:=xI.trans (h.mono xI.size);exact⟨g.1,g.2.1,YT g2 uG d0,YT g2 uG d1⟩
     have lI:=h_ jV;have h0:=jV _ (Vae _ _);have vP:=h_ kG.drew;have Kr:=h_ cN;generalize bs D=SD at*;clear hO gb xI jV kG cN aB cg c0 c1 d0 d1;go_wp2;generalize w3.alloc (.cells (Array.replicate ts.length (.string ⟨#[]⟩)) 9)=wM at*
     go_region_held3 (λX=>X.cell? ⟨w.heap.size,0,none⟩=some (.int .i64 a)/\X.cell? ⟨w.heap.size,1,none⟩=some (.int .i64 c)/\X.cell? ⟨bF,oF+2,none⟩=some (.int .i64 (kq:Int))/\X.cell? ⟨bF,oF+3,none⟩=some (.string SD)) (first|with_reducible assumption) (first
      |(go_at_call 38;with_reducible refine(Da.o _).mono ?_;rintro r w5 ⟨A4,m4,gg,rfl,h4,aB⟩;have H4:=h_ h4;have cY:=lI.o _ aB;have bj:=h_ aB;clear h4 aB))
     have rF:=h_ (vP.o.trans (bj.o.mono vP.o.size));have Dd:=h_ (Kr.o.drew.below bj.o);clear h0 cY dc z0 z1 uG;have hz:=HK.o _ rF.o;cases O with
     |none=>
      have HR:Hid (R=([],12)):=h_ (by rw[oK.o,EV.o,Kq.o];rfl);clear H4;have Ks:=hz.2.2.1;clear hz;simp only[Option.isSome_none];go_wp2;go_returns;exact⟨_,by rw[HR.o];rfl,by rw[HR.o];exact ChR.nil _,Ks⟩
     |some vs=>
      clear hz;obtain⟨jv,qU⟩:=H4.o vs rfl;obtain⟨aV,di⟩:=Db.o vs rfl;have Df:=h_ qU;have kL:=h_ aV;have oW:=h_ di;have Kt:=h_ Kq.o;have yy:m4=ts.length:=jv.trans aV;subst yy;clear jv qU aV di H4 Db Kq;simp only[Option.isSome_some];go_wp2;generalize w5=wL at*;go_loopw [19,92] (λwH xJ wr=>∃i:Nat,i<=ts.length/\xJ=.int .i64 (i:Int)/\Hid (wr.ownsRow wL.heap.size 33 2 wH i (cv ((zipC f ts vs).take i)))/\Hid (Below wL.heap.size wL wr)) (λ_ xJ _=>(ts.length-intOf xJ).toNat);case atStart=>exact⟨0,Var _,rfl,h_ Zk,h_ (Vae _ _)⟩
      case round=>
       obtain⟨i,hi,rfl,aa,hb⟩:=hrel;obtain⟨A6,gm,rfl,bN⟩:=Zm aa.o;have lW:=h_ (rF.o.trans (hb.o.mono rF.o.size));obtain⟨z0,z1,cA,Ku⟩:=HK.o _ lW.o;by_cases ab:i<ts.length
       ·obtain⟨bT,oT,rfl,Pa,t0⟩:=Z8r (Dd.o.below hb.o) i ab;obtain⟨bV,oV,rfl,Kv,y0⟩:=ZdP (Df.o.below hb.o) i (by rw[kL.o];exact ab);have gy:=Z5K f (ts:=ts) (vs:=vs) kL.o.symm ab;have aO:=xH.o i ab;obtain⟨X,hX⟩:∃X,ts[i]=X:=⟨_,rfl⟩;obtain⟨V,hV⟩:∃V,vs[i]'(by rw[kL.o];exact ab)=V:=⟨_,rfl⟩;rw[hX] at t0 gy aO;rw[hV] at y0 gy;have j1:IntKind.i64.wrap (X+f)=X+f:=(by rw[IntWalk.i64_in _ (by have:=uh.o;omega)]);have j2:IntKind.i64.wrap (X+f+1)=X+f+1:=(by rw[IntWalk.i64_in _ (by have:=uh.o;omega)]);obtain⟨v',W',ag,ae,aG⟩:=XU aa.o hb.o hb.o.size (by omega) (X+f+1,V);rw[<-gy] at ae;have ar:=h_ ag;have aw:=h_ ae;have cH:=h_ aG;have iS:(0:Int)<=(i:Int):=(by omega);have nI:(i:Int)<(ts.length:Int):=(by omega);clear ag ae aG gy aa hb aO bN hX hV
        go_wp2_with (
         at_builtin;refine Z4 (by with_reducible rfl) rfl _ _ _ rfl _ _ (by rfl) (by rfl) ar.o ?_)
        refine⟨⟨i+1,ab,by go_num,aw,cH⟩,?_⟩;simp[intOf]<;>omega
       ·have aO:i=ts.length:=(by omega);subst aO;rw[Vai (by rw[XW f ts vs kL.o.symm];exact UZz)] at bN;have mL:=h_ (Kp.o wr A6 gm vs kL.o oW.o bN cA bf);have mH:=h_ bN;have jX:=h_ cA;have sZ:Hid (R=if sgV (a,c) f t b (zipC f ts vs)=true then(zipC f ts vs,0) else([],12)):=h_ (by rw[oK.o,EV.o,Kt.o];rfl);have Kw:=h_ (XW f ts vs kL.o.symm);obtain⟨B,hB⟩:∃B,sgV (a,c) f t b (zipC f ts vs)=B:=⟨_,rfl⟩;rw[hB] at mL sZ;clear aa bN cA hB;cases B with
        |false=>
         have HR:Hid (R=([],12)):=h_ (by rw[sZ.o];rfl);go_wp2_with fail;refine(mL.o).mono ?_;rintro x w9 ⟨rfl,bz⟩;have lT:=h_ (jX.o.trans (bz.mono jX.o.size));clear bz;go_wp2;go_returns;exact⟨_,by rw[HR.o];rfl,by rw[HR.o];exact ChR.nil _,lT.o⟩
        |true=>
         have HR:Hid (R=(zipC f ts vs,0)):=h_ (by rw[sZ.o];rfl);go_wp2_with fail;refine(mL.o).mono ?_;rintro x w9 ⟨rfl,bz⟩;have lT:=h_ (jX.o.trans (bz.mono jX.o.size));have lr:=h_ (mH.o.below bz);clear bz;go_wp2;go_returns;exact⟨_,by rw[HR.o];rfl,by rw[HR.o];exact⟨_,_,by rw[Kw.o];rfl,lr.o⟩,lT.o⟩
   ·have HR:Hid (R=([],12)):=h_ (by rw[oK.o,Xn HU.o,mK.o];rw[Vad (λh=>hE h.2.1)]);have tj:((E:Int) !=0)=true:=(by rw[Va1];omega);clear cD au iO hE;go_wp2;go_returns;exact⟨_,by rw[HR.o];rfl,by rw[HR.o];exact ChR.nil _,aB⟩
  ·have HR:Hid (R=([],12)):=h_ (by rw[oK.o,Xn HU.o];rw[Vad (λh=>hk h.1)]);have dd:((k:Int) !=1)=true:=(by rw[Va1];omega);clear hk an rE;go_wp2;go_returns;exact⟨_,by rw[HR.o];rfl,by rw[HR.o];exact ChR.nil _,af⟩
 ·have HR:Hid (R=([],12)):=h_ (by rw[oK.o,Z8q hu (by first|(rw[Vaf rfl];exact hL)|(rw[Vad h3];exact hL))]);have Pb:((fr.length:Int) !=2)=true:=(by rw[Va1];omega);clear hL an hu;go_wp2;go_returns;exact⟨_,by rw[HR.o];rfl,by rw[HR.o];exact ChR.nil _,af⟩
end Go.Proofs.YtchokmkfobandaaGreatDoor
