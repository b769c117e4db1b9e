import Derived.Test.YtchokmkfobandaaGreatDoorJ42
import Derived.Test.YtchokmkfobandaaGreatDoorJ43
import Derived.Test.YtchokmkfobandaaGreatDoorJ31
set_option linter.unusedVariables false
set_option linter.unusedSimpArgs false
set_option maxRecDepth 100000
set_option maxHeartbeats 8000000
namespace Wv.Sg
open Wv.Vi Wv.Ru Wv.Bc Wv.Fm Wv.Lz Wv.Sn Wv.Tm Wv.Dc
open Go.Proofs.YtchokmkfobandaaGreatDoor
theorem ZkO {s:Int×Int} {f t:Int} {b:ByteArray} {l:List Chg} (h:sgV s f t b l=false):sgE s f t b l=([],1):=by unfold sgE;rw[Vaf h]
theorem Zjm {s:Int×Int} {f t:Int} {b:ByteArray} (h:sgV s f t b []=true):sgE s f t b []=([],0):=by unfold sgE;rw[Vad (by simp[h]),Vaf rfl]
theorem ZkP {s:Int×Int} {f t:Int} {b:ByteArray} {l:List Chg} (h:sgV s f t b l=true) (h2:l≠[]):sgE s f t b l=strm (frms s f l):=by unfold sgE;rw[Vad (by simp[h]),Vad h2]
theorem Z4c {s:Int×Int} {vs:List ByteArray} (hs:tyB s=true) (hv:∀v∈vs,vaB Z9 s (toL v)=true) (hl:vs.length<=4096):(vlsE s vs).1.length<=1000000000:=by
 unfold vlsE;split
 ·rename_i h0;obtain⟨w1,w2⟩:=Z7H hs h0;have hb:Zz s.2 vs=true:=ZA.2 ⟨λv h=>Zdp h0 (hv v h),w1,w2,hl⟩;unfold ZW;rw[Vad (by simp[hb])];have:=Z8a hb 4;show(bstB _ _ 4).length<=_;omega
 ·have:=Xx hl (λv h=>by have:=Zgi (hv v h);rwa [Z1] at this);omega
theorem Zgo (f:Int) (l:List Chg) (i:Nat) (h:i<l.length):tms f (l.take (i+1))=tms f (l.take i)++[l[i].1-(f+1)]:=by
 unfold tms;rw[Vac h,Vbk];rfl
theorem ZdD {s:Int×Int} {t:Int} :∀ {l:List Chg} {a:Int} {b:ByteArray},rise s t a b l=true->∀c∈l,a<c.1/\c.1<=t
 |[],_,_,_,c,hc=>by cases hc
 |d::l,a,b,h,c,hc=>by
  obtain⟨h1,h2,_,_,h5⟩:=Qi.1 h;rcases Vba.1 hc with rfl|hc
  ·exact⟨h1,h2⟩
  ·have:=ZdD h5 c hc;exact⟨by omega,this.2⟩
end Wv.Sg
namespace Go.Proofs.YtchokmkfobandaaGreatDoor
open Go.RowKit Go.Proofs Wv Wv.Vi Wv.Ru Wv.Bc Wv.Sn Wv.Sg Wv.Tm Wv.Dc
open Wv.Rc Wv.Mo in
theorem ZdE {l:List Int} (h:Zf l=true) {c:Nat} (hc:c<=2) (h1:c=1->2<=l.length):(codT c l).length<=3000000:=by
 have hk:=λn=>Y5 n;have fE:c=0\/c=1\/c=2:=(by omega);rcases fE with rfl|rfl|rfl
 ·show(num 0++ZJ (Z6 l)).length<=_;rw[Vab,Z7];have:=Y9 h;have:=hk 0;omega
 ·show(cod1 l).length<=_;have hv:=XK h (h1 rfl);have hi:=(Yv.1 hv).1;have h2:=Y9 (X2 hi l);have h3:=Y9 (Qp (c:=Zm l) h);rw[Zcc];unfold text;simp only[Vab,Z7,Z1,Z0];have:=hk 1;have:=hk (Zm l).st.toNat;have:=hk (Zm l).f.toNat;have:=hk (Zm l).s.toNat;have:=hk (Zm l).n.toNat;have:=hk (ZJ (Z6 (XW (Zm l) l))).length;omega
 ·show(num 2++(enc (txts (Z6 l))).1).length<=_;rw[Vab,Z7];have:=(Z7T h).2;have:=hk 2;omega
open Wv.Rc Wv.Mo in
theorem ZdF (l:List Int):(encT l).1.length<=3000000:=by
 cases h:Zf l with
 |false=>rw[Z7U h];simp
 |true=>
  obtain⟨c,hc,h1,he⟩:=Xy h;rw[he];exact ZdE h hc h1
theorem Zgp (W:World) (B:Nat) (e:TypeId) (x y:Value) (hB:B<=W.heap.size):(W.alloc (.cells #[x,y] e)).ownsRow B e 2 (.slice (some ⟨W.heap.size,0,none⟩) 1 1) 1 [x,y]:=
 ⟨rfl,.inr ⟨W.heap.size,1,#[x,y],rfl,hB,heap_alloc_new W _,UZz,by unfold maxLen;omega,rfl,by simp⟩⟩
theorem ZdG {w:World} {A:Option Addr} {b:ByteArray} {l:List (Int×ByteArray)} (ha:At w A (cv l)) (a c f t:Int) (hv:VaC a c w) (bZ:b.size<=1099511627776) (ad:∀x∈l,x.2.size<=1099511627776) (n cap:Nat) (hn:n=l.length) (bo:n<=9223372036854775807):
  Calls Tryz.prog 13 #[.agg #[.int .i64 a,.int .i64 c],.int .i64 f,.int .i64 t,.string b,.slice A n cap] w λx w'=>ERes w (sgE (a,c) f t b l) x w':=by
 have HV:=h_ (λW (hb:Below w.heap.size w W)=>Yc (ha.below hb) a c f t (hv.below hb) bZ ad n cap hn bo);have HK:=h_ (λW h=>Yy (w:=w) (W:=W) (a:=a) (c:=c) h);obtain⟨R,hR⟩:∃R,sgE (a,c) f t b l=R:=⟨_,rfl⟩;rw[hR];unfold ERes;cases bq:sgV (a,c) f t b l with
 |false=>
  rw[bq] at HV;rw[ZkO bq] at hR;subst hR;have eP:bs ([]:List UInt8)=⟨#[]⟩:=rfl;simp only[eP];clear ha hv bZ ad hn bo bq;go_enter Tryz.func13,Tryz.ntmps13;go_wp2_with fail;refine(HV.o _ (HK.o _ (Vae _ _)).2.2.1).mono ?_;rintro x w1 ⟨rfl,a7⟩;obtain⟨_,_,a8,_⟩:=HK.o _ a7;go_wp2;go_returns;exact⟨rfl,a8⟩
 |true=>
  rw[bq] at HV;by_cases h0:l=[]
  ·subst h0;rw[Zjm bq] at hR;subst hR;have eP:bs ([]:List UInt8)=⟨#[]⟩:=rfl;have o8:n=0:=hn;subst o8;simp only[eP];clear ha hv bZ ad hn bo bq;go_enter Tryz.func13,Tryz.ntmps13;go_wp2_with fail;refine(HV.o _ (HK.o _ (Vae _ _)).2.2.1).mono ?_;rintro x w1 ⟨rfl,a7⟩;obtain⟨_,_,a8,_⟩:=HK.o _ a7;go_wp2;go_returns;exact⟨rfl,a8⟩
  ·rw[ZkP bq h0] at hR;obtain⟨v1,v2,v3,v4,v5⟩:=Qj.1 bq;obtain⟨i1,i2,i3⟩:=YJ.1 v2;have hT:=Z2e bq;obtain⟨cc,_,_,Kq⟩:=Xy hT;have rX:=ZdF (tms f l);have Kr:(encT (tms f l)).2=0:=(by rw[Kq])
   have dQ:∀v∈l.map (·.2),vaB Z9 (a,c) (toL v)=true:=λv hm=>by
    obtain⟨x,hx,rfl⟩:=Va6.1 hm;exact Z0p v5 x hx
   have fK:(tms f l).length=l.length:=(by unfold tms;rw[Vag]);have fR:n<=4096:=(by omega)
   have vc:((n:Int)==0)=false:=by
    rw[Vam];intro e;exact h0 (Vaj (by omega))
   have Ph:=h_ (λi (h:i<l.length)=>ZdD v5 _ (Vak h));have Pi:=h_ (λi (h:i<l.length)=>Zgo f l i h);have Ha:=h_ ha;have Hn:=h_ hn;have vv:=h_ (λ(W:World) A2 aE (h:At W A2 (ivs (tms f l)))=>Z22 h n aE (by rw[fK,hn]) bo);unfold ERes at vv;rw[Kr] at vv;have sC:Hid ((tms f l).length=n):=h_ (by rw[fK,hn]);have j1:IntKind.i64.wrap (f+1)=f+1:=(by rw[IntWalk.i64_in _ (by omega)]);have H0:=h_ (λ(W:World) (B:Nat)=>(Zk:W.ownsRow B 3 1 (.slice none 0 0) 0 []));obtain⟨T,mW⟩:∃T,(encT (tms f l)).1=T:=⟨_,rfl⟩;rw[mW] at vv rX;have fa:frms (a,c) f l=(1,T)::if a=3 then[] else[(fkd (a,c),(vlsE (a,c) (l.map (·.2))).1)]:=by unfold frms;rw[mW]
   have V8:Hid (tms f (l.take 0)=[]):=h_ rfl;have CY:Hid (tms f (l.take n)=tms f l):=h_ (by rw[Vah (by rw[hn];exact UZz)]);have Hi:Hid (-1<=f/\t<=1099511627776):=h_ ⟨i1,i3⟩;by_cases h3:a=3
   ·rw[Vaf h3] at fa;rw[fa] at hR;have HS:=h_ (λ(W:World) A2 (h:At W A2 (frs [(1,T)])) aE=>QR h (λp hp=>by rw[Vax.1 hp];show(1:Nat)<16;decide) (λp hp=>by rw[Vax.1 hp];show T.length<=_;omega) 1 aE rfl (by decide));rw[hR] at HS;have iT:frs [(1,T)]=[.int .i64 1,.string (bs T)]:=rfl;have mH:=h_ iT;subst h3;generalize bs T=S at*;clear ha hv bZ ad hn bq h0 hR v1 v2 v3 v4 v5 hT Kq Kr dQ fK mW fa rX i1 i2 i3 iT;go_enter Tryz.func13,Tryz.ntmps13;go_wp2_with fail;refine(HV.o _ (HK.o _ (Vae _ _)).2.2.1).mono ?_;rintro x w1 ⟨rfl,a7⟩;have ao:=h_ a7;clear a7;go_wp2;go_loopw [12,32] (λjR xB wr=>∃i:Nat,i<=n/\xB=.int .i64 (i:Int)/\Hid (wr.ownsRow (w.alloc (.cells #[.int .i64 3,.int .i64 c] 23)).heap.size 3 1 jR i ((tms f (l.take i)).map iv))/\Hid (Below (w.alloc (.cells #[.int .i64 3,.int .i64 c] 23)).heap.size (w.alloc (.cells #[.int .i64 3,.int .i64 c] 23)) wr)) (λ_ xB _=>(n-intOf xB).toNat);case atStart=>exact⟨0,Vat _,rfl,h_ (H0.o _ _),ao⟩
    case round=>
     clear ao;obtain⟨i,hi,rfl,aa,hb⟩:=hrel;obtain⟨A5,aY,rfl,bS⟩:=Zl aa.o;by_cases ab:i<n
     ·have bu:i<l.length:=(by rw[<-Hn.o];exact ab);obtain⟨z0,z1,cR,dP⟩:=HK.o _ hb.o;obtain⟨bA,oA,rfl,tf,c0,c1⟩:=Ye (Ha.o.below cR) i bu;have cZ:=Pi.o i bu;have aU:=Ph.o i bu;obtain⟨⟨X,V⟩,hTV⟩:∃y,l[i]=y:=⟨_,rfl⟩;rw[hTV] at c0 c1 cZ aU;simp only at c0 c1 cZ aU;have j2:IntKind.i64.wrap (X-(f+1))=X-(f+1):=(by rw[IntWalk.i64_in _ (by have:=Hi.o;omega)]);have a7:=hb.o.alloc hb.o.size (.cells #[.int .i64 X,.string V] 33);have ah:=Zn aa.o (Fr.of_below (S:=nob) ((Vae wr.heap.size wr).alloc UZz (.cells #[.int .i64 X,.string V] 33))) (λ_ _ f=>f);obtain⟨v',W',ag,ae,aF⟩:=Z4a ah a7 a7.size (by omega) (X-(f+1));rw[<-cZ] at ae;rw[World.size_alloc] at ag;have aq:=h_ ag;have aw:=h_ ae;have cE:=h_ aF;have iZ:(0:Int)<=(i:Int):=(by omega);have pY:(i:Int)<(n:Int):=(by omega);clear ag ae aF cZ hTV bu a7 ah aa hb aU cR bS
      go_wp2_with (
       at_builtin;refine Z3 (by with_reducible rfl) rfl _ _ _ rfl _ _ (by rfl) (by rfl) aq.o ?_)
      refine⟨⟨i+1,ab,by go_num,aw,cE⟩,?_⟩;simp[intOf]<;>omega
     ·have aU:i=n:=(by omega);subst aU;rw[CY.o] at bS;have ui:=h_ (vv.o wr A5 aY bS);clear aa bS;have hz:=HK.o _ hb.o;go_wp2_with fail;refine(ui.o).mono ?_;rintro x w2 ⟨rfl,a8⟩;have an:=h_ (hb.o.trans (a8.mono hb.o.size));have ey:=an.o.alloc an.o.size (.cells #[.int .i64 1,.string S] 36);obtain⟨z0,_,af,_⟩:=HK.o _ ey;have xC:=h_ (HS.o (w2.alloc (.cells #[.int .i64 1,.string S] 36)) (some ⟨w2.heap.size,0,none⟩) (by rw[mH.o];exact(Bk.new w2 36 #[.int .i64 1,.string S]).at_) 1);have aJ:=h_ af;clear a8 ey af hz;go_wp2_with fail;refine(xC.o).mono ?_;rintro x w3 ⟨rfl,ax⟩;have bh:=h_ (aJ.o.trans (ax.mono aJ.o.size));clear ax;go_wp2;go_returns;exact⟨rfl,bh.o⟩
   ·rw[Vad h3] at fa;rw[fa] at hR;have gr:=Z4c v1 dQ (by rw[Vag];exact v4);have lJ:=(Z5D v1 h3 dQ (by rw[Vag];exact v4)).1;have HE:=h_ (λ(W:World) (hb:Below w.heap.size w W)=>ZdB (ha.below hb) n cap hn (by omega) a c v1 h3 ad);rw[lJ] at HE;obtain⟨D,hD⟩:∃D,(vlsE (a,c) (l.map (·.2))).1=D:=⟨_,rfl⟩;obtain⟨K,hK⟩:∃K,fkd (a,c)=K:=⟨_,rfl⟩;have lK:K<16:=(by rw[<-hK];exact Z8f _);rw[hD,hK] at HE hR;rw[hD] at gr
    have HS:=h_ (λ(W:World) A2 (h:At W A2 (frs [(1,T),(K,D)])) aE=>QR h (λp hp=>by
     rcases Vba.1 hp with rfl|hp
     ·show(1:Nat)<16;decide
     ·rw[Vax.1 hp];exact lK) (λp hp=>by
     rcases Vba.1 hp with rfl|hp
     ·show T.length<=_;omega
     ·rw[Vax.1 hp];exact gr) 2 aE rfl (by decide))
    rw[hR] at HS;have CZ:evV (K:Int) D 0=.tuple #[.agg #[.int .i64 (K:Int),.string (bs D)],.int .i64 0]:=rfl;rw[CZ] at HE;have iT:frs [(1,T),(K,D)]=[.int .i64 1,.string (bs T)]++[.int .i64 (K:Int),.string (bs D)]:=rfl;have mH:=h_ iT;have yG:(a !=3)=true:=(by rw[Va0];exact h3);generalize bs T=S at*;generalize bs D=S2 at*;generalize (K:Int)=KI at*;clear ha hv bZ ad hn bq h0 hR v1 v2 v3 v4 v5 hT Kq Kr dQ fK mW fa rX i1 i2 i3 iT lJ gr CZ hK lK hD;go_enter Tryz.func13,Tryz.ntmps13;go_wp2_with fail;refine(HV.o _ (HK.o _ (Vae _ _)).2.2.1).mono ?_;rintro x w1 ⟨rfl,a7⟩;have ao:=h_ a7;clear a7;go_wp2;go_loopw [12,32] (λjR xB wr=>∃i:Nat,i<=n/\xB=.int .i64 (i:Int)/\Hid (wr.ownsRow (w.alloc (.cells #[.int .i64 a,.int .i64 c] 23)).heap.size 3 1 jR i ((tms f (l.take i)).map iv))/\Hid (Below (w.alloc (.cells #[.int .i64 a,.int .i64 c] 23)).heap.size (w.alloc (.cells #[.int .i64 a,.int .i64 c] 23)) wr)) (λ_ xB _=>(n-intOf xB).toNat);case atStart=>exact⟨0,Vat _,rfl,h_ (H0.o _ _),ao⟩
    case round=>
     clear ao;obtain⟨i,hi,rfl,aa,hb⟩:=hrel;obtain⟨A5,aY,rfl,bS⟩:=Zl aa.o;by_cases ab:i<n
     ·have bu:i<l.length:=(by rw[<-Hn.o];exact ab);obtain⟨z0,z1,cR,dP⟩:=HK.o _ hb.o;obtain⟨bA,oA,rfl,tf,c0,c1⟩:=Ye (Ha.o.below cR) i bu;have cZ:=Pi.o i bu;have aU:=Ph.o i bu;obtain⟨⟨X,V⟩,hTV⟩:∃y,l[i]=y:=⟨_,rfl⟩;rw[hTV] at c0 c1 cZ aU;simp only at c0 c1 cZ aU;have j2:IntKind.i64.wrap (X-(f+1))=X-(f+1):=(by rw[IntWalk.i64_in _ (by have:=Hi.o;omega)]);have a7:=hb.o.alloc hb.o.size (.cells #[.int .i64 X,.string V] 33);have ah:=Zn aa.o (Fr.of_below (S:=nob) ((Vae wr.heap.size wr).alloc UZz (.cells #[.int .i64 X,.string V] 33))) (λ_ _ f=>f);obtain⟨v',W',ag,ae,aF⟩:=Z4a ah a7 a7.size (by omega) (X-(f+1));rw[<-cZ] at ae;rw[World.size_alloc] at ag;have aq:=h_ ag;have aw:=h_ ae;have cE:=h_ aF;have iZ:(0:Int)<=(i:Int):=(by omega);have pY:(i:Int)<(n:Int):=(by omega);clear ag ae aF cZ hTV bu a7 ah aa hb aU cR bS
      go_wp2_with (
       at_builtin;refine Z3 (by with_reducible rfl) rfl _ _ _ rfl _ _ (by rfl) (by rfl) aq.o ?_)
      refine⟨⟨i+1,ab,by go_num,aw,cE⟩,?_⟩;simp[intOf]<;>omega
     ·have aU:i=n:=(by omega);subst aU;rw[CY.o] at bS;have ui:=h_ (vv.o wr A5 aY bS);clear aa bS;go_wp2_with fail;refine(ui.o).mono ?_;rintro x w2 ⟨rfl,a8⟩;have an:=h_ (hb.o.trans (a8.mono hb.o.size));have ey:=an.o.alloc an.o.size (.cells #[.int .i64 1,.string S] 36);obtain⟨z0,z1,af,_⟩:=HK.o _ ey;have cA:=h_ (Zgp w2 (w.alloc (.cells #[.int .i64 a,.int .i64 c] 23)).heap.size 36 (.int .i64 1) (.string S) an.o.size);have gQ:=h_ ey;have ka:=h_ (HE.o _ af);clear a8 ey af;go_wp2_with fail;refine(ka.o).mono ?_;rintro x w3 ⟨rfl,ax⟩;have Ks:=(gQ.o.trans (ax.mono gQ.o.size)).alloc (Vaq gQ.o.size ax.size) (.cells #[.int .i64 KI,.string S2] 36);have aR:=Zn (Zn cA.o (Fr.of_below (S:=nob) ax) (λ_ _ f=>f)) (Fr.of_below (S:=nob) ((Vae w3.heap.size w3).alloc UZz (.cells #[.int .i64 KI,.string S2] 36))) (λ_ _ f=>f)
      obtain⟨v',W',ag,ae,aF,_⟩:=Z3t (P:=Tryz.prog) 37 36 _ _ 2 Tryz.underlying37 Zhc rfl (by decide) aR Ks Ks.size [.int .i64 KI,.string S2] rfl (by
       intro y hy;simp at hy;rcases hy with rfl|rfl<;>rfl) (by unfold maxLen;omega) (by omega)
      obtain⟨A6,iJ,Kt,bW⟩:=Zl ae;rw[World.size_alloc] at ag;have aq:=h_ ag;have xC:=h_ (HS.o W' A6 (by rw[mH.o];exact bW) iJ);have dA:=h_ (HK.o _ aF).2.2.1;subst Kt;clear ag ae aF aR Ks ax bW
      go_wp2_with (
       at_builtin;refine Z3 (by with_reducible rfl) rfl _ _ _ rfl _ _ (by rfl) (by rfl) aq.o ?_)
      go_wp2_with fail;refine(xC.o).mono ?_;rintro x w5 ⟨rfl,eM⟩;have ou:=h_ (dA.o.trans (eM.mono dA.o.size));clear eM;go_wp2;go_returns;exact⟨rfl,ou.o⟩
end Go.Proofs.YtchokmkfobandaaGreatDoor
namespace Wv.Sg
open Wv.Vi Wv.Ru Wv.Bc Wv.Fm Wv.Lz Wv.Sn Wv.Tm Wv.Dc
open Go.Proofs.YtchokmkfobandaaGreatDoor
theorem Zjn {s:Int×Int} {f t:Int} {b:ByteArray} {d:List UInt8} (h:sgV s f t b []=false):sgD s f t b d=([],1):=by unfold sgD;rw[Vaf h]
theorem Zjo {s:Int×Int} {f t:Int} {b:ByteArray} (h:sgV s f t b []=true):sgD s f t b []=([],0):=by unfold sgD;rw[Vad (by simp[h]),Vaf rfl]
theorem Zjp {s:Int×Int} {f t:Int} {b:ByteArray} {d:List UInt8} (h:sgV s f t b []=true) (h4:4096<d.length):sgD s f t b d=([],12):=by
 unfold sgD;rw[Vad (by simp[h]),Vad (by intro e;subst e;simp at h4),Vaf h4]
theorem ZdH {s:Int×Int} {f t:Int} {b:ByteArray} {d:List UInt8} (h:sgV s f t b []=true) (h0:d≠[]) (h4:¬4096<d.length):sgD s f t b d=match rdCh s f d with
  |none=>([],12)
  |some l=>if sgV s f t b l=true then(l,0) else([],12):=by
 unfold sgD;rw[Vad (by simp[h]),Vad h0,Vad h4];cases rdCh s f d<;>rfl
theorem Zjq {s:Int×Int} {f:Int} {d:List UInt8} (h:unws d=none):rdCh s f d=none:=by unfold rdCh;rw[h]
theorem Z8m {s:Int×Int} {f:Int} {d:List UInt8} {fr:List (Nat×List UInt8)} (h:unws d=some fr) (h2:fr.length≠if s.1=3 then 1 else 2):rdCh s f d=none:=by
  unfold rdCh;rw[h];cases fr with
  |nil=>rfl
  |cons p r=>
    simp only;split
    · have : ∀ n, Yk s n r = none := λn => by
        unfold Yk;by_cases h3:s.1=3
        · rw[Vaf h3] at h2⊢
          rw[Vad (by intro e;subst e;exact h2 rfl)]
        · rw[Vad h3] at h2⊢
          match r,h2 with
          |[],_=>rfl
          |[q],h2=>exact absurd rfl h2
          |_::_::_,_=>rfl
      rw[this];rfl
    · rfl
theorem Xo {s:Int×Int} {f:Int} {d:List UInt8} {p:Nat×List UInt8} {r:List (Nat×List UInt8)} (h:unws d=some (p::r)):rdCh s f d=if p.1=1/\(decT p.2 4096).2=0/\(decT p.2 4096).1≠[] then(Yk s (decT p.2 4096).1.length r).map (zipC f (decT p.2 4096).1) else none:=by
 unfold rdCh;rw[h]
theorem ZdI {s:Int×Int} {n:Nat} (h3:s.1=3):Yk s n []=some (List.replicate n ⟨#[]⟩):=by unfold Yk;rw[Vaf h3,Vaf rfl]
theorem Z9M {s:Int×Int} {n:Nat} {q:Nat×List UInt8} (h3:s.1≠3):Yk s n [q]=if q.1=fkd s/\(vlsD s q.2 n).2=0/\(vlsD s q.2 n).1.length=n then some (vlsD s q.2 n).1 else none:=by unfold Yk;rw[Vad h3]
theorem Z5G (f:Int) {ts:List Int} {vs:List ByteArray} (h:ts.length=vs.length) {i:Nat} (hi:i<ts.length):(zipC f ts vs).take (i+1)=(zipC f ts vs).take i++[(ts[i]+f+1,vs[i]'(by omega))]:=by
 have hl:i<(zipC f ts vs).length:=(by rw[XU f ts vs h];exact hi);rw[Vac hl];congr 2;simp[zipC]
theorem Z3a (f:Int) {ts:List Int} {vs:List ByteArray} (hs:∀v∈vs,v.size<=128):∀c∈zipC f ts vs,c.2.size<=1099511627776:=by
 intro c hc;obtain⟨i,hi,rfl⟩:=List.getElem_of_mem hc;have hv:i<vs.length:=(by unfold zipC at hi;rw[Vb9] at hi;omega);have e:((zipC f ts vs)[i]).2=vs[i]:=(by simp[zipC]);rw[e];have:=hs _ (Vak hv);omega
theorem Z5H:∀ {l:List (Nat×List UInt8)} {d:List UInt8},ZK l=some d->∀p∈l,p.2.length<=4096
 |[],_,_,p,hp=>by cases hp
 |q::l,d,h,p,hp=>by
  unfold ZK at h;cases hw:ZB q.1 q.2 with
  |none=>rw[hw] at h;cases h
  |some w=>
   rw[hw] at h;simp only at h;cases hl:ZK l with
   |none=>rw[hl] at h;cases h
   |some x=>
    rcases Vba.1 hp with rfl|hp
    ·have h2:=Z2H (k:=p.1) (c:=p.2);rw[hw] at h2;exact of_decide_eq_true h2.symm
    ·exact Z5H hl p hp
theorem Z1l {d:List UInt8} {l:List (Nat×List UInt8)} (h:unws d=some l):∀p∈l,p.2.length<=4096:=Z5H (Z37 d.length UZz h)
end Wv.Sg
namespace Go.Proofs.YtchokmkfobandaaGreatDoor
open Go.RowKit Go.Proofs Wv Wv.Vi Wv.Ru Wv.Bc Wv.Sn Wv.Sg Wv.Tm Wv.Dc Wv.Fm
def CdR (w:World) (r:List (Int×ByteArray)×Nat) (x:Ending) (w':World):Prop:=∃v,x=.returned (.tuple #[v,.int .i64 (r.2:Int)])/\ChR w' v r.1/\Below w.heap.size w w'
theorem ZdJ {d:List UInt8} (hd:d.length<=1000000) (h:unws d=none) (W:World):Calls Tryz.prog 36 #[.string (bs d)] W λx w'=>∃v,x=.returned (.tuple #[v,.int .i64 12])/\Below W.heap.size W w':=
 (Z2k d hd W).mono λx w' hx=>by
  unfold FdR at hx;rw[h] at hx;obtain⟨v,h1,_,h2⟩:=hx;exact⟨v,by simpa using h1,h2⟩
theorem Z71 {d:List UInt8} {fr:List (Nat×List UInt8)} (hd:d.length<=1000000) (h:unws d=some fr) (W:World):Calls Tryz.prog 36 #[.string (bs d)] W λx w'=>∃A cap,x=.returned (.tuple #[.slice A fr.length cap,.int .i64 0])/\At w' A (frs fr)/\Below W.heap.size W w':=
 (Z2k d hd W).mono λx w' hx=>by
  unfold FdR at hx;rw[h] at hx;obtain⟨v,h1,⟨A,cap,h2,h3⟩,h4⟩:=hx;subst h2;exact⟨A,cap,by simpa using h1,h3,h4⟩
theorem Zhg {s:Int×Int} {n k:Nat} {C:List UInt8} (h3:s.1≠3):Yk s n [(k,C)]=dvO s k C n:=by
 rw[Z9M h3];unfold dvO;simp only[Int.ofNat_inj]
theorem ZdK {s:Int×Int} {n:Nat} {k:Int} {C:List UInt8} {r:List ByteArray} (h:dvO s k C n=some r):r.length=n/\∀v∈r,v.size<=128:=by
 unfold dvO at h;split at h
 ·rename_i hc;injection h with h;subst h;exact⟨by have:=hc.2.2;omega,Z9J _ _ _⟩
 ·cases h
theorem Z8n {w:World} {A:Option Addr} {l:List Int} (ha:At w A (ivs l)) (k:Nat) (h:k<l.length):∃b o,A=some ⟨b,o,none⟩/\b<w.heap.size/\w.cell? ⟨b,o+k,none⟩=some (.int .i64 l[k]):=
 ha.get k _ (by unfold ivs;rw[Vbb,Van h];rfl)
theorem ZdL {w:World} {A:Option Addr} {l:List ByteArray} (ha:At w A (svs l)) (k:Nat) (h:k<l.length):∃b o,A=some ⟨b,o,none⟩/\b<w.heap.size/\w.cell? ⟨b,o+k,none⟩=some (.string l[k]):=
 ha.get k _ (by unfold svs;rw[Vbb,Van h];rfl)
theorem ZdM {w:World} (a c f t:Int) (hv:VaC a c w) {b:ByteArray} (bZ:b.size<=1099511627776) (d:List UInt8) (hd:d.length<=1000000000) (hr:sgV (a,c) f t b []=false\/d=[]\/4096<d.length\/unws d=none):
  Calls Tryz.prog 18 #[.agg #[.int .i64 a,.int .i64 c],.int .i64 f,.int .i64 t,.string b,.string (bs d)] w λx w'=>CdR w (sgD (a,c) f t b d) x w':=by
 have HV:=h_ (λW (hb:Below w.heap.size w W)=>Yc (l:=[]) (At.nil W none) a c f t (hv.below hb) bZ (λx hx=>by cases hx) 0 0 rfl (by decide));have HK:=h_ (λW h=>Yy (w:=w) (W:=W) (a:=a) (c:=c) h);unfold CdR;cases bq:sgV (a,c) f t b [] with
 |false=>
  rw[bq] at HV;have HR:=h_ (Zjn (d:=d) bq);generalize sgD (a,c) f t b d=R at*;generalize bs d=S at*;clear hv bZ hd hr bq;go_enter Tryz.func18,Tryz.ntmps18;go_wp2_with fail;refine(HV.o _ (HK.o _ (Vae _ _)).2.2.1).mono ?_;rintro x w1 ⟨rfl,a7⟩;obtain⟨_,_,a8,_⟩:=HK.o _ a7;go_wp2;go_returns;exact⟨_,by rw[HR.o];rfl,by rw[HR.o];exact ChR.nil _,a8⟩
 |true=>
  rw[bq] at HV;have cB:=Xl d;have ad:(bs d).size=d.length:=Z0 d;by_cases h0:d=[]
  ·subst h0;have HR:=h_ (Zjo bq);generalize sgD (a,c) f t b []=R at*;rw[show bs ([]:List UInt8)=⟨#[]⟩ from rfl];clear hv bZ hd hr bq cB ad;go_enter Tryz.func18,Tryz.ntmps18;go_wp2_with fail;refine(HV.o _ (HK.o _ (Vae _ _)).2.2.1).mono ?_;rintro x w1 ⟨rfl,a7⟩;obtain⟨_,_,a8,_⟩:=HK.o _ a7;go_wp2;go_returns;exact⟨_,by rw[HR.o];rfl,by rw[HR.o];exact ChR.nil _,a8⟩
  ·rw[Vai h0] at cB;by_cases h4:4096<d.length
   ·have HR:=h_ (Zjp bq h4);have hg:(4096:Int)<((bs d).size:Int):=(by omega);generalize sgD (a,c) f t b d=R at*;generalize bs d=S at*;clear hv bZ hd hr bq h0 ad h4;go_enter Tryz.func18,Tryz.ntmps18;go_wp2_with fail;refine(HV.o _ (HK.o _ (Vae _ _)).2.2.1).mono ?_;rintro x w1 ⟨rfl,a7⟩;obtain⟨_,_,a8,_⟩:=HK.o _ a7;go_wp2;go_returns;exact⟨_,by rw[HR.o];rfl,by rw[HR.o];exact ChR.nil _,a8⟩
   ·have hu:unws d=none:=by
     rcases hr with h|h|h|h
     ·rw[bq] at h;cases h
     ·exact absurd h h0
     ·exact absurd h h4
     ·exact h
    have HR:Hid (sgD (a,c) f t b d=([],12)):=h_ (by rw[ZdH bq h0 h4,Zjq hu]);have hg:¬(4096:Int)<((bs d).size:Int):=(by omega);have HF:=h_ (λW=>ZdJ (by omega) hu W);generalize sgD (a,c) f t b d=R at*;generalize bs d=S at*;clear hv bZ hd hr bq h0 ad h4 hu;by_cases h3:a=3
    ·subst h3;go_enter Tryz.func18,Tryz.ntmps18;go_wp2_with fail;refine(HV.o _ (HK.o _ (Vae _ _)).2.2.1).mono ?_;rintro x w1 ⟨rfl,a7⟩;obtain⟨_,_,a8,_⟩:=HK.o _ a7;have ao:=h_ a7;clear a7 a8;go_wp2_with fail;refine(HF.o _).mono ?_;rintro x w2 ⟨v,rfl,a8⟩;have an:=h_ (ao.o.trans (a8.mono ao.o.size));obtain⟨z0,z1,af,_⟩:=HK.o _ an.o;clear a8;go_wp2;go_returns;exact⟨_,by rw[HR.o];rfl,by rw[HR.o];exact ChR.nil _,af⟩
    ·have yG:(a==3)=false:=(by rw[Vam];exact h3);clear h3;go_enter Tryz.func18,Tryz.ntmps18;go_wp2_with fail;refine(HV.o _ (HK.o _ (Vae _ _)).2.2.1).mono ?_;rintro x w1 ⟨rfl,a7⟩;obtain⟨_,_,a8,_⟩:=HK.o _ a7;have ao:=h_ a7;clear a7 a8;go_wp2_with fail;refine(HF.o _).mono ?_;rintro x w2 ⟨v,rfl,a8⟩;have an:=h_ (ao.o.trans (a8.mono ao.o.size));obtain⟨z0,z1,af,_⟩:=HK.o _ an.o;clear a8;go_wp2;go_returns;exact⟨_,by rw[HR.o];rfl,by rw[HR.o];exact ChR.nil _,af⟩
theorem Zjr {α:Type} {l:List α} (h:l.length=2):∃p q,l=[p,q]:=by
 match l,h with
 |[p,q],_=>exact⟨p,q,rfl⟩
theorem YT {w W:World} {p:Addr} {v:Value} (hb:Below w.heap.size w W) (hp:p.block<w.heap.size) (hc:w.cell? p=some v):W.cell? p=some v:=by rw[World.cell?_of_block (hb.block _ hp)];exact hc
theorem Zhh {w:World} (a c k:Int) (n:Nat) (D:List UInt8) (hs:tyB (a,c)=true) (h3:a≠3) (hd:D.length<=1000000000):
  Calls Tryz.prog 38 #[.agg #[.int .i64 a,.int .i64 c],.agg #[.int .i64 k,.string (bs D)],.int .i64 (n:Int)] w λx w'=>∃A m cap,x=.returned (.tuple #[.slice A m cap,.bool (dvO (a,c) k D n).isSome])/\(∀r,dvO (a,c) k D n=some r->m=r.length/\At w' A (svs r))/\Below w.heap.size w w':=
 Zjl a c k n D hs h3 hd
theorem ZdN {w:World} (a c f t:Int) (hv:VaC a c w) {b:ByteArray} (bZ:b.size<=1099511627776) (d:List UInt8) (bq:sgV (a,c) f t b []=true) (h0:d≠[]) (h4:¬4096<d.length) {fr:List (Nat×List UInt8)} (hu:unws d=some fr) (h3:a≠3):
  Calls Tryz.prog 18 #[.agg #[.int .i64 a,.int .i64 c],.int .i64 f,.int .i64 t,.string b,.string (bs d)] w λx w'=>CdR w (sgD (a,c) f t b d) x w':=by
 have HV:=h_ (λW (hb:Below w.heap.size w W)=>Yc (l:=[]) (At.nil W none) a c f t (hv.below hb) bZ (λx hx=>by cases hx) 0 0 rfl (by decide));rw[bq] at HV;have Ku:=h_ (λW A cap (vs:List ByteArray) {ts:List Int} (hl:vs.length=ts.length) (hs:∀v∈vs,v.size<=128) (h:At W A (cv (zipC f ts vs))) (hb:Below w.heap.size w W) (h9:ts.length<=4096)=>Yc h a c f t (hv.below hb) bZ (Z3a f hs) ts.length cap (by rw[XU f ts vs hl.symm]) (by omega));have HK:=h_ (λW h=>Yy (w:=w) (W:=W) (a:=a) (c:=c) h);obtain⟨v1,v2,_,_,_⟩:=Qj.1 bq;obtain⟨i1,i2,i3⟩:=YJ.1 v2;have uf:Hid (-1<=f/\f<=1099511627776):=h_ ⟨i1,by omega⟩;have cI:=h_ v1;have cB:=Xl d;rw[Vai h0] at cB;have hg:¬(4096:Int)<((bs d).size:Int):=(by rw[Z0];omega);have HF:=h_ (λW=>Z71 (by omega) hu W);have oE:=h_ (ZdH bq h0 h4);unfold CdR;generalize sgD (a,c) f t b d=R at*;generalize bs d=S at*;have yG:(a==3)=false:=(by rw[Vam];exact h3);have h3c:(a !=3)=true:=(by rw[Va0];exact h3);clear hv bZ bq h0 h4 v1 v2 i1 i2 i3;go_enter Tryz.func18,Tryz.ntmps18;go_wp2_with fail;refine(HV.o _ (HK.o _ (Vae _ _)).2.2.1).mono ?_;rintro x w1 ⟨rfl,a7⟩;obtain⟨_,_,a8,_⟩:=HK.o _ a7;have ao:=h_ a7;clear a7 a8;go_wp2_with fail;refine(HF.o _).mono ?_;rintro x w2 ⟨A2,aE,rfl,ak,a8⟩;have an:=h_ (ao.o.trans (a8.mono ao.o.size));obtain⟨z0,z1,af,dP⟩:=HK.o _ an.o;clear a8;by_cases hL:fr.length=2
 ·obtain⟨p,q,rfl⟩:=Zjr hL;obtain⟨kq,D⟩:=q;obtain⟨k,C⟩:=p;obtain⟨bF,oF,rfl,uE,c0,c1⟩:=Z8h ak 0 (by simp);obtain⟨V9,Va,dM,_,d0,d1⟩:=Z8h ak 1 (by simp);injection dM with dM;injection dM with e1 e2;subst e1;subst e2;simp at d0 d1;simp at c0 c1;try simp only[Vaz,Vcc]
  have HU:=h_ hu;have rD:=Z1l hu (k,C) Vap;by_cases hk:k=1
  ·subst hk;have lB:=h_ (λW=>Z28 (w:=W) (bs C) (by rw[Z0];show C.length<=_;have:C.length<=4096:=rD;omega) 4096);obtain⟨⟨ts,E⟩,cZ⟩:∃y,decT C 4096=y:=⟨_,rfl⟩;rw[Ze,cZ] at lB;unfold LRes at lB;have mI:=h_ cZ;have iU:=Z1U C 4096;rw[cZ] at iU;generalize bs C=SC at*;have aJ:=h_ af;clear ak rD af cZ;go_wp2_with fail;refine(lB.o _).mono ?_;rintro x w3 ⟨v,rfl,⟨A3,fB,ei,bd⟩,ax⟩;try simp only at ei bd
   subst ei;have bh:=h_ (an.o.trans (ax.mono an.o.size));obtain⟨z0,z1,aH,dP⟩:=HK.o _ bh.o;by_cases hE:E=0
   ·subst hE;by_cases iI:ts=[]
    ·subst iI;have HR:Hid (R=([],12)):=h_ (by rw[oE.o,Xo HU.o,mI.o];rw[Vad (λh=>h.2.2 rfl)]);simp only[Vcc];clear bd ax iU;go_wp2;go_returns;exact⟨_,by rw[HR.o];rfl,by rw[HR.o];exact ChR.nil _,aH⟩
    ·have uF:((ts.length:Int)==0)=false:=by
      rw[Vam];intro e;exact iI (Vaj (by omega))
     have hval:Zf ts=true/\ts.length<=4096:=by
      rcases iU with (h|h)|⟨l,h,_,h2,_,h3⟩
      ·injection h with h _;exact absurd h iI
      ·injection h with h _;exact absurd h iI
      ·injection h with h _;subst h;exact⟨h2,(Z8.1 h2).2.2⟩
     have EW:Hid (rdCh (a,c) f d=(Yk (a,c) ts.length [(kq,D)]).map (zipC f ts)):=h_ (by rw[Xo HU.o,mI.o];exact Vaf ⟨rfl,rfl,iI⟩);have xD:=h_ (λi (h:i<ts.length)=>(Z8.1 hval.1).2.1 ts[i] (Vak h));have bo:=hval.2;have bG:=Yg (P:=Tryz.prog) 64 9 (.string ⟨#[]⟩) 16 Tryz.underlying64 Z2i rfl (ts.length:Int) ts.length rfl (by omega) (by omega) w3;have cj:=(Bk.new w3 9 (Array.replicate ts.length (.string ⟨#[]⟩))).at_;have kJ:=bh.o.alloc bh.o.size (.cells (Array.replicate ts.length (.string ⟨#[]⟩)) 9);have cJ:=bd.below ((Vae w3.heap.size w3).alloc UZz (.cells (Array.replicate ts.length (.string ⟨#[]⟩)) 9));have D1:=h_ ax;clear ax iU bd iI hval;have gd:=Z1l HU.o (kq,D) (by simp);have D2:=h_ (λW=>Zhh (w:=W) a c (kq:Int) ts.length D cI.o h3 (by show D.length<=_;have:D.length<=4096:=gd;omega));obtain⟨O,hO⟩:∃O,dvO (a,c) (kq:Int) D ts.length=O:=⟨_,rfl⟩;rw[hO] at D2;have Kv:Hid (Yk (a,c) ts.length [(kq,D)]=O):=h_ (by rw[Zhg h3];exact hO);have D4:Hid (∀r,O=some r->r.length=ts.length/\∀v∈r,v.size<=128):=h_ (λr hr=>ZdK (hO.trans hr));have xE:=(D1.o.trans ((Vae w3.heap.size w3).alloc UZz (.cells (Array.replicate ts.length (.string ⟨#[]⟩)) 9)|>.mono D1.o.size)).drew
     have kh:∀X,Below (w3.alloc (.cells (Array.replicate ts.length (.string ⟨#[]⟩)) 9)).drew.heap.size (w3.alloc (.cells (Array.replicate ts.length (.string ⟨#[]⟩)) 9)).drew X->X.cell? ⟨w.heap.size,0,none⟩=some (.int .i64 a)/\X.cell? ⟨w.heap.size,1,none⟩=some (.int .i64 c)/\X.cell? ⟨bF,oF+2,none⟩=some (.int .i64 (kq:Int))/\X.cell? ⟨bF,oF+3,none⟩=some (.string (bs D)):=λX h=>by
      have g:=HK.o X (kJ.drew.trans (h.mono kJ.drew.size));have g2:=xE.trans (h.mono xE.size);exact⟨g.1,g.2.1,YT g2 uE d0,YT g2 uE d1⟩
     have lI:=h_ kh;have h0:=kh _ (Vae _ _);have vS:=h_ kJ.drew;have Kw:=h_ cJ;generalize bs D=SD at*;clear hO gd xE kh kJ cJ aH cj c0 c1 d0 d1;go_wp2;generalize w3.alloc (.cells (Array.replicate ts.length (.string ⟨#[]⟩)) 9)=wM at*
     go_region_held3 (λX=>X.cell? ⟨w.heap.size,0,none⟩=some (.int .i64 a)/\X.cell? ⟨w.heap.size,1,none⟩=some (.int .i64 c)/\X.cell? ⟨bF,oF+2,none⟩=some (.int .i64 (kq:Int))/\X.cell? ⟨bF,oF+3,none⟩=some (.string SD)) (first|with_reducible assumption) (first
      |(go_at_call 38;with_reducible refine(D2.o _).mono ?_;rintro r w5 ⟨A4,m4,gh,rfl,h4,aH⟩;have H4:=h_ h4;have cU:=lI.o _ aH;have bE:=h_ aH;clear h4 aH))
     have rE:=h_ (vS.o.trans (bE.o.mono vS.o.size));have D5:=h_ (Kw.o.drew.below bE.o);clear h0 cU dP z0 z1 uE;have hz:=HK.o _ rE.o;cases O with
     |none=>
      have HR:Hid (R=([],12)):=h_ (by rw[oE.o,EW.o,Kv.o];rfl);clear H4;have Kx:=hz.2.2.1;clear hz;simp only[Option.isSome_none];go_wp2;go_returns;exact⟨_,by rw[HR.o];rfl,by rw[HR.o];exact ChR.nil _,Kx⟩
     |some vs=>
      clear hz;obtain⟨jB,qQ⟩:=H4.o vs rfl;obtain⟨bq,eE⟩:=D4.o vs rfl;have D6:=h_ qQ;have kN:=h_ bq;have oQ:=h_ eE;have Ky:=h_ Kv.o;have yt:m4=ts.length:=jB.trans bq;subst yt;clear jB qQ bq eE H4 D4 Kv;simp only[Option.isSome_some];go_wp2;generalize w5=wL at*;go_loopw [19,92] (λwJ xF wr=>∃i:Nat,i<=ts.length/\xF=.int .i64 (i:Int)/\Hid (wr.ownsRow wL.heap.size 33 2 wJ i (cv ((zipC f ts vs).take i)))/\Hid (Below wL.heap.size wL wr)) (λ_ xF _=>(ts.length-intOf xF).toNat);case atStart=>exact⟨0,Vat _,rfl,h_ Zk,h_ (Vae _ _)⟩
      case round=>
       obtain⟨i,hi,rfl,aa,hb⟩:=hrel;obtain⟨A6,iJ,rfl,bW⟩:=Zl aa.o;have jd:=h_ (rE.o.trans (hb.o.mono rE.o.size));obtain⟨z0,z1,cR,D7⟩:=HK.o _ jd.o;by_cases ab:i<ts.length
       ·obtain⟨bT,oT,rfl,Pj,t0⟩:=Z8n (D5.o.below hb.o) i ab;obtain⟨bV,oV,rfl,Kz,y0⟩:=ZdL (D6.o.below hb.o) i (by rw[kN.o];exact ab);have gx:=Z5G f (ts:=ts) (vs:=vs) kN.o.symm ab;have aU:=xD.o i ab;obtain⟨X,hX⟩:∃X,ts[i]=X:=⟨_,rfl⟩;obtain⟨V,hV⟩:∃V,vs[i]'(by rw[kN.o];exact ab)=V:=⟨_,rfl⟩;rw[hX] at t0 gx aU;rw[hV] at y0 gx;have j1:IntKind.i64.wrap (X+f)=X+f:=(by rw[IntWalk.i64_in _ (by have:=uf.o;omega)]);have j2:IntKind.i64.wrap (X+f+1)=X+f+1:=(by rw[IntWalk.i64_in _ (by have:=uf.o;omega)]);obtain⟨v',W',ag,ae,aF⟩:=X8 aa.o hb.o hb.o.size (by omega) (X+f+1,V);rw[<-gx] at ae;have aq:=h_ ag;have aw:=h_ ae;have cE:=h_ aF;have iZ:(0:Int)<=(i:Int):=(by omega);have pY:(i:Int)<(ts.length:Int):=(by omega);clear ag ae aF gx aa hb aU bW hX hV
        go_wp2_with (
         at_builtin;refine Z3 (by with_reducible rfl) rfl _ _ _ rfl _ _ (by rfl) (by rfl) aq.o ?_)
        refine⟨⟨i+1,ab,by go_num,aw,cE⟩,?_⟩;simp[intOf]<;>omega
       ·have aU:i=ts.length:=(by omega);subst aU;rw[Vah (by rw[XU f ts vs kN.o.symm];exact UZz)] at bW;have mJ:=h_ (Ku.o wr A6 iJ vs kN.o oQ.o bW cR bo);have iQ:=h_ bW;have jb:=h_ cR;have sX:Hid (R=if sgV (a,c) f t b (zipC f ts vs)=true then(zipC f ts vs,0) else([],12)):=h_ (by rw[oE.o,EW.o,Ky.o];rfl);have KA:=h_ (XU f ts vs kN.o.symm);obtain⟨B,hB⟩:∃B,sgV (a,c) f t b (zipC f ts vs)=B:=⟨_,rfl⟩;rw[hB] at mJ sX;clear aa bW cR hB;cases B with
        |false=>
         have HR:Hid (R=([],12)):=h_ (by rw[sX.o];rfl);go_wp2_with fail;refine(mJ.o).mono ?_;rintro x w9 ⟨rfl,bZ⟩;have mE:=h_ (jb.o.trans (bZ.mono jb.o.size));clear bZ;go_wp2;go_returns;exact⟨_,by rw[HR.o];rfl,by rw[HR.o];exact ChR.nil _,mE.o⟩
        |true=>
         have HR:Hid (R=(zipC f ts vs,0)):=h_ (by rw[sX.o];rfl);go_wp2_with fail;refine(mJ.o).mono ?_;rintro x w9 ⟨rfl,bZ⟩;have mE:=h_ (jb.o.trans (bZ.mono jb.o.size));have jt:=h_ (iQ.o.below bZ);clear bZ;go_wp2;go_returns;exact⟨_,by rw[HR.o];rfl,by rw[HR.o];exact⟨_,_,by rw[KA.o];rfl,jt.o⟩,mE.o⟩
   ·have HR:Hid (R=([],12)):=h_ (by rw[oE.o,Xo HU.o,mI.o];rw[Vad (λh=>hE h.2.1)]);have th:((E:Int) !=0)=true:=(by rw[Va0];omega);clear bd ax iU hE;go_wp2;go_returns;exact⟨_,by rw[HR.o];rfl,by rw[HR.o];exact ChR.nil _,aH⟩
  ·have HR:Hid (R=([],12)):=h_ (by rw[oE.o,Xo HU.o];rw[Vad (λh=>hk h.1)]);have da:((k:Int) !=1)=true:=(by rw[Va0];omega);clear hk ak rD;go_wp2;go_returns;exact⟨_,by rw[HR.o];rfl,by rw[HR.o];exact ChR.nil _,af⟩
 ·have HR:Hid (R=([],12)):=h_ (by rw[oE.o,Z8m hu (by first|(rw[Vaf rfl];exact hL)|(rw[Vad h3];exact hL))]);have Pk:((fr.length:Int) !=2)=true:=(by rw[Va0];omega);clear hL ak hu;go_wp2;go_returns;exact⟨_,by rw[HR.o];rfl,by rw[HR.o];exact ChR.nil _,af⟩
end Go.Proofs.YtchokmkfobandaaGreatDoor
