import Derived.Test.YtchokmkfobandaaGreatDoorM44
set_option linter.unusedVariables false
set_option linter.unusedSimpArgs false
set_option maxRecDepth 100000
set_option maxHeartbeats 8000000
namespace Wv.Sg
open Wv.Sn
theorem Zgv {s:Int×Int} {f t k:Int} (h:(tyB s&&itv f t)=false):ZR s f t k=1:=by
 unfold ZR;rw[Vaf];cases h1:tyB s with
 |false=>exact .inl rfl
 |true=>
  rw[h1,Bool.true_and] at h;right;unfold nM;rw[Vaf (.inl h)];omega
theorem ZjA {s:Int×Int} {f t k:Int} (h:k<1):ZR s f t k=1:=by
 unfold ZR;rw[Vaf];right;unfold nM;rw[Vaf (.inr h)];omega
theorem ZjB {s:Int×Int} {f t k:Int} (h:nM f t k<0):ZR s f t k=1:=by
 unfold ZR;rw[Vaf (.inr h)]
theorem Zgw {s:Int×Int} {f t k:Int} (h:tyB s=true) (h2:0<=nM f t k) (h3:s.1=3):ZR s f t k=7:=by
 unfold ZR;rw[Vad (by rw[h];simp;exact h2),Vaf h3]
theorem Zgx {s:Int×Int} {f t k:Int} (h:tyB s=true) (h2:0<=nM f t k) (h3:s.1≠3):ZR s f t k=0:=by
 unfold ZR;rw[Vad (by rw[h];simp;exact h2),Vad h3]
end Wv.Sg
namespace Go.Proofs.YtchokmkfobandaaGreatDoor
open Go.RowKit Go.Proofs Wv Wv.Vi Wv.Bc Wv.Sn Wv.Sg Wv.Dc
def SmR (w:World) (e:Nat) (m:List Int) (x:Ending) (w':World):Prop:=∃v,x=.returned (.tuple #[v,.int .i64 (e:Int)])/\(e≠0->v=.slice none 0 0)/\(e=0->IvR w' v m)/\Below w.heap.size w w'
theorem Z14 (a c f t k:Int) (hk:I64 k) (w:World):
  Calls Tryz.prog 41 #[.agg #[.int .i64 a,.int .i64 c],.int .i64 f,.int .i64 t,.int .i64 k] w λx w'=>SmR w (ZR (a,c) f t k) (ms f t k) x w':=by
 have HI:=h_ (λW=>Z8k a c f t W);have HK:=h_ (λW h=>Y5 (w:=w) (W:=W) (a:=a) (c:=c) h);obtain⟨E,hE⟩:∃E,ZR (a,c) f t k=E:=⟨_,rfl⟩;rw[hE];cases hI:(tyB (a,c)&&itv f t) with
 |false=>
  have nr:E=1:=(by rw[<-hE];exact Zgv hI);subst nr;rw[hI] at HI;clear hE hI hk;go_enter Tryz.func41,Tryz.ntmps41;go_wp2_with fail;refine(HI.o _).mono ?_;rintro x w1 ⟨rfl,a7⟩;obtain⟨_,_,a8,_⟩:=HK.o _ a7;go_wp2;go_returns;exact⟨_,rfl,λ_=>rfl,λh=>(by cases h),a8⟩
 |true=>
  rw[hI] at HI;rw[Va0] at hI;obtain⟨hty,hit⟩:=hI;by_cases bk:k<1
  ·have nr:E=1:=(by rw[<-hE];exact ZjA bk);subst nr;clear hE hk hty hit;go_enter Tryz.func41,Tryz.ntmps41;go_wp2_with fail;refine(HI.o _).mono ?_;rintro x w1 ⟨rfl,a7⟩;obtain⟨_,_,a8,_⟩:=HK.o _ a7;go_wp2;go_returns;exact⟨_,rfl,λ_=>rfl,λh=>(by cases h),a8⟩
  ·have HM:=h_ (λW=>Z5E f t k hit (by omega) hk W);by_cases hn:0<=nM f t k
   ·rw[Vam hn] at HM;by_cases h3:a=3
    ·subst h3;have nr:E=7:=(by rw[<-hE];exact Zgw hty hn rfl);subst nr;clear hE hk hty hit hn;go_enter Tryz.func41,Tryz.ntmps41;go_wp2_with fail;refine(HI.o _).mono ?_;rintro x w1 ⟨rfl,a7⟩;have al:=h_ a7;clear a7;go_wp2_with fail;refine(HM.o _).mono ?_;rintro x w2 ⟨v,rfl,hv,a8⟩;obtain⟨z0,z1,af,_⟩:=HK.o _ (al.o.trans (a8.mono al.o.size));clear a8 hv;go_wp2;go_returns;exact⟨_,rfl,λ_=>rfl,λh=>(by cases h),af⟩
    ·have nr:E=0:=(by rw[<-hE];exact Zgx hty hn h3);subst nr;have xy:(a==3)=false:=(by rw[Van];exact h3);clear hE hk hty hit hn h3;go_enter Tryz.func41,Tryz.ntmps41;go_wp2_with fail;refine(HI.o _).mono ?_;rintro x w1 ⟨rfl,a7⟩;have al:=h_ a7;clear a7;go_wp2_with fail;refine(HM.o _).mono ?_;rintro x w2 ⟨v,rfl,hv,a8⟩;have Hv:=h_ hv;obtain⟨z0,z1,af,_⟩:=HK.o _ (al.o.trans (a8.mono al.o.size));clear a8 hv;go_wp2;go_returns;exact⟨_,rfl,λh=>absurd rfl h,λ_=>Hv.o,af⟩
   ·rw[Vah hn] at HM;have nr:E=1:=(by rw[<-hE];exact ZjB (by omega));subst nr;clear hE hk hty hit hn;go_enter Tryz.func41,Tryz.ntmps41;go_wp2_with fail;refine(HI.o _).mono ?_;rintro x w1 ⟨rfl,a7⟩;have al:=h_ a7;clear a7;go_wp2_with fail;refine(HM.o _).mono ?_;rintro x w2 ⟨v,rfl,hv,a8⟩;obtain⟨z0,z1,af,_⟩:=HK.o _ (al.o.trans (a8.mono al.o.size));clear a8 hv;go_wp2;go_returns;exact⟨_,rfl,λ_=>rfl,λh=>(by cases h),af⟩
end Go.Proofs.YtchokmkfobandaaGreatDoor
namespace Wv.Sg
open Wv.Vi Wv.Ru Wv.Bc Wv.Fm Wv.Lz Wv.Sn Wv.Tm Wv.Dc
open Go.Proofs.YtchokmkfobandaaGreatDoor
theorem ZjC {s:Int×Int} {f t k:Int} {l:List Chg} {e:Nat} (h:ZR s f t k=e) (he:e≠0):ssE s f t k l=([],e):=by unfold ssE;rw[h,Vaf he]
theorem Zhm {s:Int×Int} {f t k:Int} {l:List Chg} (h:ZR s f t k=0) (hv:ssV s f t k l=false):ssE s f t k l=([],1):=by unfold ssE;rw[Vad (by rw[h];simp),Vaf hv]
theorem ZkS {s:Int×Int} {f t k:Int} {l:List Chg} (h:ZR s f t k=0) (hv:ssV s f t k l=true):ssE s f t k l=if l=[] then([],0) else strm [(fkd s,(vlsE s (l.map (·.2))).1)]:=by unfold ssE;rw[Vad (by rw[h];simp),Vad (by rw[hv];simp)]
theorem Z4i {s:Int×Int} {f t k:Int} {l:List Chg} :ssV s f t k l=true↔l.length=(ms f t k).length/\∀i (h:i<l.length) (h2:i<(ms f t k).length),l[i].1=(ms f t k)[i]/\vaB Z6 s (toL l[i].2)=true:=by
 unfold ssV;rw[Va0,Vaq,Vbp];constructor
 ·rintro⟨h1,h2⟩;have hl:l.length=(ms f t k).length:=(by rw[<-h1,Vag]);refine⟨hl,λi h h3=>⟨?_,h2 _ (Vaj h)⟩⟩;have:(l.map (·.1))[i]'(by rw[Vag];exact h)=(ms f t k)[i]:=(by simp only[h1]);rw[<-this,Vcf]
 ·rintro⟨h1,h2⟩;refine⟨Vcz (by rw[Vag];exact h1) (λi h3 h4=> ?_),λc hc=> ?_⟩
  ·rw[Vcf];exact(h2 i (by rw[Vag] at h3;exact h3) h4).1
  ·obtain⟨i,hi,rfl⟩:=List.getElem_of_mem hc;exact(h2 i hi (by rw[<-h1];exact hi)).2
end Wv.Sg
namespace Go.Proofs.YtchokmkfobandaaGreatDoor
open Go.RowKit Go.Proofs Wv Wv.Vi Wv.Ru Wv.Bc Wv.Sn Wv.Sg Wv.Tm Wv.Dc
theorem ZdW {a c f t k:Int} (hk:I64 k) {e:Nat} (h:ZR (a,c) f t k=e) (he:e≠0) (w:World):
  Calls Tryz.prog 41 #[.agg #[.int .i64 a,.int .i64 c],.int .i64 f,.int .i64 t,.int .i64 k] w λx w'=>x=.returned (.tuple #[.slice none 0 0,.int .i64 (e:Int)])/\Below w.heap.size w w':=
 (Z14 a c f t k hk w).mono λx w' hx=>by
  unfold SmR at hx;rw[h] at hx;obtain⟨v,h1,h2,_,h4⟩:=hx;exact⟨by rw[h1,h2 he],h4⟩
theorem Zhn {a c f t k:Int} (hk:I64 k) (h:ZR (a,c) f t k=0) (w:World):
  Calls Tryz.prog 41 #[.agg #[.int .i64 a,.int .i64 c],.int .i64 f,.int .i64 t,.int .i64 k] w λx w'=>∃A cap,x=.returned (.tuple #[.slice A (ms f t k).length cap,.int .i64 0])/\At w' A (ivs (ms f t k))/\Below w.heap.size w w':=
 (Z14 a c f t k hk w).mono λx w' hx=>by
  unfold SmR at hx;rw[h] at hx;obtain⟨v,h1,_,h3,h4⟩:=hx;obtain⟨A,cap,h5,h6⟩:=h3 rfl;exact⟨A,cap,by rw[h1,h5];rfl,h6,h4⟩
theorem ZdX {w W1 W:World} {x:Int} {v:ByteArray} (hW:W1.heap=(w.alloc (.cells #[.int .i64 x,.string v] 33)).heap) (hb:Below W1.heap.size W1 W):W.cell? ⟨w.heap.size,0,none⟩=some (.int .i64 x)/\W.cell? ⟨w.heap.size,1,none⟩=some (.string v):=by
 have h0:Bk W1 w.heap.size 33 #[.int .i64 x,.string v]:=by
  unfold Bk;rw[hW];exact Bk.new w 33 #[.int .i64 x,.string v]
 have h:=h0.below hb h0.lt;exact⟨h.cell 0,h.cell 1⟩
theorem ZdY {w:World} {A:Option Addr} {l:List (Int×ByteArray)} (ha:At w A (cv l)) (a c f t k:Int) (hk:I64 k) (hv:VaC a c w) (ad:∀x∈l,x.2.size<=1099511627776) (n cap:Nat) (hn:n=l.length) (bf:n<=9223372036854775807):
  Calls Tryz.prog 22 #[.agg #[.int .i64 a,.int .i64 c],.int .i64 f,.int .i64 t,.int .i64 k,.slice A n cap] w λx w'=>ERes w (ssE (a,c) f t k l) x w':=by
 have HK:=h_ (λW h=>Y5 (w:=w) (W:=W) (a:=a) (c:=c) h);have eQ:bs ([]:List UInt8)=⟨#[]⟩:=rfl;obtain⟨R,hR⟩:∃R,ssE (a,c) f t k l=R:=⟨_,rfl⟩;rw[hR];unfold ERes;obtain⟨E,hE⟩:∃E,ZR (a,c) f t k=E:=⟨_,rfl⟩;by_cases tq:E=0
 ·subst tq;have HM:=h_ (λW=>Zhn hk hE W);have jv:=Z4f f t k;by_cases fK:n=(ms f t k).length
  ·have Ha:=h_ ha;have Hn:=h_ hn;have HV:=h_ (λv h W hW=>hv v h W hW);have cC:=h_ ad;have UX:=h_ (λ(W:World) (hb:Below w.heap.size w W) hs h3=>ZdH (ha.below hb) n cap hn (by omega) a c hs h3 ad);have Pd:=h_ hE;have Pe:=h_ hR;have Kz:n<=4096:=(by omega);obtain⟨Dh,cu,Di⟩:=Z0W hE;have ft:=h_ Dh;have Pf:=h_ Di;rw[<-fK] at HM;have KA:=h_ fK;clear ha hn hv ad hE hR jv fK bf Dh cu Di hk;go_enter Tryz.func22,Tryz.ntmps22;go_wp2_with fail;refine(HM.o _).mono ?_;rintro x w1 ⟨Am,mM,rfl,cN,a7⟩;have al:=h_ a7;have qv:=h_ cN;clear a7 cN HM;go_wp2;go_loopw [35] (λKB wr=>∃j:Nat,j<=n/\KB=.int .i64 (j:Int)/\Hid (∀i (h:i<l.length) (h2:i<(ms f t k).length),i<j->l[i].1=(ms f t k)[i]/\vaB Z6 (a,c) (toL l[i].2)=true)/\Hid (Below w1.heap.size w1 wr)) (λKB _=>(n-intOf KB).toNat);case atStart=>exact⟨0,Var _,rfl,h_ (λi _ _ h=>absurd h (Vda _)),h_ (Vae _ _)⟩
   case round=>
    obtain⟨j,hj,rfl,ao,hb⟩:=hrel;have lW:=h_ (al.o.trans (hb.o.mono al.o.size));obtain⟨z0,z1,cA,dc⟩:=HK.o _ lW.o;by_cases ab:j<n
    ·have cP:j<l.length:=(by rw[<-Hn.o];exact ab);have rl:j<(ms f t k).length:=(by rw[<-KA.o];exact ab);obtain⟨bA,oA,rfl,lV,c0,c1⟩:=ZP (Ha.o.below cA) j cP;obtain⟨bM,oM,rfl,UY,m0⟩:=Z8r (qv.o.below hb.o) j rl
     have aH:=λ(h:¬(l[j].1=(ms f t k)[j]/\vaB Z6 (a,c) (toL l[j].2)=true))=>(show R=([],1) by
      rw[<-Pe.o];refine Zhm Pd.o ?_;cases hq:ssV (a,c) f t k l with
      |false=>rfl
      |true=>exact absurd ((Z4i.1 hq).2 j cP rl) h)
     have aq:=λ(h:l[j].1=(ms f t k)[j]/\vaB Z6 (a,c) (toL l[j].2)=true) i (hi:i<l.length) (h2:i<(ms f t k).length) (h3:i<j+1)=>(show l[i].1=(ms f t k)[i]/\vaB Z6 (a,c) (toL l[i].2)=true by
      by_cases e:i=j
      ·subst e;exact h
      ·exact ao.o i hi h2 (by omega))
     have di:=cC.o l[j] (Vaj cP);obtain⟨⟨X,V⟩,hs⟩:∃y,l[j]=y:=⟨_,rfl⟩;obtain⟨M,KC⟩:∃y,(ms f t k)[j]=y:=⟨_,rfl⟩;rw[hs] at c0 c1 aH aq di;rw[KC] at m0 aH aq;simp only at c0 c1 aH aq di;have eD:=hb.o.alloc hb.o.size (.cells #[.int .i64 X,.string V] 33);have fq:=h_ eD;have yN:=h_ (lW.o.alloc lW.o.size (.cells #[.int .i64 X,.string V] 33));have gx:(0:Int)<=(j:Int):=(by omega);have HH:(j:Int)<(n:Int):=(by omega);by_cases EW:X=M
     ·subst EW;have ay:(X !=X)=false:=Vca _;obtain⟨B,hB⟩:∃B,vaB Z6 (a,c) (toL V)=B:=⟨_,rfl⟩;rw[hB] at aH aq;have th:=h_ (λW hW=>HV.o V di W hW);rw[hB] at th;have CU:(wr.alloc (.cells #[.int .i64 X,.string V] 33)).drew.heap.size=wr.heap.size+1:=(by simp)
      have jV:∀Y,Below (wr.alloc (.cells #[.int .i64 X,.string V] 33)).drew.heap.size (wr.alloc (.cells #[.int .i64 X,.string V] 33)).drew Y->Y.cell? ⟨wr.heap.size,0,none⟩=some (.int .i64 X)/\Y.cell? ⟨wr.heap.size,1,none⟩=some (.string V)/\Y.cell? ⟨w.heap.size,0,none⟩=some (.int .i64 a)/\Y.cell? ⟨w.heap.size,1,none⟩=some (.int .i64 c)/\Y.cell? ⟨bM,oM+j,none⟩=some (.int .i64 X):=λY h=>by
       have g:=HK.o Y (yN.o.drew.trans (h.mono yN.o.drew.size));have g2:=ZdX (w:=wr) (W1:=(wr.alloc (.cells #[.int .i64 X,.string V] 33)).drew) (x:=X) (v:=V) rfl h;have g3:=(((Vae wr.heap.size wr).alloc UZz (.cells #[.int .i64 X,.string V] 33)).drew).trans (h.mono (by rw[CU];omega));exact⟨g2.1,g2.2,g.1,g.2.1,YT g3 UY m0⟩
      have lI:=h_ jV;have h0:=jV _ (Vae _ _);have nj:=h_ (th.o _ (HK.o _ yN.o.drew).2.2.1);clear jV di hs KC eD hb ao cP rl hB CU th cA;cases B with
      |false=>
       have aQ:Hid (R=([],1)):=h_ (aH (λh=>by cases h.2));clear aH aq;go_wp2
       go_region_held3 (λY=>Y.cell? ⟨wr.heap.size,0,none⟩=some (.int .i64 X)/\Y.cell? ⟨wr.heap.size,1,none⟩=some (.string V)/\Y.cell? ⟨w.heap.size,0,none⟩=some (.int .i64 a)/\Y.cell? ⟨w.heap.size,1,none⟩=some (.int .i64 c)/\Y.cell? ⟨bM,oM+j,none⟩=some (.int .i64 X)) (first|with_reducible assumption) (first
        |(go_at_call 25;with_reducible refine(nj.o).mono ?_;rintro r w5 ⟨rfl,aB⟩;have cY:=lI.o _ aB;have bj:=h_ (yN.o.drew.trans (aB.mono yN.o.drew.size));clear aB))
       have aN:=(HK.o _ bj.o).2.2.1;clear h0 cY;go_wp2;go_returns;exact⟨by rw[aQ.o,eQ];rfl,aN⟩
      |true=>
       have dm:=h_ (aq ⟨rfl,rfl⟩);clear aH aq;go_wp2
       go_region_held3 (λY=>Y.cell? ⟨wr.heap.size,0,none⟩=some (.int .i64 X)/\Y.cell? ⟨wr.heap.size,1,none⟩=some (.string V)/\Y.cell? ⟨w.heap.size,0,none⟩=some (.int .i64 a)/\Y.cell? ⟨w.heap.size,1,none⟩=some (.int .i64 c)/\Y.cell? ⟨bM,oM+j,none⟩=some (.int .i64 X)) (first|with_reducible assumption) (first
        |(go_at_call 25;with_reducible refine(nj.o).mono ?_;rintro r w5 ⟨rfl,aB⟩;have cY:=lI.o _ aB;have bj:=h_ (fq.o.drew.trans (aB.mono fq.o.drew.size));clear aB))
       clear h0 cY;go_wp2;refine⟨⟨j+1,ab,by go_num,dm,bj⟩,?_⟩;simp[intOf]<;>omega
     ·have aQ:Hid (R=([],1)):=h_ (aH (λh=>EW h.1));have ay:(X !=M)=true:=(by rw[Va1];exact EW);have aN:=HK.o _ yN.o;have bU:=h_ aN.2.2.1;clear aH aq di hs KC eD hb ao cP rl EW aN cA;go_wp2;go_quiet (fail);go_wp2;go_returns;exact⟨by rw[aQ.o,eQ];rfl,⟨bU.o.1,bU.o.2,bU.o.3,bU.o.4,bU.o.5⟩⟩
    ·have iB:j=n:=(by omega);subst iB;have yL:ssV (a,c) f t k l=true:=Z4i.2 ⟨Hn.o.symm.trans KA.o,λi h h2=>ao.o i h h2 (by rw[Hn.o];exact h)⟩;have xM:=ZkS Pd.o yL;rw[Pe.o] at xM;by_cases h0:l=[]
     ·have aQ:Hid (R=([],0)):=h_ (by rw[xM,Vaf h0]);have gx:j=0:=(by rw[Hn.o,h0];rfl);subst gx;clear xM yL h0 ao;go_wp2;go_returns;exact⟨by rw[aQ.o,eQ];rfl,cA⟩
     ·rw[Vad h0] at xM
      have rX:((j:Int)==0)=false:=by
       rw[Van];intro e;exact h0 (Vak (by have:=Hn.o;omega))
      have dU:∀v∈l.map (·.2),vaB Z6 (a,c) (toL v)=true:=λv hm=>by
       obtain⟨x,hx,rfl⟩:=Va6.1 hm;obtain⟨i,hi,rfl⟩:=List.getElem_of_mem hx;exact((Z4i.1 yL).2 i hi (by rw[<-KA.o,Hn.o];exact hi)).2
      have el:(l.map (·.2)).length<=4096:=(by rw[Vag,<-Hn.o];exact Kz);have gr:=Z4h ft.o dU el;have lJ:=(Z5G ft.o Pf.o dU el).1;have HE:=h_ (UX.o wr cA ft.o Pf.o);rw[lJ] at HE;obtain⟨D,hD⟩:∃D,(vlsE (a,c) (l.map (·.2))).1=D:=⟨_,rfl⟩;obtain⟨K,hK⟩:∃K,fkd (a,c)=K:=⟨_,rfl⟩;have lK:K<16:=(by rw[<-hK];exact Z8f _);rw[hD,hK] at HE xM;rw[hD] at gr;have HS:=h_ (λ(W:World) A2 (h:At W A2 (frs [(K,D)])) aE=>QU h (λp hp=>by rw[Vax.1 hp];exact lK) (λp hp=>by rw[Vax.1 hp];exact gr) 1 aE rfl (by decide));rw[<-xM] at HS;have D8:evV (K:Int) D 0=.tuple #[.agg #[.int .i64 (K:Int),.string (bs D)],.int .i64 0]:=rfl;rw[D8] at HE;have fV:frs [(K,D)]=[.int .i64 (K:Int),.string (bs D)]:=rfl;have ky:=h_ fV;generalize bs D=S2 at*;generalize (K:Int)=KI at*;clear h0 xM yL dU el gr lJ hD hK lK D8 fV ao;go_wp2_with fail;refine(HE.o).mono ?_;rintro x w3 ⟨rfl,au⟩;have wV:=cA.trans (au.mono cA.size);have yv:=wV.alloc wV.size (.cells #[.int .i64 KI,.string S2] 36);have Pg:=yv.alloc yv.size (.cells #[.int .i64 KI,.string S2] 36)
      have tm:=h_ (HS.o ((w3.alloc (.cells #[.int .i64 KI,.string S2] 36)).alloc (.cells #[.int .i64 KI,.string S2] 36)) (some ⟨w3.heap.size+1,0,none⟩) (by
       rw[ky.o];have:=(Bk.new (w3.alloc (.cells #[.int .i64 KI,.string S2] 36)) 36 #[.int .i64 KI,.string S2]).at_;rw[Z2p] at this;exact this) 1)
      have bj:=h_ Pg;clear au wV yv Pg;go_wp2_with fail;refine(tm.o).mono ?_;rintro x w4 ⟨rfl,bQ⟩;have cQ:=h_ (bj.o.trans (bQ.mono bj.o.size));clear bQ;go_wp2;go_returns;exact⟨rfl,cQ.o⟩
  ·have aQ:Hid (R=([],1)):=h_ (by
    rw[<-hR];refine Zhm hE ?_;cases hq:ssV (a,c) f t k l with
    |false=>rfl
    |true=>exact absurd ((Z4i.1 hq).1) (by rw[<-hn];exact fK))
   have N7:((n:Int) !=((ms f t k).length:Int))=true:=(by rw[Va1];omega);clear ha hv ad hn bf hE hR jv fK hk;generalize (ms f t k)=m at*;go_enter Tryz.func22,Tryz.ntmps22;go_wp2_with fail;refine(HM.o _).mono ?_;rintro x w1 ⟨Am,mM,rfl,cN,a7⟩;obtain⟨z0,z1,a8,_⟩:=HK.o _ a7;have ak:=h_ a8;clear a7 a8 cN HM;go_wp2;go_returns;exact⟨by rw[aQ.o,eQ];rfl,ak.o⟩
 ·have HM:=h_ (λW=>ZdW hk hE tq W);have aQ:Hid (R=([],E)):=h_ (by rw[<-hR];exact ZjC hE tq);have tj:((E:Int) !=0)=true:=(by rw[Va1];omega);clear ha hv ad hn bf hE hR tq hk;go_enter Tryz.func22,Tryz.ntmps22;go_wp2_with fail;refine(HM.o _).mono ?_;rintro x w1 ⟨rfl,a7⟩;obtain⟨z0,z1,a8,_⟩:=HK.o _ a7;have ak:=h_ a8;clear a7 a8 HM;go_wp2;go_returns;exact⟨by rw[aQ.o,eQ];rfl,ak.o⟩
end Go.Proofs.YtchokmkfobandaaGreatDoor
