import Derived.Test.YtchokmkfobandaaGreatDoorJ44
set_option linter.unusedVariables false
set_option linter.unusedSimpArgs false
set_option maxRecDepth 100000
set_option maxHeartbeats 8000000
namespace Wv.Sg
open Wv.Sn
theorem Zgu {s:Int×Int} {f t k:Int} (h:(tyB s&&itv f t)=false):Y2 s f t k=1:=by
 unfold Y2;rw[Vaf];cases h1:tyB s with
 |false=>exact .inl rfl
 |true=>
  rw[h1,Bool.true_and] at h;right;unfold nM;rw[Vaf (.inl h)];omega
theorem Zju {s:Int×Int} {f t k:Int} (h:k<1):Y2 s f t k=1:=by
 unfold Y2;rw[Vaf];right;unfold nM;rw[Vaf (.inr h)];omega
theorem Zjv {s:Int×Int} {f t k:Int} (h:nM f t k<0):Y2 s f t k=1:=by
 unfold Y2;rw[Vaf (.inr h)]
theorem Z8o {s:Int×Int} {f t k:Int} (h:tyB s=true) (h2:0<=nM f t k) (h3:s.1=3):Y2 s f t k=7:=by
 unfold Y2;rw[Vad (by rw[h];simp;exact h2),Vaf h3]
theorem Z8p {s:Int×Int} {f t k:Int} (h:tyB s=true) (h2:0<=nM f t k) (h3:s.1≠3):Y2 s f t k=0:=by
 unfold Y2;rw[Vad (by rw[h];simp;exact h2),Vad h3]
end Wv.Sg
namespace Go.Proofs.YtchokmkfobandaaGreatDoor
open Go.RowKit Go.Proofs Wv Wv.Vi Wv.Bc Wv.Sn Wv.Sg Wv.Dc
def SmR (w:World) (e:Nat) (m:List Int) (x:Ending) (w':World):Prop:=∃v,x=.returned (.tuple #[v,.int .i64 (e:Int)])/\(e≠0->v=.slice none 0 0)/\(e=0->IvR w' v m)/\Below w.heap.size w w'
theorem Z10 (a c f t k:Int) (hk:I64 k) (w:World):
  Calls Tryz.prog 41 #[.agg #[.int .i64 a,.int .i64 c],.int .i64 f,.int .i64 t,.int .i64 k] w λx w'=>SmR w (Y2 (a,c) f t k) (ms f t k) x w':=by
 have HI:=h_ (λW=>Z8i a c f t W);have HK:=h_ (λW h=>Yy (w:=w) (W:=W) (a:=a) (c:=c) h);obtain⟨E,hE⟩:∃E,Y2 (a,c) f t k=E:=⟨_,rfl⟩;rw[hE];cases hI:(tyB (a,c)&&itv f t) with
 |false=>
  have ni:E=1:=(by rw[<-hE];exact Zgu hI);subst ni;rw[hI] at HI;clear hE hI hk;go_enter Tryz.func41,Tryz.ntmps41;go_wp2_with fail;refine(HI.o _).mono ?_;rintro x w1 ⟨rfl,a7⟩;obtain⟨_,_,a8,_⟩:=HK.o _ a7;go_wp2;go_returns;exact⟨_,rfl,λ_=>rfl,λh=>(by cases h),a8⟩
 |true=>
  rw[hI] at HI;rw[Va1] at hI;obtain⟨hty,hit⟩:=hI;by_cases aZ:k<1
  ·have ni:E=1:=(by rw[<-hE];exact Zju aZ);subst ni;clear hE hk hty hit;go_enter Tryz.func41,Tryz.ntmps41;go_wp2_with fail;refine(HI.o _).mono ?_;rintro x w1 ⟨rfl,a7⟩;obtain⟨_,_,a8,_⟩:=HK.o _ a7;go_wp2;go_returns;exact⟨_,rfl,λ_=>rfl,λh=>(by cases h),a8⟩
  ·have HM:=h_ (λW=>Z5B f t k hit (by omega) hk W);by_cases hn:0<=nM f t k
   ·rw[Vao hn] at HM;by_cases h3:a=3
    ·subst h3;have ni:E=7:=(by rw[<-hE];exact Z8o hty hn rfl);subst ni;clear hE hk hty hit hn;go_enter Tryz.func41,Tryz.ntmps41;go_wp2_with fail;refine(HI.o _).mono ?_;rintro x w1 ⟨rfl,a7⟩;have ao:=h_ a7;clear a7;go_wp2_with fail;refine(HM.o _).mono ?_;rintro x w2 ⟨v,rfl,hv,a8⟩;obtain⟨z0,z1,af,_⟩:=HK.o _ (ao.o.trans (a8.mono ao.o.size));clear a8 hv;go_wp2;go_returns;exact⟨_,rfl,λ_=>rfl,λh=>(by cases h),af⟩
    ·have ni:E=0:=(by rw[<-hE];exact Z8p hty hn h3);subst ni;have yG:(a==3)=false:=(by rw[Vam];exact h3);clear hE hk hty hit hn h3;go_enter Tryz.func41,Tryz.ntmps41;go_wp2_with fail;refine(HI.o _).mono ?_;rintro x w1 ⟨rfl,a7⟩;have ao:=h_ a7;clear a7;go_wp2_with fail;refine(HM.o _).mono ?_;rintro x w2 ⟨v,rfl,hv,a8⟩;have Hv:=h_ hv;obtain⟨z0,z1,af,_⟩:=HK.o _ (ao.o.trans (a8.mono ao.o.size));clear a8 hv;go_wp2;go_returns;exact⟨_,rfl,λh=>absurd rfl h,λ_=>Hv.o,af⟩
   ·rw[Vai hn] at HM;have ni:E=1:=(by rw[<-hE];exact Zjv (by omega));subst ni;clear hE hk hty hit hn;go_enter Tryz.func41,Tryz.ntmps41;go_wp2_with fail;refine(HI.o _).mono ?_;rintro x w1 ⟨rfl,a7⟩;have ao:=h_ a7;clear a7;go_wp2_with fail;refine(HM.o _).mono ?_;rintro x w2 ⟨v,rfl,hv,a8⟩;obtain⟨z0,z1,af,_⟩:=HK.o _ (ao.o.trans (a8.mono ao.o.size));clear a8 hv;go_wp2;go_returns;exact⟨_,rfl,λ_=>rfl,λh=>(by cases h),af⟩
end Go.Proofs.YtchokmkfobandaaGreatDoor
namespace Wv.Sg
open Wv.Vi Wv.Ru Wv.Bc Wv.Fm Wv.Lz Wv.Sn Wv.Tm Wv.Dc
open Go.Proofs.YtchokmkfobandaaGreatDoor
theorem Z73 {s:Int×Int} {f t k:Int} {l:List Chg} {e:Nat} (h:Y2 s f t k=e) (he:e≠0):ssE s f t k l=([],e):=by unfold ssE;rw[h,Vaf he]
theorem ZdS {s:Int×Int} {f t k:Int} {l:List Chg} (h:Y2 s f t k=0) (hv:ssV s f t k l=false):ssE s f t k l=([],1):=by unfold ssE;rw[Vad (by rw[h];simp),Vaf hv]
theorem ZdT {s:Int×Int} {f t k:Int} {l:List Chg} (h:Y2 s f t k=0) (hv:ssV s f t k l=true):ssE s f t k l=if l=[] then([],0) else strm [(fkd s,(vlsE s (l.map (·.2))).1)]:=by unfold ssE;rw[Vad (by rw[h];simp),Vad (by rw[hv];simp)]
theorem Z4d {s:Int×Int} {f t k:Int} {l:List Chg} :ssV s f t k l=true↔l.length=(ms f t k).length/\∀i (h:i<l.length) (h2:i<(ms f t k).length),l[i].1=(ms f t k)[i]/\vaB Z9 s (toL l[i].2)=true:=by
 unfold ssV;rw[Va1,Vas,Vbv];constructor
 ·rintro⟨h1,h2⟩;have hl:l.length=(ms f t k).length:=(by rw[<-h1,Vag]);refine⟨hl,λi h h3=>⟨?_,h2 _ (Vak h)⟩⟩;have:(l.map (·.1))[i]'(by rw[Vag];exact h)=(ms f t k)[i]:=(by simp only[h1]);rw[<-this,Vcg]
 ·rintro⟨h1,h2⟩;refine⟨Vc0 (by rw[Vag];exact h1) (λi h3 h4=> ?_),λc hc=> ?_⟩
  ·rw[Vcg];exact(h2 i (by rw[Vag] at h3;exact h3) h4).1
  ·obtain⟨i,hi,rfl⟩:=List.getElem_of_mem hc;exact(h2 i hi (by rw[<-h1];exact hi)).2
end Wv.Sg
namespace Go.Proofs.YtchokmkfobandaaGreatDoor
open Go.RowKit Go.Proofs Wv Wv.Vi Wv.Ru Wv.Bc Wv.Sn Wv.Sg Wv.Tm Wv.Dc
theorem ZdU {a c f t k:Int} (hk:I64 k) {e:Nat} (h:Y2 (a,c) f t k=e) (he:e≠0) (w:World):
  Calls Tryz.prog 41 #[.agg #[.int .i64 a,.int .i64 c],.int .i64 f,.int .i64 t,.int .i64 k] w λx w'=>x=.returned (.tuple #[.slice none 0 0,.int .i64 (e:Int)])/\Below w.heap.size w w':=
 (Z10 a c f t k hk w).mono λx w' hx=>by
  unfold SmR at hx;rw[h] at hx;obtain⟨v,h1,h2,_,h4⟩:=hx;exact⟨by rw[h1,h2 he],h4⟩
theorem Zhi {a c f t k:Int} (hk:I64 k) (h:Y2 (a,c) f t k=0) (w:World):
  Calls Tryz.prog 41 #[.agg #[.int .i64 a,.int .i64 c],.int .i64 f,.int .i64 t,.int .i64 k] w λx w'=>∃A cap,x=.returned (.tuple #[.slice A (ms f t k).length cap,.int .i64 0])/\At w' A (ivs (ms f t k))/\Below w.heap.size w w':=
 (Z10 a c f t k hk w).mono λx w' hx=>by
  unfold SmR at hx;rw[h] at hx;obtain⟨v,h1,_,h3,h4⟩:=hx;obtain⟨A,cap,h5,h6⟩:=h3 rfl;exact⟨A,cap,by rw[h1,h5];rfl,h6,h4⟩
theorem ZdV {w W1 W:World} {x:Int} {v:ByteArray} (hW:W1.heap=(w.alloc (.cells #[.int .i64 x,.string v] 33)).heap) (hb:Below W1.heap.size W1 W):W.cell? ⟨w.heap.size,0,none⟩=some (.int .i64 x)/\W.cell? ⟨w.heap.size,1,none⟩=some (.string v):=by
 have h0:Bk W1 w.heap.size 33 #[.int .i64 x,.string v]:=by
  unfold Bk;rw[hW];exact Bk.new w 33 #[.int .i64 x,.string v]
 have h:=h0.below hb h0.lt;exact⟨h.cell 0,h.cell 1⟩
theorem ZdW {w:World} {A:Option Addr} {l:List (Int×ByteArray)} (ha:At w A (cv l)) (a c f t k:Int) (hk:I64 k) (hv:VaC a c w) (ad:∀x∈l,x.2.size<=1099511627776) (n cap:Nat) (hn:n=l.length) (bo:n<=9223372036854775807):
  Calls Tryz.prog 22 #[.agg #[.int .i64 a,.int .i64 c],.int .i64 f,.int .i64 t,.int .i64 k,.slice A n cap] w λx w'=>ERes w (ssE (a,c) f t k l) x w':=by
 have HK:=h_ (λW h=>Yy (w:=w) (W:=W) (a:=a) (c:=c) h);have eP:bs ([]:List UInt8)=⟨#[]⟩:=rfl;obtain⟨R,hR⟩:∃R,ssE (a,c) f t k l=R:=⟨_,rfl⟩;rw[hR];unfold ERes;obtain⟨E,hE⟩:∃E,Y2 (a,c) f t k=E:=⟨_,rfl⟩;by_cases tm:E=0
 ·subst tm;have HM:=h_ (λW=>Zhi hk hE W);have jB:=Z6Z f t k;by_cases fJ:n=(ms f t k).length
  ·have Ha:=h_ ha;have Hn:=h_ hn;have HV:=h_ (λv h W hW=>hv v h W hW);have cH:=h_ ad;have Vb:=h_ (λ(W:World) (hb:Below w.heap.size w W) hs h3=>ZdB (ha.below hb) n cap hn (by omega) a c hs h3 ad);have Pm:=h_ hE;have Pn:=h_ hR;have KC:n<=4096:=(by omega);obtain⟨Da,cu,Db⟩:=Z2g hE;have fo:=h_ Da;have Po:=h_ Db;rw[<-fJ] at HM;have KD:=h_ fJ;clear ha hn hv ad hE hR jB fJ bo Da cu Db hk;go_enter Tryz.func22,Tryz.ntmps22;go_wp2_with fail;refine(HM.o _).mono ?_;rintro x w1 ⟨Am,mK,rfl,cJ,a7⟩;have ao:=h_ a7;have qq:=h_ cJ;clear a7 cJ HM;go_wp2;go_loopw [35] (λKE wr=>∃j:Nat,j<=n/\KE=.int .i64 (j:Int)/\Hid (∀i (h:i<l.length) (h2:i<(ms f t k).length),i<j->l[i].1=(ms f t k)[i]/\vaB Z9 (a,c) (toL l[i].2)=true)/\Hid (Below w1.heap.size w1 wr)) (λKE _=>(n-intOf KE).toNat);case atStart=>exact⟨0,Vat _,rfl,h_ (λi _ _ h=>absurd h (Vc2 _)),h_ (Vae _ _)⟩
   case round=>
    obtain⟨j,hj,rfl,ar,hb⟩:=hrel;have jd:=h_ (ao.o.trans (hb.o.mono ao.o.size));obtain⟨z0,z1,cR,dP⟩:=HK.o _ jd.o;by_cases ab:j<n
    ·have cN:j<l.length:=(by rw[<-Hn.o];exact ab);have rh:j<(ms f t k).length:=(by rw[<-KD.o];exact ab);obtain⟨bA,oA,rfl,tf,c0,c1⟩:=Ye (Ha.o.below cR) j cN;obtain⟨bM,oM,rfl,Vc,m0⟩:=Z8n (qq.o.below hb.o) j rh
     have au:=λ(h:¬(l[j].1=(ms f t k)[j]/\vaB Z9 (a,c) (toL l[j].2)=true))=>(show R=([],1) by
      rw[<-Pn.o];refine ZdS Pm.o ?_;cases hq:ssV (a,c) f t k l with
      |false=>rfl
      |true=>exact absurd ((Z4d.1 hq).2 j cN rh) h)
     have al:=λ(h:l[j].1=(ms f t k)[j]/\vaB Z9 (a,c) (toL l[j].2)=true) i (hi:i<l.length) (h2:i<(ms f t k).length) (h3:i<j+1)=>(show l[i].1=(ms f t k)[i]/\vaB Z9 (a,c) (toL l[i].2)=true by
      by_cases e:i=j
      ·subst e;exact h
      ·exact ar.o i hi h2 (by omega))
     have eE:=cH.o l[j] (Vak cN);obtain⟨⟨X,V⟩,hs⟩:∃y,l[j]=y:=⟨_,rfl⟩;obtain⟨M,KF⟩:∃y,(ms f t k)[j]=y:=⟨_,rfl⟩;rw[hs] at c0 c1 au al eE;rw[KF] at m0 au al;simp only at c0 c1 au al eE;have ez:=hb.o.alloc hb.o.size (.cells #[.int .i64 X,.string V] 33);have oD:=h_ ez;have rF:=h_ (jd.o.alloc jd.o.size (.cells #[.int .i64 X,.string V] 33));have gI:(0:Int)<=(j:Int):=(by omega);have ME:(j:Int)<(n:Int):=(by omega);by_cases EX:X=M
     ·subst EX;have az:(X !=X)=false:=Vb5 _;obtain⟨B,hB⟩:∃B,vaB Z9 (a,c) (toL V)=B:=⟨_,rfl⟩;rw[hB] at au al;have qP:=h_ (λW hW=>HV.o V eE W hW);rw[hB] at qP;have CJ:(wr.alloc (.cells #[.int .i64 X,.string V] 33)).drew.heap.size=wr.heap.size+1:=(by simp)
      have kh:∀Y,Below (wr.alloc (.cells #[.int .i64 X,.string V] 33)).drew.heap.size (wr.alloc (.cells #[.int .i64 X,.string V] 33)).drew Y->Y.cell? ⟨wr.heap.size,0,none⟩=some (.int .i64 X)/\Y.cell? ⟨wr.heap.size,1,none⟩=some (.string V)/\Y.cell? ⟨w.heap.size,0,none⟩=some (.int .i64 a)/\Y.cell? ⟨w.heap.size,1,none⟩=some (.int .i64 c)/\Y.cell? ⟨bM,oM+j,none⟩=some (.int .i64 X):=λY h=>by
       have g:=HK.o Y (rF.o.drew.trans (h.mono rF.o.drew.size));have g2:=ZdV (w:=wr) (W1:=(wr.alloc (.cells #[.int .i64 X,.string V] 33)).drew) (x:=X) (v:=V) rfl h;have g3:=(((Vae wr.heap.size wr).alloc UZz (.cells #[.int .i64 X,.string V] 33)).drew).trans (h.mono (by rw[CJ];omega));exact⟨g2.1,g2.2,g.1,g.2.1,YT g3 Vc m0⟩
      have lI:=h_ kh;have h0:=kh _ (Vae _ _);have rG:=h_ (qP.o _ (HK.o _ rF.o.drew).2.2.1);clear kh eE hs KF ez hb ar cN rh hB CJ qP cR;cases B with
      |false=>
       have aN:Hid (R=([],1)):=h_ (au (λh=>by cases h.2));clear au al;go_wp2
       go_region_held3 (λY=>Y.cell? ⟨wr.heap.size,0,none⟩=some (.int .i64 X)/\Y.cell? ⟨wr.heap.size,1,none⟩=some (.string V)/\Y.cell? ⟨w.heap.size,0,none⟩=some (.int .i64 a)/\Y.cell? ⟨w.heap.size,1,none⟩=some (.int .i64 c)/\Y.cell? ⟨bM,oM+j,none⟩=some (.int .i64 X)) (first|with_reducible assumption) (first
        |(go_at_call 25;with_reducible refine(rG.o).mono ?_;rintro r w5 ⟨rfl,aH⟩;have cU:=lI.o _ aH;have bE:=h_ (rF.o.drew.trans (aH.mono rF.o.drew.size));clear aH))
       have aP:=(HK.o _ bE.o).2.2.1;clear h0 cU;go_wp2;go_returns;exact⟨by rw[aN.o,eP];rfl,aP⟩
      |true=>
       have eK:=h_ (al ⟨rfl,rfl⟩);clear au al;go_wp2
       go_region_held3 (λY=>Y.cell? ⟨wr.heap.size,0,none⟩=some (.int .i64 X)/\Y.cell? ⟨wr.heap.size,1,none⟩=some (.string V)/\Y.cell? ⟨w.heap.size,0,none⟩=some (.int .i64 a)/\Y.cell? ⟨w.heap.size,1,none⟩=some (.int .i64 c)/\Y.cell? ⟨bM,oM+j,none⟩=some (.int .i64 X)) (first|with_reducible assumption) (first
        |(go_at_call 25;with_reducible refine(rG.o).mono ?_;rintro r w5 ⟨rfl,aH⟩;have cU:=lI.o _ aH;have bE:=h_ (oD.o.drew.trans (aH.mono oD.o.drew.size));clear aH))
       clear h0 cU;go_wp2;refine⟨⟨j+1,ab,by go_num,eK,bE⟩,?_⟩;simp[intOf]<;>omega
     ·have aN:Hid (R=([],1)):=h_ (au (λh=>EX h.1));have az:(X !=M)=true:=(by rw[Va0];exact EX);have aP:=HK.o _ rF.o;have bR:=h_ aP.2.2.1;clear au al eE hs KF ez hb ar cN rh EX aP cR;go_wp2;go_quiet (fail);go_wp2;go_returns;exact⟨by rw[aN.o,eP];rfl,⟨bR.o.1,bR.o.2,bR.o.3,bR.o.4,bR.o.5⟩⟩
    ·have iB:j=n:=(by omega);subst iB;have uG:ssV (a,c) f t k l=true:=Z4d.2 ⟨Hn.o.symm.trans KD.o,λi h h2=>ar.o i h h2 (by rw[Hn.o];exact h)⟩;have xI:=ZdT Pm.o uG;rw[Pn.o] at xI;by_cases h0:l=[]
     ·have aN:Hid (R=([],0)):=h_ (by rw[xI,Vaf h0]);have gI:j=0:=(by rw[Hn.o,h0];rfl);subst gI;clear xI uG h0 ar;go_wp2;go_returns;exact⟨by rw[aN.o,eP];rfl,cR⟩
     ·rw[Vad h0] at xI
      have vc:((j:Int)==0)=false:=by
       rw[Vam];intro e;exact h0 (Vaj (by have:=Hn.o;omega))
      have dQ:∀v∈l.map (·.2),vaB Z9 (a,c) (toL v)=true:=λv hm=>by
       obtain⟨x,hx,rfl⟩:=Va6.1 hm;obtain⟨i,hi,rfl⟩:=List.getElem_of_mem hx;exact((Z4d.1 uG).2 i hi (by rw[<-KD.o,Hn.o];exact hi)).2
      have eu:(l.map (·.2)).length<=4096:=(by rw[Vag,<-Hn.o];exact KC);have gr:=Z4c fo.o dQ eu;have lJ:=(Z5D fo.o Po.o dQ eu).1;have HE:=h_ (Vb.o wr cR fo.o Po.o);rw[lJ] at HE;obtain⟨D,hD⟩:∃D,(vlsE (a,c) (l.map (·.2))).1=D:=⟨_,rfl⟩;obtain⟨K,hK⟩:∃K,fkd (a,c)=K:=⟨_,rfl⟩;have lK:K<16:=(by rw[<-hK];exact Z8f _);rw[hD,hK] at HE xI;rw[hD] at gr;have HS:=h_ (λ(W:World) A2 (h:At W A2 (frs [(K,D)])) aE=>QR h (λp hp=>by rw[Vax.1 hp];exact lK) (λp hp=>by rw[Vax.1 hp];exact gr) 1 aE rfl (by decide));rw[<-xI] at HS;have CZ:evV (K:Int) D 0=.tuple #[.agg #[.int .i64 (K:Int),.string (bs D)],.int .i64 0]:=rfl;rw[CZ] at HE;have iT:frs [(K,D)]=[.int .i64 (K:Int),.string (bs D)]:=rfl;have mH:=h_ iT;generalize bs D=S2 at*;generalize (K:Int)=KI at*;clear h0 xI uG dQ eu gr lJ hD hK lK CZ iT ar;go_wp2_with fail;refine(HE.o).mono ?_;rintro x w3 ⟨rfl,ax⟩;have wW:=cR.trans (ax.mono cR.size);have yp:=wW.alloc wW.size (.cells #[.int .i64 KI,.string S2] 36);have Pp:=yp.alloc yp.size (.cells #[.int .i64 KI,.string S2] 36)
      have xC:=h_ (HS.o ((w3.alloc (.cells #[.int .i64 KI,.string S2] 36)).alloc (.cells #[.int .i64 KI,.string S2] 36)) (some ⟨w3.heap.size+1,0,none⟩) (by
       rw[mH.o];have:=(Bk.new (w3.alloc (.cells #[.int .i64 KI,.string S2] 36)) 36 #[.int .i64 KI,.string S2]).at_;rw[Z0Z] at this;exact this) 1)
      have bE:=h_ Pp;clear ax wW yp Pp;go_wp2_with fail;refine(xC.o).mono ?_;rintro x w4 ⟨rfl,bY⟩;have dA:=h_ (bE.o.trans (bY.mono bE.o.size));clear bY;go_wp2;go_returns;exact⟨rfl,dA.o⟩
  ·have aN:Hid (R=([],1)):=h_ (by
    rw[<-hR];refine ZdS hE ?_;cases hq:ssV (a,c) f t k l with
    |false=>rfl
    |true=>exact absurd ((Z4d.1 hq).1) (by rw[<-hn];exact fJ))
   have Na:((n:Int) !=((ms f t k).length:Int))=true:=(by rw[Va0];omega);clear ha hv ad hn bo hE hR jB fJ hk;generalize (ms f t k)=m at*;go_enter Tryz.func22,Tryz.ntmps22;go_wp2_with fail;refine(HM.o _).mono ?_;rintro x w1 ⟨Am,mK,rfl,cJ,a7⟩;obtain⟨z0,z1,a8,_⟩:=HK.o _ a7;have an:=h_ a8;clear a7 a8 cJ HM;go_wp2;go_returns;exact⟨by rw[aN.o,eP];rfl,an.o⟩
 ·have HM:=h_ (λW=>ZdU hk hE tm W);have aN:Hid (R=([],E)):=h_ (by rw[<-hR];exact Z73 hE tm);have th:((E:Int) !=0)=true:=(by rw[Va0];omega);clear ha hv ad hn bo hE hR tm hk;go_enter Tryz.func22,Tryz.ntmps22;go_wp2_with fail;refine(HM.o _).mono ?_;rintro x w1 ⟨rfl,a7⟩;obtain⟨z0,z1,a8,_⟩:=HK.o _ a7;have an:=h_ a8;clear a7 a8 HM;go_wp2;go_returns;exact⟨by rw[aN.o,eP];rfl,an.o⟩
end Go.Proofs.YtchokmkfobandaaGreatDoor
