import Derived.Test.YtchokmkfobandaaGreatDoorM44
import Derived.Test.YtchokmkfobandaaGreatDoorM41
set_option linter.unusedVariables false
set_option linter.unusedSimpArgs false
set_option maxRecDepth 100000
set_option maxHeartbeats 8000000
namespace Go.Proofs.YtchokmkfobandaaGreatDoor
open Go.RowKit Go.Proofs Wv Wv.Vi Wv.Ru Wv.Bc Wv.Sn Wv.Sg Wv.Tm Wv.Dc Wv.Fm
theorem Zgs {w:World} (c f t:Int) (hv:VaC 3 c w) {b:ByteArray} (bz:b.size<=1099511627776) (d:List UInt8) (aV:sgV (3,c) f t b []=true) (h0:d≠[]) (h4:¬4096<d.length) {fr:List (Nat×List UInt8)} (hu:unws d=some fr):
  Calls Tryz.prog 18 #[.agg #[.int .i64 3,.int .i64 c],.int .i64 f,.int .i64 t,.string b,.string (bs d)] w λx w'=>CdR w (sgD (3,c) f t b d) x w':=by
 have HV:=h_ (λW (hb:Below w.heap.size w W)=>Y0 (l:=[]) (At.nil W none) 3 c f t (hv.below hb) bz (λx hx=>by cases hx) 0 0 rfl (by decide));rw[aV] at HV;have Kp:=h_ (λW A cap (vs:List ByteArray) {ts:List Int} (hl:vs.length=ts.length) (hs:∀v∈vs,v.size<=128) (h:At W A (cv (zipC f ts vs))) (hb:Below w.heap.size w W) (h9:ts.length<=4096)=>Y0 h 3 c f t (hv.below hb) bz (Z3h f hs) ts.length cap (by rw[XW f ts vs hl.symm]) (by omega));have HK:=h_ (λW h=>Y5 (w:=w) (W:=W) (a:=3) (c:=c) h);obtain⟨v1,v2,_,_,_⟩:=XV.1 aV;obtain⟨i1,i2,i3⟩:=XT.1 v2;have uh:Hid (-1<=f/\f<=1099511627776):=h_ ⟨i1,by omega⟩;have cL:=h_ v1;have cB:=Xk d;rw[Vah h0] at cB;have hg:¬(4096:Int)<((bs d).size:Int):=(by rw[Z0];omega);have HF:=h_ (λW=>Z72 (by omega) hu W);have oK:=h_ (ZdL aV h0 h4);unfold CdR;generalize sgD (3,c) f t b d=R at*;generalize bs d=S at*

 clear hv bz aV h0 h4 v1 v2 i1 i2 i3;go_enter Tryz.func18,Tryz.ntmps18;go_wp2_with fail;refine(HV.o _ (HK.o _ (Vae _ _)).2.2.1).mono ?_;rintro x w1 ⟨rfl,a7⟩;obtain⟨_,_,a8,_⟩:=HK.o _ a7;have al:=h_ a7;clear a7 a8;go_wp2_with fail;refine(HF.o _).mono ?_;rintro x w2 ⟨A2,aE,rfl,an,a8⟩;have ak:=h_ (al.o.trans (a8.mono al.o.size));obtain⟨z0,z1,af,dc⟩:=HK.o _ ak.o;clear a8;by_cases hL:fr.length=1
 ·obtain⟨p,rfl⟩:=List.length_eq_one_iff.1 hL;obtain⟨k,C⟩:=p;obtain⟨bF,oF,rfl,uG,c0,c1⟩:=Z8j an 0 (by simp)
  skip
  simp at c0 c1;try simp only[Vaz,Vb6]
  have HU:=h_ hu;have rE:=Z1q hu (k,C) Vap;by_cases hk:k=1
  ·subst hk;have lA:=h_ (λW=>Z2e (w:=W) (bs C) (by rw[Z0];show C.length<=_;have:C.length<=4096:=rE;omega) 4096);obtain⟨⟨ts,E⟩,cj⟩:∃y,decT C 4096=y:=⟨_,rfl⟩;rw[Zd,cj] at lA;unfold LRes at lA;have mK:=h_ cj;have iO:=Z20 C 4096;rw[cj] at iO;generalize bs C=SC at*;have aA:=h_ af;clear an rE af cj;go_wp2_with fail;refine(lA.o _).mono ?_;rintro x w3 ⟨v,rfl,⟨A3,sX,eu,cD⟩,au⟩;try simp only at eu cD
   subst eu;have aU:=h_ (ak.o.trans (au.mono ak.o.size));obtain⟨z0,z1,aB,dc⟩:=HK.o _ aU.o;by_cases hE:E=0
   ·subst hE;by_cases n6:ts=[]
    ·subst n6;have HR:Hid (R=([],12)):=h_ (by rw[oK.o,Xn HU.o,mK.o];rw[Vad (λh=>h.2.2 rfl)]);simp only[Vb6];clear cD au iO;go_wp2;go_returns;exact⟨_,by rw[HR.o];rfl,by rw[HR.o];exact ChR.nil _,aB⟩
    ·have uH:((ts.length:Int)==0)=false:=by
      rw[Van];intro e;exact n6 (Vak (by omega))
     have hval:Ze ts=true/\ts.length<=4096:=by
      rcases iO with (h|h)|⟨l,h,_,h2,_,h3⟩
      ·injection h with h _;exact absurd h n6
      ·injection h with h _;exact absurd h n6
      ·injection h with h _;subst h;exact⟨h2,(Z9.1 h2).2.2⟩
     have EV:Hid (rdCh (3,c) f d=(Y6 (3,c) ts.length []).map (zipC f ts)):=h_ (by rw[Xn HU.o,mK.o];exact Vaf ⟨rfl,rfl,n6⟩);have xH:=h_ (λi (h:i<ts.length)=>(Z9.1 hval.1).2.1 ts[i] (Vaj h));have bf:=hval.2;have bG:=Yi (P:=Tryz.prog) 64 9 (.string ⟨#[]⟩) 16 Tryz.underlying64 Z2m rfl (ts.length:Int) ts.length rfl (by omega) (by omega) w3;have cg:=(Bk.new w3 9 (Array.replicate ts.length (.string ⟨#[]⟩))).at_;have kG:=aU.o.alloc aU.o.size (.cells (Array.replicate ts.length (.string ⟨#[]⟩)) 9);have cN:=cD.below ((Vae w3.heap.size w3).alloc UZz (.cells (Array.replicate ts.length (.string ⟨#[]⟩)) 9));clear au iO cD n6 hval;obtain⟨vs,di⟩:∃vs:List ByteArray,vs=List.replicate ts.length ⟨#[]⟩:=⟨_,rfl⟩;have tY:(Array.replicate ts.length (Value.string ⟨#[]⟩)).toList=svs vs:=(by rw[di];unfold svs;rw[List.map_replicate,Array.toList_replicate];rfl);rw[tY] at cg;have Df:=h_ cg;have kL:Hid (vs.length=ts.length):=h_ (by rw[di,Vaw]);have oW:Hid (∀v∈vs,v.size<=128):=h_ (λv hv=>by rw[di] at hv;rw[(Vco.1 hv).2];decide);have Kt:Hid (Y6 (3,c) ts.length []=some vs):=h_ (by rw[di];exact ZdM rfl);have Dd:=h_ cN;have rF:=h_ kG;clear cg cN kG tY di aB;go_wp2;generalize w3.alloc (.cells (Array.replicate ts.length (.string ⟨#[]⟩)) 9)=wL at*;generalize (some (⟨w3.heap.size,0,none⟩:Addr))=AV at*;clear aU;go_loopw [19,92] (λwH xJ wr=>∃i:Nat,i<=ts.length/\xJ=.int .i64 (i:Int)/\Hid (wr.ownsRow wL.heap.size 33 2 wH i (cv ((zipC f ts vs).take i)))/\Hid (Below wL.heap.size wL wr)) (λ_ xJ _=>(ts.length-intOf xJ).toNat);case atStart=>exact⟨0,Var _,rfl,h_ Zk,h_ (Vae _ _)⟩
     case round=>
      obtain⟨i,hi,rfl,aa,hb⟩:=hrel;obtain⟨A6,gm,rfl,bN⟩:=Zm aa.o;have lW:=h_ (rF.o.trans (hb.o.mono rF.o.size));obtain⟨z0,z1,cA,Ku⟩:=HK.o _ lW.o;by_cases ab:i<ts.length
      ·obtain⟨bT,oT,rfl,Pa,t0⟩:=Z8r (Dd.o.below hb.o) i ab;obtain⟨bV,oV,rfl,Kv,y0⟩:=ZdP (Df.o.below hb.o) i (by rw[kL.o];exact ab);have gy:=Z5K f (ts:=ts) (vs:=vs) kL.o.symm ab;have aO:=xH.o i ab;obtain⟨X,hX⟩:∃X,ts[i]=X:=⟨_,rfl⟩;obtain⟨V,hV⟩:∃V,vs[i]'(by rw[kL.o];exact ab)=V:=⟨_,rfl⟩;rw[hX] at t0 gy aO;rw[hV] at y0 gy;have j1:IntKind.i64.wrap (X+f)=X+f:=(by rw[IntWalk.i64_in _ (by have:=uh.o;omega)]);have j2:IntKind.i64.wrap (X+f+1)=X+f+1:=(by rw[IntWalk.i64_in _ (by have:=uh.o;omega)]);obtain⟨v',W',ag,ae,aG⟩:=XU aa.o hb.o hb.o.size (by omega) (X+f+1,V);rw[<-gy] at ae;have ar:=h_ ag;have aw:=h_ ae;have cH:=h_ aG;have iS:(0:Int)<=(i:Int):=(by omega);have nI:(i:Int)<(ts.length:Int):=(by omega);clear ag ae aG gy aa hb aO bN hX hV
       go_wp2_with (
        at_builtin;refine Z4 (by with_reducible rfl) rfl _ _ _ rfl _ _ (by rfl) (by rfl) ar.o ?_)
       refine⟨⟨i+1,ab,by go_num,aw,cH⟩,?_⟩;simp[intOf]<;>omega
      ·have aO:i=ts.length:=(by omega);subst aO;rw[Vai (by rw[XW f ts vs kL.o.symm];exact UZz)] at bN;have mL:=h_ (Kp.o wr A6 gm vs kL.o oW.o bN cA bf);have mH:=h_ bN;have jX:=h_ cA;have sZ:Hid (R=if sgV (3,c) f t b (zipC f ts vs)=true then(zipC f ts vs,0) else([],12)):=h_ (by rw[oK.o,EV.o,Kt.o];rfl);have Kw:=h_ (XW f ts vs kL.o.symm);obtain⟨B,hB⟩:∃B,sgV (3,c) f t b (zipC f ts vs)=B:=⟨_,rfl⟩;rw[hB] at mL sZ;clear aa bN cA hB;cases B with
       |false=>
        have HR:Hid (R=([],12)):=h_ (by rw[sZ.o];rfl);go_wp2_with fail;refine(mL.o).mono ?_;rintro x w9 ⟨rfl,bz⟩;have lT:=h_ (jX.o.trans (bz.mono jX.o.size));clear bz;go_wp2;go_returns;exact⟨_,by rw[HR.o];rfl,by rw[HR.o];exact ChR.nil _,lT.o⟩
       |true=>
        have HR:Hid (R=(zipC f ts vs,0)):=h_ (by rw[sZ.o];rfl);go_wp2_with fail;refine(mL.o).mono ?_;rintro x w9 ⟨rfl,bz⟩;have lT:=h_ (jX.o.trans (bz.mono jX.o.size));have lr:=h_ (mH.o.below bz);clear bz;go_wp2;go_returns;exact⟨_,by rw[HR.o];rfl,by rw[HR.o];exact⟨_,_,by rw[Kw.o];rfl,lr.o⟩,lT.o⟩
   ·have HR:Hid (R=([],12)):=h_ (by rw[oK.o,Xn HU.o,mK.o];rw[Vad (λh=>hE h.2.1)]);have tj:((E:Int) !=0)=true:=(by rw[Va1];omega);clear cD au iO hE;go_wp2;go_returns;exact⟨_,by rw[HR.o];rfl,by rw[HR.o];exact ChR.nil _,aB⟩
  ·have HR:Hid (R=([],12)):=h_ (by rw[oK.o,Xn HU.o];rw[Vad (λh=>hk h.1)]);have dd:((k:Int) !=1)=true:=(by rw[Va1];omega);clear hk an rE;go_wp2;go_returns;exact⟨_,by rw[HR.o];rfl,by rw[HR.o];exact ChR.nil _,af⟩
 ·have HR:Hid (R=([],12)):=h_ (by rw[oK.o,Z8q hu (by first|(rw[Vaf rfl];exact hL)|(rw[Vad h3];exact hL))]);have Pb:((fr.length:Int) !=1)=true:=(by rw[Va1];omega);clear hL an hu;go_wp2;go_returns;exact⟨_,by rw[HR.o];rfl,by rw[HR.o];exact ChR.nil _,af⟩
theorem ZdV {w:World} (a c f t:Int) (hv:VaC a c w) {b:ByteArray} (bz:b.size<=1099511627776) (d:List UInt8) (hd:d.length<=1000000000):
  Calls Tryz.prog 18 #[.agg #[.int .i64 a,.int .i64 c],.int .i64 f,.int .i64 t,.string b,.string (bs d)] w λx w'=>CdR w (sgD (a,c) f t b d) x w':=by
 by_cases h:sgV (a,c) f t b []=false\/d=[]\/4096<d.length\/unws d=none
 ·exact ZdQ a c f t hv bz d hd h
 ·have h1:sgV (a,c) f t b []=true:=(by cases hq:sgV (a,c) f t b []<;>simp_all);have h0:d≠[]:=λe=>h (.inr (.inl e));have h4:¬4096<d.length:=λe=>h (.inr (.inr (.inl e)));obtain⟨fr,hu⟩:∃fr,unws d=some fr:=Option.ne_none_iff_exists'.1 (λe=>h (.inr (.inr (.inr e))));by_cases h3:a=3
  ·subst h3;exact Zgs c f t hv bz d h1 h0 h4 hu
  ·exact ZdR a c f t hv bz d h1 h0 h4 hu h3
theorem Zgt {w:World} (a c f t:Int) (hv:VaC a c w) {b:ByteArray} (bz:b.size<=1099511627776) (d:List UInt8) (hd:d.length<=1000000000) {l:List (Int×ByteArray)} {e:Nat} (h:sgD (a,c) f t b d=(l,e)):
  Calls Tryz.prog 18 #[.agg #[.int .i64 a,.int .i64 c],.int .i64 f,.int .i64 t,.string b,.string (bs d)] w λx w'=>∃A cap,x=.returned (.tuple #[.slice A l.length cap,.int .i64 (e:Int)])/\At w' A (cv l)/\Below w.heap.size w w':=
 (ZdV a c f t hv bz d hd).mono λx w' hx=>by
  rw[h] at hx;obtain⟨v,h1,⟨A,cap,h2,h3⟩,h4⟩:=hx;exact⟨A,cap,by rw[h1,h2],h3,h4⟩
theorem Zjz {w:World} {A:Option Addr} {b:ByteArray} {l:List (Int×ByteArray)} (ha:At w A (cv l)) (n cap:Nat) (hn:n=l.length) (bf:n<=1000000) (f t k:Int) (hf:I64 f) (ht:I64 t) (hk:I64 k) {r:List (Int×ByteArray)} (h:smp f t k b l=r):
  Calls Tryz.prog 20 #[.int .i64 f,.int .i64 t,.int .i64 k,.string b,.slice A n cap] w λx w'=>∃A2 aE,x=.returned (.slice A2 r.length aE)/\At w' A2 (cv r)/\Below w.heap.size w w':=
 (Z70 ha n cap hn bf f t k hf ht hk).mono λx w' ⟨v,h1,⟨A2,aE,h2,h3⟩,h4⟩=>⟨A2,aE,by rw[h1,h2,h],by rw[<-h];exact h3,h4⟩
theorem Z3i (w:World):Calls Tryz.prog 10 #[] w λx w'=>x=.returned (.bool true)/\Below w.heap.size w w':=by
 obtain⟨d,hE,kh,vi⟩:=ZkQ;have HK:=h_ (λW h=>Y5 (w:=w) (W:=W) (a:=0) (c:=1) h);have aD:(⟨#[48]⟩:ByteArray).size<=1099511627776:=(by decide)
 have ad:∀x∈awL,x.2.size<=1099511627776:=λx hx=>by
  simp only[awL,Va9,Vcq,or_false] at hx;rcases hx with rfl|rfl<;>(rw[Z0];decide)
 have eH:cv awL=[.int .i64 10,.string ⟨#[49]⟩,.int .i64 15,.string ⟨#[48]⟩]:=rfl;have mV:bs [48]=⟨#[48]⟩:=rfl;have rV:bs [49]=⟨#[49]⟩:=rfl;have tY:=Zdx;have mT:=ZkR;have Kx:=Zlo hE;rw[mV] at hE tY mT Kx;rw[rV] at mT
 have ha:At ((w.alloc (.cells #[.int .i64 0,.int .i64 1] 23)).alloc (.cells #[.int .i64 10,.string ⟨#[49]⟩,.int .i64 15,.string ⟨#[48]⟩] 33)) (some ⟨(w.alloc (.cells #[.int .i64 0,.int .i64 1] 23)).heap.size,0,none⟩) (cv awL):=by
  rw[eH];exact(Bk.new (w.alloc (.cells #[.int .i64 0,.int .i64 1] 23)) 33 #[.int .i64 10,.string ⟨#[49]⟩,.int .i64 15,.string ⟨#[48]⟩]).at_
 have yb:Below (w.alloc (.cells #[.int .i64 0,.int .i64 1] 23)).heap.size (w.alloc (.cells #[.int .i64 0,.int .i64 1] 23)) ((w.alloc (.cells #[.int .i64 0,.int .i64 1] 23)).alloc (.cells #[.int .i64 10,.string ⟨#[49]⟩,.int .i64 15,.string ⟨#[48]⟩] 33)):=(Vae _ _).alloc UZz _;rw[Z2p] at ha;have HE:=h_ (Z5J ha 0 1 9 20 (Z4g _) aD ad 2 2 rfl (by decide));rw[hE] at HE;unfold ERes at HE;have HD:=h_ (λ(W:World)=>Zgt 0 1 9 20 (Z4g W) aD d (by omega) Kx);have HS:=h_ (λ(W:World) (hb:Below ((w.alloc (.cells #[.int .i64 0,.int .i64 1] 23)).alloc (.cells #[.int .i64 10,.string ⟨#[49]⟩,.int .i64 15,.string ⟨#[48]⟩] 33)).heap.size ((w.alloc (.cells #[.int .i64 0,.int .i64 1] 23)).alloc (.cells #[.int .i64 10,.string ⟨#[49]⟩,.int .i64 15,.string ⟨#[48]⟩] 33)) W)=>Zjz (ha.below hb) 2 2 rfl (by decide) 9 20 5 (by unfold I64;omega) (by unfold I64;omega) (by unfold I64;omega) mT);have HQ:=h_ (λ(W:World) (hb:Below ((w.alloc (.cells #[.int .i64 0,.int .i64 1] 23)).alloc (.cells #[.int .i64 10,.string ⟨#[49]⟩,.int .i64 15,.string ⟨#[48]⟩] 33)).heap.size ((w.alloc (.cells #[.int .i64 0,.int .i64 1] 23)).alloc (.cells #[.int .i64 10,.string ⟨#[49]⟩,.int .i64 15,.string ⟨#[48]⟩] 33)) W) A cap (h:At W A (cv awL))=>ZdD h (ha.below hb) awL.length cap 2 2 rfl rfl (by decide) (by decide));rw[Vam (show awL=awL from rfl)] at HQ;have HV:=h_ (λ(W:World) (hb:Below ((w.alloc (.cells #[.int .i64 0,.int .i64 1] 23)).alloc (.cells #[.int .i64 10,.string ⟨#[49]⟩,.int .i64 15,.string ⟨#[48]⟩] 33)).heap.size ((w.alloc (.cells #[.int .i64 0,.int .i64 1] 23)).alloc (.cells #[.int .i64 10,.string ⟨#[49]⟩,.int .i64 15,.string ⟨#[48]⟩] 33)) W)=>Y0 (ha.below hb) 0 1 9 20 (Z4g W) aD ad 2 2 rfl (by decide));rw[tY] at HV;have cB:=Xk d;rw[Vah kh] at cB;have tD:awL.length=2:=rfl;rw[tD] at HD HQ;simp only at HE;generalize bs d=S at*
 have ay:(S.toList !=[])=true:=by
  have:S.toList≠[]:=λe=>(by rw[e] at cB;cases cB);simpa using this
 have lB:=h_ yb;have df:=λW=>Zjo 20 20 ⟨#[48]⟩ ⟨#[48]⟩ W;have US:=λop a b xs ys W=>Z5H op a b xs ys W;rw[Vam (show((20:Int),(⟨#[48]⟩:ByteArray))=(20,⟨#[48]⟩) from rfl)] at df;generalize awL=L at*;clear hE kh vi ad eH mV rV tY mT Kx ha yb tD aD;go_enter Tryz.func10,Tryz.ntmps10;go_wp2_with fail;refine(HE.o).mono ?_;rintro x w2 ⟨rfl,a8⟩;have ak:=h_ a8;obtain⟨z0,z1,tJ,dz⟩:=HK.o _ (lB.o.trans (a8.mono lB.o.size));clear a8;go_wp2_with fail;refine(HD.o _).mono ?_;rintro x w3 ⟨A3,sX,rfl,cD,af⟩;have xf:=h_ cD;have aA:=h_ (ak.o.trans (af.mono ak.o.size));clear af cD z0 z1 tJ dz;go_wp2_with fail;refine(HS.o _ aA.o).mono ?_;rintro x w4 ⟨A4,gg,rfl,dZ,au⟩;have Dg:=h_ (xf.o.below au);have Ky:=h_ dZ;have aU:=h_ (aA.o.trans (au.mono aA.o.size));clear au dZ;have UW:=h_ (HQ.o w4 aU.o A3 sX Dg.o);simp only[Vaz,Vb6];go_wp2_with fail;refine(UW.o).mono ?_;rintro x w5 ⟨rfl,aB⟩;obtain⟨b4,o4,rfl,el,c0,c1⟩:=ZP (Ky.o.below aB) 2 (by simp);simp at c0 c1;have bj:=h_ (aU.o.trans (aB.mono aU.o.size));obtain⟨z0,z1,ni,sN⟩:=HK.o _ (lB.o.trans (bj.o.mono lB.o.size));have kJ:=h_ (HV.o w5 bj.o);have uI:=h_ ni;clear aB ni;go_wp2_with fail;refine(kJ.o).mono ?_;rintro x w6 ⟨rfl,bQ⟩;have cQ:=h_ (uI.o.trans (bQ.mono uI.o.size));clear bQ;go_wp2;go_returns;exact⟨rfl,cQ.o⟩
end Go.Proofs.YtchokmkfobandaaGreatDoor
namespace Go.Proofs.YtchokmkfobandaaGreatDoor
open Go.RowKit Go.Proofs Wv Wv.Vi Wv.Ru Wv.Bc Wv.Sn Wv.Sg Wv.Dc
theorem Zgu {l:List (Int×ByteArray)} {m:Int} (h:fewB l m=true):(l.length:Int)<=m/\∀x∈l,x.2.size<=150:=by
 unfold fewB at h;rw[Va0,Vaq,Vbp] at h;exact⟨h.2,λx hx=>by have:=of_decide_eq_true (h.1 x hx);omega⟩
end Go.Proofs.YtchokmkfobandaaGreatDoor
