import Derived.Test.YtchokmkfobandaaGreatDoorJ44
import Derived.Test.YtchokmkfobandaaGreatDoorJ41
set_option linter.unusedVariables false
set_option linter.unusedSimpArgs false
set_option maxRecDepth 100000
set_option maxHeartbeats 8000000
namespace Go.Proofs.YtchokmkfobandaaGreatDoor
open Go.RowKit Go.Proofs Wv Wv.Vi Wv.Ru Wv.Bc Wv.Sn Wv.Sg Wv.Tm Wv.Dc Wv.Fm
theorem Zgq {w:World} (c f t:Int) (hv:VaC 3 c w) {b:ByteArray} (bZ:b.size<=1099511627776) (d:List UInt8) (bq:sgV (3,c) f t b []=true) (h0:d≠[]) (h4:¬4096<d.length) {fr:List (Nat×List UInt8)} (hu:unws d=some fr):
  Calls Tryz.prog 18 #[.agg #[.int .i64 3,.int .i64 c],.int .i64 f,.int .i64 t,.string b,.string (bs d)] w λx w'=>CdR w (sgD (3,c) f t b d) x w':=by
 have HV:=h_ (λW (hb:Below w.heap.size w W)=>Yc (l:=[]) (At.nil W none) 3 c f t (hv.below hb) bZ (λx hx=>by cases hx) 0 0 rfl (by decide));rw[bq] at HV;have Ku:=h_ (λW A cap (vs:List ByteArray) {ts:List Int} (hl:vs.length=ts.length) (hs:∀v∈vs,v.size<=128) (h:At W A (cv (zipC f ts vs))) (hb:Below w.heap.size w W) (h9:ts.length<=4096)=>Yc h 3 c f t (hv.below hb) bZ (Z3a f hs) ts.length cap (by rw[XU f ts vs hl.symm]) (by omega));have HK:=h_ (λW h=>Yy (w:=w) (W:=W) (a:=3) (c:=c) h);obtain⟨v1,v2,_,_,_⟩:=Qj.1 bq;obtain⟨i1,i2,i3⟩:=YJ.1 v2;have uf:Hid (-1<=f/\f<=1099511627776):=h_ ⟨i1,by omega⟩;have cI:=h_ v1;have cB:=Xl d;rw[Vai h0] at cB;have hg:¬(4096:Int)<((bs d).size:Int):=(by rw[Z0];omega);have HF:=h_ (λW=>Z71 (by omega) hu W);have oE:=h_ (ZdH bq h0 h4);unfold CdR;generalize sgD (3,c) f t b d=R at*;generalize bs d=S at*

 clear hv bZ bq h0 h4 v1 v2 i1 i2 i3;go_enter Tryz.func18,Tryz.ntmps18;go_wp2_with fail;refine(HV.o _ (HK.o _ (Vae _ _)).2.2.1).mono ?_;rintro x w1 ⟨rfl,a7⟩;obtain⟨_,_,a8,_⟩:=HK.o _ a7;have ao:=h_ a7;clear a7 a8;go_wp2_with fail;refine(HF.o _).mono ?_;rintro x w2 ⟨A2,aE,rfl,ak,a8⟩;have an:=h_ (ao.o.trans (a8.mono ao.o.size));obtain⟨z0,z1,af,dP⟩:=HK.o _ an.o;clear a8;by_cases hL:fr.length=1
 ·obtain⟨p,rfl⟩:=List.length_eq_one_iff.1 hL;obtain⟨k,C⟩:=p;obtain⟨bF,oF,rfl,uE,c0,c1⟩:=Z8h ak 0 (by simp)
  skip
  simp at c0 c1;try simp only[Vaz,Vcc]
  have HU:=h_ hu;have rD:=Z1l hu (k,C) Vap;by_cases hk:k=1
  ·subst hk;have lB:=h_ (λW=>Z28 (w:=W) (bs C) (by rw[Z0];show C.length<=_;have:C.length<=4096:=rD;omega) 4096);obtain⟨⟨ts,E⟩,cZ⟩:∃y,decT C 4096=y:=⟨_,rfl⟩;rw[Ze,cZ] at lB;unfold LRes at lB;have mI:=h_ cZ;have iU:=Z1U C 4096;rw[cZ] at iU;generalize bs C=SC at*;have aJ:=h_ af;clear ak rD af cZ;go_wp2_with fail;refine(lB.o _).mono ?_;rintro x w3 ⟨v,rfl,⟨A3,fB,ei,bd⟩,ax⟩;try simp only at ei bd
   subst ei;have bh:=h_ (an.o.trans (ax.mono an.o.size));obtain⟨z0,z1,aH,dP⟩:=HK.o _ bh.o;by_cases hE:E=0
   ·subst hE;by_cases iI:ts=[]
    ·subst iI;have HR:Hid (R=([],12)):=h_ (by rw[oE.o,Xo HU.o,mI.o];rw[Vad (λh=>h.2.2 rfl)]);simp only[Vcc];clear bd ax iU;go_wp2;go_returns;exact⟨_,by rw[HR.o];rfl,by rw[HR.o];exact ChR.nil _,aH⟩
    ·have uF:((ts.length:Int)==0)=false:=by
      rw[Vam];intro e;exact iI (Vaj (by omega))
     have hval:Zf ts=true/\ts.length<=4096:=by
      rcases iU with (h|h)|⟨l,h,_,h2,_,h3⟩
      ·injection h with h _;exact absurd h iI
      ·injection h with h _;exact absurd h iI
      ·injection h with h _;subst h;exact⟨h2,(Z8.1 h2).2.2⟩
     have EW:Hid (rdCh (3,c) f d=(Yk (3,c) ts.length []).map (zipC f ts)):=h_ (by rw[Xo HU.o,mI.o];exact Vaf ⟨rfl,rfl,iI⟩);have xD:=h_ (λi (h:i<ts.length)=>(Z8.1 hval.1).2.1 ts[i] (Vak h));have bo:=hval.2;have bG:=Yg (P:=Tryz.prog) 64 9 (.string ⟨#[]⟩) 16 Tryz.underlying64 Z2i rfl (ts.length:Int) ts.length rfl (by omega) (by omega) w3;have cj:=(Bk.new w3 9 (Array.replicate ts.length (.string ⟨#[]⟩))).at_;have kJ:=bh.o.alloc bh.o.size (.cells (Array.replicate ts.length (.string ⟨#[]⟩)) 9);have cJ:=bd.below ((Vae w3.heap.size w3).alloc UZz (.cells (Array.replicate ts.length (.string ⟨#[]⟩)) 9));clear ax iU bd iI hval;obtain⟨vs,eE⟩:∃vs:List ByteArray,vs=List.replicate ts.length ⟨#[]⟩:=⟨_,rfl⟩;have tW:(Array.replicate ts.length (Value.string ⟨#[]⟩)).toList=svs vs:=(by rw[eE];unfold svs;rw[List.map_replicate,Array.toList_replicate];rfl);rw[tW] at cj;have D6:=h_ cj;have kN:Hid (vs.length=ts.length):=h_ (by rw[eE,Vaw]);have oQ:Hid (∀v∈vs,v.size<=128):=h_ (λv hv=>by rw[eE] at hv;rw[(Vcp.1 hv).2];decide);have Ky:Hid (Yk (3,c) ts.length []=some vs):=h_ (by rw[eE];exact ZdI rfl);have D5:=h_ cJ;have rE:=h_ kJ;clear cj cJ kJ tW eE aH;go_wp2;generalize w3.alloc (.cells (Array.replicate ts.length (.string ⟨#[]⟩)) 9)=wL at*;generalize (some (⟨w3.heap.size,0,none⟩:Addr))=AV at*;clear bh;go_loopw [19,92] (λwJ xF wr=>∃i:Nat,i<=ts.length/\xF=.int .i64 (i:Int)/\Hid (wr.ownsRow wL.heap.size 33 2 wJ i (cv ((zipC f ts vs).take i)))/\Hid (Below wL.heap.size wL wr)) (λ_ xF _=>(ts.length-intOf xF).toNat);case atStart=>exact⟨0,Vat _,rfl,h_ Zk,h_ (Vae _ _)⟩
     case round=>
      obtain⟨i,hi,rfl,aa,hb⟩:=hrel;obtain⟨A6,iJ,rfl,bW⟩:=Zl aa.o;have jd:=h_ (rE.o.trans (hb.o.mono rE.o.size));obtain⟨z0,z1,cR,D7⟩:=HK.o _ jd.o;by_cases ab:i<ts.length
      ·obtain⟨bT,oT,rfl,Pj,t0⟩:=Z8n (D5.o.below hb.o) i ab;obtain⟨bV,oV,rfl,Kz,y0⟩:=ZdL (D6.o.below hb.o) i (by rw[kN.o];exact ab);have gx:=Z5G f (ts:=ts) (vs:=vs) kN.o.symm ab;have aU:=xD.o i ab;obtain⟨X,hX⟩:∃X,ts[i]=X:=⟨_,rfl⟩;obtain⟨V,hV⟩:∃V,vs[i]'(by rw[kN.o];exact ab)=V:=⟨_,rfl⟩;rw[hX] at t0 gx aU;rw[hV] at y0 gx;have j1:IntKind.i64.wrap (X+f)=X+f:=(by rw[IntWalk.i64_in _ (by have:=uf.o;omega)]);have j2:IntKind.i64.wrap (X+f+1)=X+f+1:=(by rw[IntWalk.i64_in _ (by have:=uf.o;omega)]);obtain⟨v',W',ag,ae,aF⟩:=X8 aa.o hb.o hb.o.size (by omega) (X+f+1,V);rw[<-gx] at ae;have aq:=h_ ag;have aw:=h_ ae;have cE:=h_ aF;have iZ:(0:Int)<=(i:Int):=(by omega);have pY:(i:Int)<(ts.length:Int):=(by omega);clear ag ae aF gx aa hb aU bW hX hV
       go_wp2_with (
        at_builtin;refine Z3 (by with_reducible rfl) rfl _ _ _ rfl _ _ (by rfl) (by rfl) aq.o ?_)
       refine⟨⟨i+1,ab,by go_num,aw,cE⟩,?_⟩;simp[intOf]<;>omega
      ·have aU:i=ts.length:=(by omega);subst aU;rw[Vah (by rw[XU f ts vs kN.o.symm];exact UZz)] at bW;have mJ:=h_ (Ku.o wr A6 iJ vs kN.o oQ.o bW cR bo);have iQ:=h_ bW;have jb:=h_ cR;have sX:Hid (R=if sgV (3,c) f t b (zipC f ts vs)=true then(zipC f ts vs,0) else([],12)):=h_ (by rw[oE.o,EW.o,Ky.o];rfl);have KA:=h_ (XU f ts vs kN.o.symm);obtain⟨B,hB⟩:∃B,sgV (3,c) f t b (zipC f ts vs)=B:=⟨_,rfl⟩;rw[hB] at mJ sX;clear aa bW cR hB;cases B with
       |false=>
        have HR:Hid (R=([],12)):=h_ (by rw[sX.o];rfl);go_wp2_with fail;refine(mJ.o).mono ?_;rintro x w9 ⟨rfl,bZ⟩;have mE:=h_ (jb.o.trans (bZ.mono jb.o.size));clear bZ;go_wp2;go_returns;exact⟨_,by rw[HR.o];rfl,by rw[HR.o];exact ChR.nil _,mE.o⟩
       |true=>
        have HR:Hid (R=(zipC f ts vs,0)):=h_ (by rw[sX.o];rfl);go_wp2_with fail;refine(mJ.o).mono ?_;rintro x w9 ⟨rfl,bZ⟩;have mE:=h_ (jb.o.trans (bZ.mono jb.o.size));have jt:=h_ (iQ.o.below bZ);clear bZ;go_wp2;go_returns;exact⟨_,by rw[HR.o];rfl,by rw[HR.o];exact⟨_,_,by rw[KA.o];rfl,jt.o⟩,mE.o⟩
   ·have HR:Hid (R=([],12)):=h_ (by rw[oE.o,Xo HU.o,mI.o];rw[Vad (λh=>hE h.2.1)]);have th:((E:Int) !=0)=true:=(by rw[Va0];omega);clear bd ax iU hE;go_wp2;go_returns;exact⟨_,by rw[HR.o];rfl,by rw[HR.o];exact ChR.nil _,aH⟩
  ·have HR:Hid (R=([],12)):=h_ (by rw[oE.o,Xo HU.o];rw[Vad (λh=>hk h.1)]);have da:((k:Int) !=1)=true:=(by rw[Va0];omega);clear hk ak rD;go_wp2;go_returns;exact⟨_,by rw[HR.o];rfl,by rw[HR.o];exact ChR.nil _,af⟩
 ·have HR:Hid (R=([],12)):=h_ (by rw[oE.o,Z8m hu (by first|(rw[Vaf rfl];exact hL)|(rw[Vad h3];exact hL))]);have Pk:((fr.length:Int) !=1)=true:=(by rw[Va0];omega);clear hL ak hu;go_wp2;go_returns;exact⟨_,by rw[HR.o];rfl,by rw[HR.o];exact ChR.nil _,af⟩
theorem ZdR {w:World} (a c f t:Int) (hv:VaC a c w) {b:ByteArray} (bZ:b.size<=1099511627776) (d:List UInt8) (hd:d.length<=1000000000):
  Calls Tryz.prog 18 #[.agg #[.int .i64 a,.int .i64 c],.int .i64 f,.int .i64 t,.string b,.string (bs d)] w λx w'=>CdR w (sgD (a,c) f t b d) x w':=by
 by_cases h:sgV (a,c) f t b []=false\/d=[]\/4096<d.length\/unws d=none
 ·exact ZdM a c f t hv bZ d hd h
 ·have h1:sgV (a,c) f t b []=true:=(by cases hq:sgV (a,c) f t b []<;>simp_all);have h0:d≠[]:=λe=>h (.inr (.inl e));have h4:¬4096<d.length:=λe=>h (.inr (.inr (.inl e)));obtain⟨fr,hu⟩:∃fr,unws d=some fr:=Option.ne_none_iff_exists'.1 (λe=>h (.inr (.inr (.inr e))));by_cases h3:a=3
  ·subst h3;exact Zgq c f t hv bZ d h1 h0 h4 hu
  ·exact ZdN a c f t hv bZ d h1 h0 h4 hu h3
theorem Zgr {w:World} (a c f t:Int) (hv:VaC a c w) {b:ByteArray} (bZ:b.size<=1099511627776) (d:List UInt8) (hd:d.length<=1000000000) {l:List (Int×ByteArray)} {e:Nat} (h:sgD (a,c) f t b d=(l,e)):
  Calls Tryz.prog 18 #[.agg #[.int .i64 a,.int .i64 c],.int .i64 f,.int .i64 t,.string b,.string (bs d)] w λx w'=>∃A cap,x=.returned (.tuple #[.slice A l.length cap,.int .i64 (e:Int)])/\At w' A (cv l)/\Below w.heap.size w w':=
 (ZdR a c f t hv bZ d hd).mono λx w' hx=>by
  rw[h] at hx;obtain⟨v,h1,⟨A,cap,h2,h3⟩,h4⟩:=hx;exact⟨A,cap,by rw[h1,h2],h3,h4⟩
theorem Zjs {w:World} {A:Option Addr} {b:ByteArray} {l:List (Int×ByteArray)} (ha:At w A (cv l)) (n cap:Nat) (hn:n=l.length) (bo:n<=1000000) (f t k:Int) (hf:I64 f) (ht:I64 t) (hk:I64 k) {r:List (Int×ByteArray)} (h:smp f t k b l=r):
  Calls Tryz.prog 20 #[.int .i64 f,.int .i64 t,.int .i64 k,.string b,.slice A n cap] w λx w'=>∃A2 aE,x=.returned (.slice A2 r.length aE)/\At w' A2 (cv r)/\Below w.heap.size w w':=
 (Z70 ha n cap hn bo f t k hf ht hk).mono λx w' ⟨v,h1,⟨A2,aE,h2,h3⟩,h4⟩=>⟨A2,aE,by rw[h1,h2,h],by rw[<-h];exact h3,h4⟩
theorem Z9N (w:World):Calls Tryz.prog 10 #[] w λx w'=>x=.returned (.bool true)/\Below w.heap.size w w':=by
 obtain⟨d,hE,ko,vj⟩:=ZkM;have HK:=h_ (λW h=>Yy (w:=w) (W:=W) (a:=0) (c:=1) h);have aB:(⟨#[48]⟩:ByteArray).size<=1099511627776:=(by decide)
 have ad:∀x∈awL,x.2.size<=1099511627776:=λx hx=>by
  simp only[awL,Vba,Vcs,or_false] at hx;rcases hx with rfl|rfl<;>(rw[Z0];decide)
 have eD:cv awL=[.int .i64 10,.string ⟨#[49]⟩,.int .i64 15,.string ⟨#[48]⟩]:=rfl;have mQ:bs [48]=⟨#[48]⟩:=rfl;have rU:bs [49]=⟨#[49]⟩:=rfl;have tW:=Zdu;have lQ:=ZkN;have KB:=Zll hE;rw[mQ] at hE tW lQ KB;rw[rU] at lQ
 have ha:At ((w.alloc (.cells #[.int .i64 0,.int .i64 1] 23)).alloc (.cells #[.int .i64 10,.string ⟨#[49]⟩,.int .i64 15,.string ⟨#[48]⟩] 33)) (some ⟨(w.alloc (.cells #[.int .i64 0,.int .i64 1] 23)).heap.size,0,none⟩) (cv awL):=by
  rw[eD];exact(Bk.new (w.alloc (.cells #[.int .i64 0,.int .i64 1] 23)) 33 #[.int .i64 10,.string ⟨#[49]⟩,.int .i64 15,.string ⟨#[48]⟩]).at_
 have xY:Below (w.alloc (.cells #[.int .i64 0,.int .i64 1] 23)).heap.size (w.alloc (.cells #[.int .i64 0,.int .i64 1] 23)) ((w.alloc (.cells #[.int .i64 0,.int .i64 1] 23)).alloc (.cells #[.int .i64 10,.string ⟨#[49]⟩,.int .i64 15,.string ⟨#[48]⟩] 33)):=(Vae _ _).alloc UZz _;rw[Z0Z] at ha;have HE:=h_ (ZdG ha 0 1 9 20 (Z4b _) aB ad 2 2 rfl (by decide));rw[hE] at HE;unfold ERes at HE;have HD:=h_ (λ(W:World)=>Zgr 0 1 9 20 (Z4b W) aB d (by omega) KB);have HS:=h_ (λ(W:World) (hb:Below ((w.alloc (.cells #[.int .i64 0,.int .i64 1] 23)).alloc (.cells #[.int .i64 10,.string ⟨#[49]⟩,.int .i64 15,.string ⟨#[48]⟩] 33)).heap.size ((w.alloc (.cells #[.int .i64 0,.int .i64 1] 23)).alloc (.cells #[.int .i64 10,.string ⟨#[49]⟩,.int .i64 15,.string ⟨#[48]⟩] 33)) W)=>Zjs (ha.below hb) 2 2 rfl (by decide) 9 20 5 (by unfold I64;omega) (by unfold I64;omega) (by unfold I64;omega) lQ);have HQ:=h_ (λ(W:World) (hb:Below ((w.alloc (.cells #[.int .i64 0,.int .i64 1] 23)).alloc (.cells #[.int .i64 10,.string ⟨#[49]⟩,.int .i64 15,.string ⟨#[48]⟩] 33)).heap.size ((w.alloc (.cells #[.int .i64 0,.int .i64 1] 23)).alloc (.cells #[.int .i64 10,.string ⟨#[49]⟩,.int .i64 15,.string ⟨#[48]⟩] 33)) W) A cap (h:At W A (cv awL))=>Z5F h (ha.below hb) awL.length cap 2 2 rfl rfl (by decide) (by decide));rw[Vao (show awL=awL from rfl)] at HQ;have HV:=h_ (λ(W:World) (hb:Below ((w.alloc (.cells #[.int .i64 0,.int .i64 1] 23)).alloc (.cells #[.int .i64 10,.string ⟨#[49]⟩,.int .i64 15,.string ⟨#[48]⟩] 33)).heap.size ((w.alloc (.cells #[.int .i64 0,.int .i64 1] 23)).alloc (.cells #[.int .i64 10,.string ⟨#[49]⟩,.int .i64 15,.string ⟨#[48]⟩] 33)) W)=>Yc (ha.below hb) 0 1 9 20 (Z4b W) aB ad 2 2 rfl (by decide));rw[tW] at HV;have cB:=Xl d;rw[Vai ko] at cB;have tC:awL.length=2:=rfl;rw[tC] at HD HQ;simp only at HE;generalize bs d=S at*
 have az:(S.toList !=[])=true:=by
  have:S.toList≠[]:=λe=>(by rw[e] at cB;cases cB);simpa using this
 have lC:=h_ xY;have dc:=λW=>Zjg 20 20 ⟨#[48]⟩ ⟨#[48]⟩ W;have V7:=λop a b xs ys W=>Z5E op a b xs ys W;rw[Vao (show((20:Int),(⟨#[48]⟩:ByteArray))=(20,⟨#[48]⟩) from rfl)] at dc;generalize awL=L at*;clear hE ko vj ad eD mQ rU tW lQ KB ha xY tC aB;go_enter Tryz.func10,Tryz.ntmps10;go_wp2_with fail;refine(HE.o).mono ?_;rintro x w2 ⟨rfl,a8⟩;have an:=h_ a8;obtain⟨z0,z1,tJ,dt⟩:=HK.o _ (lC.o.trans (a8.mono lC.o.size));clear a8;go_wp2_with fail;refine(HD.o _).mono ?_;rintro x w3 ⟨A3,fB,rfl,bd,af⟩;have iP:=h_ bd;have aJ:=h_ (an.o.trans (af.mono an.o.size));clear af bd z0 z1 tJ dt;go_wp2_with fail;refine(HS.o _ aJ.o).mono ?_;rintro x w4 ⟨A4,gh,rfl,dV,ax⟩;have D8:=h_ (iP.o.below ax);have kD:=h_ dV;have bh:=h_ (aJ.o.trans (ax.mono aJ.o.size));clear ax dV;have D9:=h_ (HQ.o w4 bh.o A3 fB D8.o);simp only[Vaz,Vcc];go_wp2_with fail;refine(D9.o).mono ?_;rintro x w5 ⟨rfl,aH⟩;obtain⟨b4,o4,rfl,eu,c0,c1⟩:=Ye (kD.o.below aH) 2 (by simp);simp at c0 c1;have bE:=h_ (bh.o.trans (aH.mono bh.o.size));obtain⟨z0,z1,na,uc⟩:=HK.o _ (lC.o.trans (bE.o.mono lC.o.size));have mD:=h_ (HV.o w5 bE.o);have tj:=h_ na;clear aH na;go_wp2_with fail;refine(mD.o).mono ?_;rintro x w6 ⟨rfl,bY⟩;have dA:=h_ (tj.o.trans (bY.mono tj.o.size));clear bY;go_wp2;go_returns;exact⟨rfl,dA.o⟩
end Go.Proofs.YtchokmkfobandaaGreatDoor
namespace Go.Proofs.YtchokmkfobandaaGreatDoor
open Go.RowKit Go.Proofs Wv Wv.Vi Wv.Ru Wv.Bc Wv.Sn Wv.Sg Wv.Dc
theorem Zjt {w:World} {A:Option Addr} {b:ByteArray} {l:List (Int×ByteArray)} (ha:At w A (cv l)) (n cap:Nat) (hn:n=l.length) (bo:n<=9223372036854775807) (f t k:Int) (hf:I64 f) (ht:I64 t) (hk:I64 k):
  Calls Tryz.prog 21 #[.int .i64 f,.int .i64 t,.int .i64 k,.string b,.slice A n cap] w λx w'=>∃A2 aE,x=.returned (.slice A2 (smp f t k b l).length aE)/\At w' A2 (cv (smp f t k b l))/\Below w.heap.size w w':=
 (Z6W ha n cap hn bo f t k hf ht hk).mono λx w' ⟨v,h1,⟨A2,aE,h2,h3⟩,h4⟩=>⟨A2,aE,by rw[h1,h2],h3,h4⟩
theorem Zgs {l:List (Int×ByteArray)} {m:Int} (h:fewB l m=true):(l.length:Int)<=m/\∀x∈l,x.2.size<=150:=by
 unfold fewB at h;rw[Va1,Vas,Vbv] at h;exact⟨h.2,λx hx=>by have:=of_decide_eq_true (h.1 x hx);omega⟩
theorem Zgt (f t k:Int) (b:ByteArray) (l:List (Int×ByteArray)):(smp f t k b l).length<=4096:=by
 rw[Z48];have:=Zge f t k;omega
end Go.Proofs.YtchokmkfobandaaGreatDoor
