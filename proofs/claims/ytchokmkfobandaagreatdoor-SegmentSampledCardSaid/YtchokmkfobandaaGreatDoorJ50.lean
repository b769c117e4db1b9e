import Derived.Test.YtchokmkfobandaaGreatDoorJ47
set_option linter.unusedVariables false
set_option linter.unusedSimpArgs false
set_option maxRecDepth 100000
set_option maxHeartbeats 8000000
namespace Wv.Sg
open Wv.Vi Wv.Ru Wv.Bc Wv.Fm Wv.Lz Wv.Sn Wv.Tm Wv.Dc
open Go.Proofs.YtchokmkfobandaaGreatDoor
theorem Zjx {s:Int×Int} {f t k:Int} {d:List UInt8} {e:Nat} (h:Y2 s f t k=e) (he:e≠0):ssD s f t k d=([],e):=by unfold ssD;rw[h,Vaf he]
theorem Zgv {s:Int×Int} {f t k:Int} {d:List UInt8} (h:Y2 s f t k=0) (hm:ms f t k=[]):ssD s f t k d=if d=[] then([],0) else([],12):=by unfold ssD;rw[Vad (by rw[h];simp),Vaf hm]
theorem Zjy {s:Int×Int} {f t k:Int} {d:List UInt8} (h:Y2 s f t k=0) (hm:ms f t k≠[]) (h4:4096<d.length):ssD s f t k d=([],12):=by unfold ssD;rw[Vad (by rw[h];simp),Vad hm,Vaf h4]
theorem ZkQ {s:Int×Int} {f t k:Int} {d:List UInt8} (h:Y2 s f t k=0) (hm:ms f t k≠[]) (h4:¬4096<d.length) (hu:unws d=none):ssD s f t k d=([],12):=by unfold ssD;rw[Vad (by rw[h];simp),Vad hm,Vad h4,hu]
theorem Zjz {s:Int×Int} {f t k:Int} {d:List UInt8} (h:Y2 s f t k=0) (hm:ms f t k≠[]) (h4:¬4096<d.length) {fr:List (Nat×List UInt8)} (hu:unws d=some fr) (hl:fr.length≠1):ssD s f t k d=([],12):=by
 have h3:=(Z2g h).2.2
 have hr:∀n,Yk s n fr=none:=λn=>by
  unfold Yk;rw[Vad h3];match fr,hl with
  |[],_=>rfl
  |[q],hl=>exact absurd rfl hl
  |_::_::_,_=>rfl
 unfold ssD;rw[Vad (by rw[h];simp),Vad hm,Vad h4,hu];simp only[hr]
theorem ZjA {s:Int×Int} {f t k:Int} {d:List UInt8} (h:Y2 s f t k=0) (hm:ms f t k≠[]) (h4:¬4096<d.length) {q:Nat} {C:List UInt8} (hu:unws d=some [(q,C)]):ssD s f t k d=match dvO s q C (ms f t k).length with
  |none=>([],12)
  |some vs=>if vs.all (λv=>vaB Z9 s (toL v))=true then((ms f t k).zip vs,0) else([],12):=by
 have h3:=(Z2g h).2.2;unfold ssD;rw[Vad (by rw[h];simp),Vad hm,Vad h4,hu];simp only[Zhg h3];cases dvO s q C (ms f t k).length<;>rfl
theorem Zgw {ts:List Int} {vs:List ByteArray} (h:ts.length=vs.length) {i:Nat} (hi:i<ts.length):(ts.zip vs).take (i+1)=(ts.zip vs).take i++[(ts[i],vs[i]'(by omega))]:=by
 have hl:i<(ts.zip vs).length:=(by rw[List.length_zip];omega);rw[Vac hl];congr 2;simp
end Wv.Sg
namespace Go.Proofs.YtchokmkfobandaaGreatDoor
open Go.RowKit Go.Proofs Wv Wv.Vi Wv.Ru Wv.Bc Wv.Sn Wv.Sg Wv.Tm Wv.Dc Wv.Fm
theorem ZdX {w:World} (a c f t k:Int) (hk:I64 k) (hv:VaC a c w) (d:List UInt8) (hd:d.length<=1000000000):
  Calls Tryz.prog 26 #[.agg #[.int .i64 a,.int .i64 c],.int .i64 f,.int .i64 t,.int .i64 k,.string (bs d)] w λx w'=>CdR w (ssD (a,c) f t k d) x w':=by
 have HK:=h_ (λW h=>Yy (w:=w) (W:=W) (a:=a) (c:=c) h);obtain⟨R,hR⟩:∃R,ssD (a,c) f t k d=R:=⟨_,rfl⟩;rw[hR];unfold CdR;obtain⟨E,hE⟩:∃E,Y2 (a,c) f t k=E:=⟨_,rfl⟩;by_cases tm:E=0
 ·subst tm;have HM:=h_ (λW=>Zhi hk hE W);have jB:=Z6Z f t k;have cB:=Xl d;have ad:(bs d).size=d.length:=Z0 d;by_cases eV:ms f t k=[]
  ·have rA:=Zgv (d:=d) hE eV;rw[hR] at rA;rw[eV] at HM;simp only[Vcc] at HM;by_cases ko:d=[]
   ·have HR:Hid (R=([],0)):=h_ (by rw[rA,Vaf ko]);subst ko;rw[show bs ([]:List UInt8)=⟨#[]⟩ from rfl];clear hv hd hE hR jB cB ad eV rA hk;go_enter Tryz.func26,Tryz.ntmps26;go_wp2_with fail;refine(HM.o _).mono ?_;rintro x w1 ⟨Am,mK,rfl,cJ,a7⟩;obtain⟨z0,z1,a8,_⟩:=HK.o _ a7;have an:=h_ a8;clear a7 a8 cJ HM;go_wp2;go_returns;exact⟨_,by rw[HR.o];rfl,by rw[HR.o];exact ChR.nil _,an.o⟩
   ·have HR:Hid (R=([],12)):=h_ (by rw[rA,Vad ko]);rw[Vai ko] at cB;generalize bs d=S at*
    have az:(S.toList !=[])=true:=by
     have:S.toList≠[]:=λe=>(by rw[e] at cB;cases cB);simpa using this
    clear hv hd hE hR jB ad eV rA hk ko;go_enter Tryz.func26,Tryz.ntmps26;go_wp2_with fail;refine(HM.o _).mono ?_;rintro x w1 ⟨Am,mK,rfl,cJ,a7⟩;obtain⟨z0,z1,a8,_⟩:=HK.o _ a7;have an:=h_ a8;clear a7 a8 cJ HM;go_wp2;go_returns;exact⟨_,by rw[HR.o];rfl,by rw[HR.o];exact ChR.nil _,an.o⟩
  ·have uF:(((ms f t k).length:Int)==0)=false:=by
    rw[Vam];intro e;exact eV (Vaj (by omega))
   by_cases h4:4096<d.length
   ·have HR:Hid (R=([],12)):=h_ (by rw[<-hR];exact Zjy hE eV h4);have hg:(4096:Int)<((bs d).size:Int):=(by omega);generalize bs d=S at*;generalize ms f t k=m at*;clear hv hd hE hR jB ad eV hk h4 cB;go_enter Tryz.func26,Tryz.ntmps26;go_wp2_with fail;refine(HM.o _).mono ?_;rintro x w1 ⟨Am,mK,rfl,cJ,a7⟩;obtain⟨z0,z1,a8,_⟩:=HK.o _ a7;have an:=h_ a8;clear a7 a8 cJ HM;go_wp2;go_returns;exact⟨_,by rw[HR.o];rfl,by rw[HR.o];exact ChR.nil _,an.o⟩
   ·have hg:¬(4096:Int)<((bs d).size:Int):=(by omega);cases hu:unws d with
    |none=>
     have HR:Hid (R=([],12)):=h_ (by rw[<-hR];exact ZkQ hE eV h4 hu);have HF:=h_ (λW=>ZdJ (by omega) hu W);generalize bs d=S at*;generalize ms f t k=m at*;clear hv hd hE hR jB ad eV hk h4 cB hu;go_enter Tryz.func26,Tryz.ntmps26;go_wp2_with fail;refine(HM.o _).mono ?_;rintro x w1 ⟨Am,mK,rfl,cJ,a7⟩;have ao:=h_ a7;clear a7 cJ HM;go_wp2_with fail;refine(HF.o _).mono ?_;rintro x w2 ⟨v,rfl,a8⟩;obtain⟨z0,z1,af,_⟩:=HK.o _ (ao.o.trans (a8.mono ao.o.size));have aJ:=h_ af;clear a8 af;go_wp2;go_returns;exact⟨_,by rw[HR.o];rfl,by rw[HR.o];exact ChR.nil _,aJ.o⟩
    |some fr=>
     have HF:=h_ (λW=>Z71 (by omega) hu W);by_cases hL:fr.length=1
     ·obtain⟨p,rfl⟩:=List.length_eq_one_iff.1 hL;obtain⟨q,C⟩:=p;have mT:=ZjA hE eV h4 hu;rw[hR] at mT;have rD:=Z1l hu (q,C) Vap;obtain⟨Da,cu,Db⟩:=Z2g hE;have D2:=h_ (λW=>Zhh (w:=W) a c (q:Int) (ms f t k).length C Da Db (by show C.length<=_;have:C.length<=4096:=rD;omega));obtain⟨O,hO⟩:∃O,dvO (a,c) (q:Int) C (ms f t k).length=O:=⟨_,rfl⟩;rw[hO] at D2 mT;have D4:Hid (∀r,O=some r->r.length=(ms f t k).length/\∀v∈r,v.size<=128):=h_ (λr hr=>ZdK (hO.trans hr));have vR:=h_ mT;have HV:=h_ (λv h W hW=>hv v h W hW);simp only[Vaz,Vcc] at HF;have Pq:frs [(q,C)]=[.int .i64 (q:Int),.string (bs C)]:=rfl;rw[Pq] at HF;generalize bs d=S at*;generalize bs C=SC at*;generalize (q:Int)=qI at*;generalize ms f t k=m at*;have eR:=jB;clear hv hd hE hR jB ad eV hk h4 cB hu mT hO Da cu Db rD hL Pq;go_enter Tryz.func26,Tryz.ntmps26;go_wp2_with fail;refine(HM.o _).mono ?_;rintro x w1 ⟨Am,mK,rfl,cJ,a7⟩;have ao:=h_ a7;have qq:=h_ cJ;clear a7 cJ HM;go_wp2_with fail;refine(HF.o _).mono ?_;rintro x w2 ⟨A2,aE,rfl,ak,a8⟩;have EY:=h_ (ao.o.trans (a8.mono ao.o.size));have Dd:=h_ (qq.o.below a8);obtain⟨bF,oF,rfl,uE,d0⟩:=ak.get 0 (.int .i64 qI) rfl;obtain⟨V9,Va,dM,_,d1⟩:=ak.get 1 (.string SC) rfl;injection dM with dM;injection dM with e1 e2;subst e1;subst e2;simp at d0
      have kh:∀X,Below w2.drew.heap.size w2.drew X->X.cell? ⟨w.heap.size,0,none⟩=some (.int .i64 a)/\X.cell? ⟨w.heap.size,1,none⟩=some (.int .i64 c)/\X.cell? ⟨bF,oF,none⟩=some (.int .i64 qI)/\X.cell? ⟨bF,oF+1,none⟩=some (.string SC):=λX h=>by
       have g:=HK.o X (EY.o.drew.trans (h.mono EY.o.drew.size));have g2:=((Vae w2.heap.size w2).drew).trans h;exact⟨g.1,g.2.1,YT g2 uE d0,YT g2 uE d1⟩
      have lI:=h_ kh;have h0:=kh _ (Vae _ _);clear kh ak a8 d0 d1;go_wp2
      go_region_held3 (λX=>X.cell? ⟨w.heap.size,0,none⟩=some (.int .i64 a)/\X.cell? ⟨w.heap.size,1,none⟩=some (.int .i64 c)/\X.cell? ⟨bF,oF,none⟩=some (.int .i64 qI)/\X.cell? ⟨bF,oF+1,none⟩=some (.string SC)) (first|with_reducible assumption) (first
       |(go_at_call 38;with_reducible refine(D2.o _).mono ?_;rintro r w5 ⟨A4,m4,gh,rfl,h4,aH⟩;have H4:=h_ h4;have cU:=lI.o _ aH;have bE:=h_ aH;clear h4 aH))
      have rE:=h_ (EY.o.drew.trans (bE.o.mono EY.o.drew.size));have D5:=h_ (Dd.o.drew.below bE.o);clear h0 cU uE;cases O with
      |none=>
       have HR:Hid (R=([],12)):=h_ (by rw[vR.o]);have Kx:=(HK.o _ rE.o).2.2.1;clear H4;simp only[Option.isSome_none];go_wp2;go_returns;exact⟨_,by rw[HR.o];rfl,by rw[HR.o];exact ChR.nil _,Kx⟩
      |some vs=>
       obtain⟨jB,qQ⟩:=H4.o vs rfl;obtain⟨bq,eE⟩:=D4.o vs rfl;have D6:=h_ qQ;have kN:=h_ bq;have oQ:=h_ eE;have Pr:Hid (R=if vs.all (λv=>vaB Z9 (a,c) (toL v))=true then(m.zip vs,0) else([],12)):=h_ (by rw[vR.o]);have yt:m4=m.length:=jB.trans bq;subst yt;clear jB qQ bq eE H4 D4 vR;simp only[Option.isSome_some];go_wp2;generalize w5=wL at*;go_loopw [17,65] (λC6 x9 wr=>∃i:Nat,i<=m.length/\x9=.int .i64 (i:Int)/\Hid (∀j (h:j<vs.length),j<i->vaB Z9 (a,c) (toL vs[j])=true)/\Hid (wr.ownsRow wL.heap.size 33 2 C6 i (cv ((m.zip vs).take i)))/\Hid (Below wL.heap.size wL wr)) (λ_ x9 _=>(m.length-intOf x9).toNat);case atStart=>exact⟨0,Vat _,rfl,h_ (λj h h2=>absurd h2 (Vc2 _)),h_ Zk,h_ (Vae _ _)⟩
       case round=>
        obtain⟨i,hi,rfl,ar,aa,hb⟩:=hrel;obtain⟨A6,iJ,rfl,bW⟩:=Zl aa.o;have jd:=h_ (rE.o.trans (hb.o.mono rE.o.size));by_cases ab:i<m.length
        ·have EZ:i<vs.length:=(by rw[kN.o];exact ab);obtain⟨bT,oT,rfl,Pj,t0⟩:=Z8n (D5.o.below hb.o) i ab;obtain⟨bV,oV,rfl,Kz,y0⟩:=ZdL (D6.o.below hb.o) i EZ;have gx:=Zgw (ts:=m) (vs:=vs) kN.o.symm ab
         have al:=λ(h:vaB Z9 (a,c) (toL vs[i])=true) j (hj:j<vs.length) (h3:j<i+1)=>(show vaB Z9 (a,c) (toL vs[j])=true by
          by_cases e:j=i
          ·subst e;exact h
          ·exact ar.o j hj (by omega))
         have au:=λ(h:vaB Z9 (a,c) (toL vs[i])=false)=>(show R=([],12) by
          rw[Pr.o,Vad];intro h2;rw[Vbv] at h2;have:=h2 _ (Vak EZ);rw[h] at this;cases this)
         have ad:=oQ.o _ (Vak EZ);obtain⟨X,hX⟩:∃X,m[i]=X:=⟨_,rfl⟩;obtain⟨V,hV⟩:∃V,vs[i]'EZ=V:=⟨_,rfl⟩;rw[hX] at t0 gx;rw[hV] at y0 gx al au ad;obtain⟨B,hB⟩:∃B,vaB Z9 (a,c) (toL V)=B:=⟨_,rfl⟩;have rG:=h_ (HV.o V (by omega) wr.drew (HK.o _ jd.o.drew).2.2.1);rw[hB] at al au rG
         have kh:∀Y,Below wr.drew.heap.size wr.drew Y->Y.cell? ⟨w.heap.size,0,none⟩=some (.int .i64 a)/\Y.cell? ⟨w.heap.size,1,none⟩=some (.int .i64 c)/\Y.cell? ⟨bV,oV+i,none⟩=some (.string V):=λY h=>by
          have g:=HK.o Y (jd.o.drew.trans (h.mono jd.o.drew.size));have g2:=((Vae wr.heap.size wr).drew).trans h;exact⟨g.1,g.2.1,YT g2 Kz y0⟩
         have lI:=h_ kh;have h0:=kh _ (Vae _ _);have iZ:(0:Int)<=(i:Int):=(by omega);have pY:(i:Int)<(m.length:Int):=(by omega);have Vd:=h_ gx;clear kh gx hX hV hB bW ar y0;cases B with
         |false=>
          have HR:Hid (R=([],12)):=h_ (au rfl);clear au al aa hb;go_wp2
          go_region_held3 (λY=>Y.cell? ⟨w.heap.size,0,none⟩=some (.int .i64 a)/\Y.cell? ⟨w.heap.size,1,none⟩=some (.int .i64 c)/\Y.cell? ⟨bV,oV+i,none⟩=some (.string V)) (first|with_reducible assumption) (first
           |(go_at_call 25;with_reducible refine(rG.o).mono ?_;rintro r w6 ⟨rfl,bY⟩;have cU:=lI.o _ bY;have dA:=h_ (jd.o.drew.trans (bY.mono jd.o.drew.size));clear bY))
          have aP:=(HK.o _ dA.o).2.2.1;clear h0 cU;go_wp2;go_returns;exact⟨_,by rw[HR.o];rfl,by rw[HR.o];exact ChR.nil _,aP⟩
         |true=>
          have eK:=h_ (al rfl);clear au al;go_wp2
          go_region_held3 (λY=>Y.cell? ⟨w.heap.size,0,none⟩=some (.int .i64 a)/\Y.cell? ⟨w.heap.size,1,none⟩=some (.int .i64 c)/\Y.cell? ⟨bV,oV+i,none⟩=some (.string V)) (first|with_reducible assumption) (first
           |(go_at_call 25;with_reducible refine(rG.o).mono ?_;rintro r w6 ⟨rfl,bY⟩;have cU:=lI.o _ bY;have dA:=h_ bY;clear bY))
          have y1:=cU.2.2;have eM:=hb.o.drew.trans (dA.o.mono hb.o.drew.size);have gE:=Zn (Zn aa.o (Fr.of_below (S:=nob) ((Vae wr.heap.size wr).drew)) (λ_ _ f=>f)) (Fr.of_below (S:=nob) dA.o) (λ_ _ f=>f);obtain⟨v',W',ag,ae,aF⟩:=X8 gE eM eM.size (by omega) (X,V);rw[<-Vd.o] at ae;have aq:=h_ ag;have aw:=h_ ae;have cE:=h_ aF;clear h0 cU ag ae aF gE eM aa hb
          go_wp2_with (
           at_builtin;refine Z3 (by with_reducible rfl) rfl _ _ _ rfl _ _ (by rfl) (by rfl) aq.o ?_)
          refine⟨⟨i+1,ab,by go_num,eK,aw,cE⟩,?_⟩;simp[intOf]<;>omega
        ·have aU:i=m.length:=(by omega);subst aU;rw[Vah (by rw[List.length_zip];omega)] at bW;have pF:(m.zip vs).length=m.length:=(by rw[List.length_zip,kN.o];omega)
         have HR:Hid (R=(m.zip vs,0)):=h_ (by
          rw[Pr.o,Vaf];rw[Vbv];intro v hv;obtain⟨j,hj,rfl⟩:=List.getElem_of_mem hv;exact ar.o j hj (by rw[<-kN.o];exact hj))
         have iQ:=h_ bW;have Ve:=h_ pF;have jb:=h_ (HK.o _ jd.o).2.2.1;clear aa bW pF ar;go_wp2;go_returns;exact⟨_,by rw[HR.o];rfl,by rw[HR.o];exact⟨_,_,by rw[Ve.o];rfl,iQ.o⟩,jb.o⟩
     ·have HR:Hid (R=([],12)):=h_ (by rw[<-hR];exact Zjz hE eV h4 hu hL);have Pk:((fr.length:Int) !=1)=true:=(by rw[Va0];omega);generalize bs d=S at*;generalize ms f t k=m at*;clear hv hd hE hR jB ad eV hk h4 cB hu hL;go_enter Tryz.func26,Tryz.ntmps26;go_wp2_with fail;refine(HM.o _).mono ?_;rintro x w1 ⟨Am,mK,rfl,cJ,a7⟩;have ao:=h_ a7;clear a7 cJ HM;go_wp2_with fail;refine(HF.o _).mono ?_;rintro x w2 ⟨A2,aE,rfl,ak,a8⟩;obtain⟨z0,z1,af,_⟩:=HK.o _ (ao.o.trans (a8.mono ao.o.size));have aJ:=h_ af;clear a8 af ak;go_wp2;go_returns;exact⟨_,by rw[HR.o];rfl,by rw[HR.o];exact ChR.nil _,aJ.o⟩
 ·have HM:=h_ (λW=>ZdU hk hE tm W);have HR:Hid (R=([],E)):=h_ (by rw[<-hR];exact Zjx hE tm);have th:((E:Int) !=0)=true:=(by rw[Va0];omega);generalize bs d=S at*;clear hv hd hE hR tm hk;go_enter Tryz.func26,Tryz.ntmps26;go_wp2_with fail;refine(HM.o _).mono ?_;rintro x w1 ⟨rfl,a7⟩;obtain⟨z0,z1,a8,_⟩:=HK.o _ a7;have an:=h_ a8;clear a7 a8 HM;go_wp2;go_returns;exact⟨_,by rw[HR.o];rfl,by rw[HR.o];exact ChR.nil _,an.o⟩
end Go.Proofs.YtchokmkfobandaaGreatDoor
