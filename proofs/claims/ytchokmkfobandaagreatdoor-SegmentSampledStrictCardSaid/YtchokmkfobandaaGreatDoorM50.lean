import Derived.Test.YtchokmkfobandaaGreatDoorM47
set_option linter.unusedVariables false
set_option linter.unusedSimpArgs false
set_option maxRecDepth 100000
set_option maxHeartbeats 8000000
namespace Wv.Sg
open Wv.Vi Wv.Ru Wv.Bc Wv.Fm Wv.Lz Wv.Sn Wv.Tm Wv.Dc
open Go.Proofs.YtchokmkfobandaaGreatDoor
theorem ZjD {s:Int×Int} {f t k:Int} {d:List UInt8} {e:Nat} (h:ZR s f t k=e) (he:e≠0):ssD s f t k d=([],e):=by unfold ssD;rw[h,Vaf he]
theorem Zgz {s:Int×Int} {f t k:Int} {d:List UInt8} (h:ZR s f t k=0) (hm:ms f t k=[]):ssD s f t k d=if d=[] then([],0) else([],12):=by unfold ssD;rw[Vad (by rw[h];simp),Vaf hm]
theorem ZjE {s:Int×Int} {f t k:Int} {d:List UInt8} (h:ZR s f t k=0) (hm:ms f t k≠[]) (h4:4096<d.length):ssD s f t k d=([],12):=by unfold ssD;rw[Vad (by rw[h];simp),Vad hm,Vaf h4]
theorem ZkT {s:Int×Int} {f t k:Int} {d:List UInt8} (h:ZR s f t k=0) (hm:ms f t k≠[]) (h4:¬4096<d.length) (hu:unws d=none):ssD s f t k d=([],12):=by unfold ssD;rw[Vad (by rw[h];simp),Vad hm,Vad h4,hu]
theorem ZjF {s:Int×Int} {f t k:Int} {d:List UInt8} (h:ZR s f t k=0) (hm:ms f t k≠[]) (h4:¬4096<d.length) {fr:List (Nat×List UInt8)} (hu:unws d=some fr) (hl:fr.length≠1):ssD s f t k d=([],12):=by
 have h3:=(Z0W h).2.2
 have hr:∀n,Y6 s n fr=none:=λn=>by
  unfold Y6;rw[Vad h3];match fr,hl with
  |[],_=>rfl
  |[q],hl=>exact absurd rfl hl
  |_::_::_,_=>rfl
 unfold ssD;rw[Vad (by rw[h];simp),Vad hm,Vad h4,hu];simp only[hr]
theorem ZjG {s:Int×Int} {f t k:Int} {d:List UInt8} (h:ZR s f t k=0) (hm:ms f t k≠[]) (h4:¬4096<d.length) {q:Nat} {C:List UInt8} (hu:unws d=some [(q,C)]):ssD s f t k d=match dvO s q C (ms f t k).length with
  |none=>([],12)
  |some vs=>if vs.all (λv=>vaB Z6 s (toL v))=true then((ms f t k).zip vs,0) else([],12):=by
 have h3:=(Z0W h).2.2;unfold ssD;rw[Vad (by rw[h];simp),Vad hm,Vad h4,hu];simp only[Zhk h3];cases dvO s q C (ms f t k).length<;>rfl
theorem ZgA {ts:List Int} {vs:List ByteArray} (h:ts.length=vs.length) {i:Nat} (hi:i<ts.length):(ts.zip vs).take (i+1)=(ts.zip vs).take i++[(ts[i],vs[i]'(by omega))]:=by
 have hl:i<(ts.zip vs).length:=(by rw[List.length_zip];omega);rw[Vac hl];congr 2;simp
end Wv.Sg
namespace Go.Proofs.YtchokmkfobandaaGreatDoor
open Go.RowKit Go.Proofs Wv Wv.Vi Wv.Ru Wv.Bc Wv.Sn Wv.Sg Wv.Tm Wv.Dc Wv.Fm
theorem Ze0 {w:World} (a c f t k:Int) (hk:I64 k) (hv:VaC a c w) (d:List UInt8) (hd:d.length<=1000000000):
  Calls Tryz.prog 26 #[.agg #[.int .i64 a,.int .i64 c],.int .i64 f,.int .i64 t,.int .i64 k,.string (bs d)] w λx w'=>CdR w (ssD (a,c) f t k d) x w':=by
 have HK:=h_ (λW h=>Y5 (w:=w) (W:=W) (a:=a) (c:=c) h);obtain⟨R,hR⟩:∃R,ssD (a,c) f t k d=R:=⟨_,rfl⟩;rw[hR];unfold CdR;obtain⟨E,hE⟩:∃E,ZR (a,c) f t k=E:=⟨_,rfl⟩;by_cases tq:E=0
 ·subst tq;have HM:=h_ (λW=>Zhn hk hE W);have jv:=Z4f f t k;have cB:=Xk d;have ad:(bs d).size=d.length:=Z0 d;by_cases eW:ms f t k=[]
  ·have rC:=Zgz (d:=d) hE eW;rw[hR] at rC;rw[eW] at HM;simp only[Vb6] at HM;by_cases kh:d=[]
   ·have HR:Hid (R=([],0)):=h_ (by rw[rC,Vaf kh]);subst kh;rw[show bs ([]:List UInt8)=⟨#[]⟩ from rfl];clear hv hd hE hR jv cB ad eW rC hk;go_enter Tryz.func26,Tryz.ntmps26;go_wp2_with fail;refine(HM.o _).mono ?_;rintro x w1 ⟨Am,mM,rfl,cN,a7⟩;obtain⟨z0,z1,a8,_⟩:=HK.o _ a7;have ak:=h_ a8;clear a7 a8 cN HM;go_wp2;go_returns;exact⟨_,by rw[HR.o];rfl,by rw[HR.o];exact ChR.nil _,ak.o⟩
   ·have HR:Hid (R=([],12)):=h_ (by rw[rC,Vad kh]);rw[Vah kh] at cB;generalize bs d=S at*
    have ay:(S.toList !=[])=true:=by
     have:S.toList≠[]:=λe=>(by rw[e] at cB;cases cB);simpa using this
    clear hv hd hE hR jv ad eW rC hk kh;go_enter Tryz.func26,Tryz.ntmps26;go_wp2_with fail;refine(HM.o _).mono ?_;rintro x w1 ⟨Am,mM,rfl,cN,a7⟩;obtain⟨z0,z1,a8,_⟩:=HK.o _ a7;have ak:=h_ a8;clear a7 a8 cN HM;go_wp2;go_returns;exact⟨_,by rw[HR.o];rfl,by rw[HR.o];exact ChR.nil _,ak.o⟩
  ·have uH:(((ms f t k).length:Int)==0)=false:=by
    rw[Van];intro e;exact eW (Vak (by omega))
   by_cases h4:4096<d.length
   ·have HR:Hid (R=([],12)):=h_ (by rw[<-hR];exact ZjE hE eW h4);have hg:(4096:Int)<((bs d).size:Int):=(by omega);generalize bs d=S at*;generalize ms f t k=m at*;clear hv hd hE hR jv ad eW hk h4 cB;go_enter Tryz.func26,Tryz.ntmps26;go_wp2_with fail;refine(HM.o _).mono ?_;rintro x w1 ⟨Am,mM,rfl,cN,a7⟩;obtain⟨z0,z1,a8,_⟩:=HK.o _ a7;have ak:=h_ a8;clear a7 a8 cN HM;go_wp2;go_returns;exact⟨_,by rw[HR.o];rfl,by rw[HR.o];exact ChR.nil _,ak.o⟩
   ·have hg:¬(4096:Int)<((bs d).size:Int):=(by omega);cases hu:unws d with
    |none=>
     have HR:Hid (R=([],12)):=h_ (by rw[<-hR];exact ZkT hE eW h4 hu);have HF:=h_ (λW=>ZdN (by omega) hu W);generalize bs d=S at*;generalize ms f t k=m at*;clear hv hd hE hR jv ad eW hk h4 cB hu;go_enter Tryz.func26,Tryz.ntmps26;go_wp2_with fail;refine(HM.o _).mono ?_;rintro x w1 ⟨Am,mM,rfl,cN,a7⟩;have al:=h_ a7;clear a7 cN HM;go_wp2_with fail;refine(HF.o _).mono ?_;rintro x w2 ⟨v,rfl,a8⟩;obtain⟨z0,z1,af,_⟩:=HK.o _ (al.o.trans (a8.mono al.o.size));have aA:=h_ af;clear a8 af;go_wp2;go_returns;exact⟨_,by rw[HR.o];rfl,by rw[HR.o];exact ChR.nil _,aA.o⟩
    |some fr=>
     have HF:=h_ (λW=>Z72 (by omega) hu W);by_cases hL:fr.length=1
     ·obtain⟨p,rfl⟩:=List.length_eq_one_iff.1 hL;obtain⟨q,C⟩:=p;have mY:=ZjG hE eW h4 hu;rw[hR] at mY;have rE:=Z1q hu (q,C) Vap;obtain⟨Dh,cu,Di⟩:=Z0W hE;have Da:=h_ (λW=>Zhl (w:=W) a c (q:Int) (ms f t k).length C Dh Di (by show C.length<=_;have:C.length<=4096:=rE;omega));obtain⟨O,hO⟩:∃O,dvO (a,c) (q:Int) C (ms f t k).length=O:=⟨_,rfl⟩;rw[hO] at Da mY;have Db:Hid (∀r,O=some r->r.length=(ms f t k).length/\∀v∈r,v.size<=128):=h_ (λr hr=>ZdO (hO.trans hr));have vO:=h_ mY;have HV:=h_ (λv h W hW=>hv v h W hW);simp only[Vaz,Vb6] at HF;have Ph:frs [(q,C)]=[.int .i64 (q:Int),.string (bs C)]:=rfl;rw[Ph] at HF;generalize bs d=S at*;generalize bs C=SC at*;generalize (q:Int)=qI at*;generalize ms f t k=m at*;have eS:=jv;clear hv hd hE hR jv ad eW hk h4 cB hu mY hO Dh cu Di rE hL Ph;go_enter Tryz.func26,Tryz.ntmps26;go_wp2_with fail;refine(HM.o _).mono ?_;rintro x w1 ⟨Am,mM,rfl,cN,a7⟩;have al:=h_ a7;have qv:=h_ cN;clear a7 cN HM;go_wp2_with fail;refine(HF.o _).mono ?_;rintro x w2 ⟨A2,aE,rfl,an,a8⟩;have EX:=h_ (al.o.trans (a8.mono al.o.size));have Dj:=h_ (qv.o.below a8);obtain⟨bF,oF,rfl,uG,d0⟩:=an.get 0 (.int .i64 qI) rfl;obtain⟨UU,UV,dR,_,d1⟩:=an.get 1 (.string SC) rfl;injection dR with dR;injection dR with e1 e2;subst e1;subst e2;simp at d0
      have jV:∀X,Below w2.drew.heap.size w2.drew X->X.cell? ⟨w.heap.size,0,none⟩=some (.int .i64 a)/\X.cell? ⟨w.heap.size,1,none⟩=some (.int .i64 c)/\X.cell? ⟨bF,oF,none⟩=some (.int .i64 qI)/\X.cell? ⟨bF,oF+1,none⟩=some (.string SC):=λX h=>by
       have g:=HK.o X (EX.o.drew.trans (h.mono EX.o.drew.size));have g2:=((Vae w2.heap.size w2).drew).trans h;exact⟨g.1,g.2.1,YT g2 uG d0,YT g2 uG d1⟩
      have lI:=h_ jV;have h0:=jV _ (Vae _ _);clear jV an a8 d0 d1;go_wp2
      go_region_held3 (λX=>X.cell? ⟨w.heap.size,0,none⟩=some (.int .i64 a)/\X.cell? ⟨w.heap.size,1,none⟩=some (.int .i64 c)/\X.cell? ⟨bF,oF,none⟩=some (.int .i64 qI)/\X.cell? ⟨bF,oF+1,none⟩=some (.string SC)) (first|with_reducible assumption) (first
       |(go_at_call 38;with_reducible refine(Da.o _).mono ?_;rintro r w5 ⟨A4,m4,gg,rfl,h4,aB⟩;have H4:=h_ h4;have cY:=lI.o _ aB;have bj:=h_ aB;clear h4 aB))
      have rF:=h_ (EX.o.drew.trans (bj.o.mono EX.o.drew.size));have Dd:=h_ (Dj.o.drew.below bj.o);clear h0 cY uG;cases O with
      |none=>
       have HR:Hid (R=([],12)):=h_ (by rw[vO.o]);have Ks:=(HK.o _ rF.o).2.2.1;clear H4;simp only[Option.isSome_none];go_wp2;go_returns;exact⟨_,by rw[HR.o];rfl,by rw[HR.o];exact ChR.nil _,Ks⟩
      |some vs=>
       obtain⟨jv,qU⟩:=H4.o vs rfl;obtain⟨aV,di⟩:=Db.o vs rfl;have Df:=h_ qU;have kL:=h_ aV;have oW:=h_ di;have Pi:Hid (R=if vs.all (λv=>vaB Z6 (a,c) (toL v))=true then(m.zip vs,0) else([],12)):=h_ (by rw[vO.o]);have yy:m4=m.length:=jv.trans aV;subst yy;clear jv qU aV di H4 Db vO;simp only[Option.isSome_some];go_wp2;generalize w5=wL at*;go_loopw [17,65] (λCg x8 wr=>∃i:Nat,i<=m.length/\x8=.int .i64 (i:Int)/\Hid (∀j (h:j<vs.length),j<i->vaB Z6 (a,c) (toL vs[j])=true)/\Hid (wr.ownsRow wL.heap.size 33 2 Cg i (cv ((m.zip vs).take i)))/\Hid (Below wL.heap.size wL wr)) (λ_ x8 _=>(m.length-intOf x8).toNat);case atStart=>exact⟨0,Var _,rfl,h_ (λj h h2=>absurd h2 (Vda _)),h_ Zk,h_ (Vae _ _)⟩
       case round=>
        obtain⟨i,hi,rfl,ao,aa,hb⟩:=hrel;obtain⟨A6,gm,rfl,bN⟩:=Zm aa.o;have lW:=h_ (rF.o.trans (hb.o.mono rF.o.size));by_cases ab:i<m.length
        ·have EY:i<vs.length:=(by rw[kL.o];exact ab);obtain⟨bT,oT,rfl,Pa,t0⟩:=Z8r (Dd.o.below hb.o) i ab;obtain⟨bV,oV,rfl,Kv,y0⟩:=ZdP (Df.o.below hb.o) i EY;have gy:=ZgA (ts:=m) (vs:=vs) kL.o.symm ab
         have aq:=λ(h:vaB Z6 (a,c) (toL vs[i])=true) j (hj:j<vs.length) (h3:j<i+1)=>(show vaB Z6 (a,c) (toL vs[j])=true by
          by_cases e:j=i
          ·subst e;exact h
          ·exact ao.o j hj (by omega))
         have aH:=λ(h:vaB Z6 (a,c) (toL vs[i])=false)=>(show R=([],12) by
          rw[Pi.o,Vad];intro h2;rw[Vbp] at h2;have:=h2 _ (Vaj EY);rw[h] at this;cases this)
         have ad:=oW.o _ (Vaj EY);obtain⟨X,hX⟩:∃X,m[i]=X:=⟨_,rfl⟩;obtain⟨V,hV⟩:∃V,vs[i]'EY=V:=⟨_,rfl⟩;rw[hX] at t0 gy;rw[hV] at y0 gy aq aH ad;obtain⟨B,hB⟩:∃B,vaB Z6 (a,c) (toL V)=B:=⟨_,rfl⟩;have nj:=h_ (HV.o V (by omega) wr.drew (HK.o _ lW.o.drew).2.2.1);rw[hB] at aq aH nj
         have jV:∀Y,Below wr.drew.heap.size wr.drew Y->Y.cell? ⟨w.heap.size,0,none⟩=some (.int .i64 a)/\Y.cell? ⟨w.heap.size,1,none⟩=some (.int .i64 c)/\Y.cell? ⟨bV,oV+i,none⟩=some (.string V):=λY h=>by
          have g:=HK.o Y (lW.o.drew.trans (h.mono lW.o.drew.size));have g2:=((Vae wr.heap.size wr).drew).trans h;exact⟨g.1,g.2.1,YT g2 Kv y0⟩
         have lI:=h_ jV;have h0:=jV _ (Vae _ _);have iS:(0:Int)<=(i:Int):=(by omega);have nI:(i:Int)<(m.length:Int):=(by omega);have UZ:=h_ gy;clear jV gy hX hV hB bN ao y0;cases B with
         |false=>
          have HR:Hid (R=([],12)):=h_ (aH rfl);clear aH aq aa hb;go_wp2
          go_region_held3 (λY=>Y.cell? ⟨w.heap.size,0,none⟩=some (.int .i64 a)/\Y.cell? ⟨w.heap.size,1,none⟩=some (.int .i64 c)/\Y.cell? ⟨bV,oV+i,none⟩=some (.string V)) (first|with_reducible assumption) (first
           |(go_at_call 25;with_reducible refine(nj.o).mono ?_;rintro r w6 ⟨rfl,bQ⟩;have cY:=lI.o _ bQ;have cQ:=h_ (lW.o.drew.trans (bQ.mono lW.o.drew.size));clear bQ))
          have aN:=(HK.o _ cQ.o).2.2.1;clear h0 cY;go_wp2;go_returns;exact⟨_,by rw[HR.o];rfl,by rw[HR.o];exact ChR.nil _,aN⟩
         |true=>
          have dm:=h_ (aq rfl);clear aH aq;go_wp2
          go_region_held3 (λY=>Y.cell? ⟨w.heap.size,0,none⟩=some (.int .i64 a)/\Y.cell? ⟨w.heap.size,1,none⟩=some (.int .i64 c)/\Y.cell? ⟨bV,oV+i,none⟩=some (.string V)) (first|with_reducible assumption) (first
           |(go_at_call 25;with_reducible refine(nj.o).mono ?_;rintro r w6 ⟨rfl,bQ⟩;have cY:=lI.o _ bQ;have cQ:=h_ bQ;clear bQ))
          have y1:=cY.2.2;have eA:=hb.o.drew.trans (cQ.o.mono hb.o.drew.size);have gE:=Zl (Zl aa.o (Fr.of_below (S:=nob) ((Vae wr.heap.size wr).drew)) (λ_ _ f=>f)) (Fr.of_below (S:=nob) cQ.o) (λ_ _ f=>f);obtain⟨v',W',ag,ae,aG⟩:=XU gE eA eA.size (by omega) (X,V);rw[<-UZ.o] at ae;have ar:=h_ ag;have aw:=h_ ae;have cH:=h_ aG;clear h0 cY ag ae aG gE eA aa hb
          go_wp2_with (
           at_builtin;refine Z4 (by with_reducible rfl) rfl _ _ _ rfl _ _ (by rfl) (by rfl) ar.o ?_)
          refine⟨⟨i+1,ab,by go_num,dm,aw,cH⟩,?_⟩;simp[intOf]<;>omega
        ·have aO:i=m.length:=(by omega);subst aO;rw[Vai (by rw[List.length_zip];omega)] at bN;have pJ:(m.zip vs).length=m.length:=(by rw[List.length_zip,kL.o];omega)
         have HR:Hid (R=(m.zip vs,0)):=h_ (by
          rw[Pi.o,Vaf];rw[Vbp];intro v hv;obtain⟨j,hj,rfl⟩:=List.getElem_of_mem hv;exact ao.o j hj (by rw[<-kL.o];exact hj))
         have mH:=h_ bN;have V0:=h_ pJ;have jX:=h_ (HK.o _ lW.o).2.2.1;clear aa bN pJ ao;go_wp2;go_returns;exact⟨_,by rw[HR.o];rfl,by rw[HR.o];exact⟨_,_,by rw[V0.o];rfl,mH.o⟩,jX.o⟩
     ·have HR:Hid (R=([],12)):=h_ (by rw[<-hR];exact ZjF hE eW h4 hu hL);have Pb:((fr.length:Int) !=1)=true:=(by rw[Va1];omega);generalize bs d=S at*;generalize ms f t k=m at*;clear hv hd hE hR jv ad eW hk h4 cB hu hL;go_enter Tryz.func26,Tryz.ntmps26;go_wp2_with fail;refine(HM.o _).mono ?_;rintro x w1 ⟨Am,mM,rfl,cN,a7⟩;have al:=h_ a7;clear a7 cN HM;go_wp2_with fail;refine(HF.o _).mono ?_;rintro x w2 ⟨A2,aE,rfl,an,a8⟩;obtain⟨z0,z1,af,_⟩:=HK.o _ (al.o.trans (a8.mono al.o.size));have aA:=h_ af;clear a8 af an;go_wp2;go_returns;exact⟨_,by rw[HR.o];rfl,by rw[HR.o];exact ChR.nil _,aA.o⟩
 ·have HM:=h_ (λW=>ZdW hk hE tq W);have HR:Hid (R=([],E)):=h_ (by rw[<-hR];exact ZjD hE tq);have tj:((E:Int) !=0)=true:=(by rw[Va1];omega);generalize bs d=S at*;clear hv hd hE hR tq hk;go_enter Tryz.func26,Tryz.ntmps26;go_wp2_with fail;refine(HM.o _).mono ?_;rintro x w1 ⟨rfl,a7⟩;obtain⟨z0,z1,a8,_⟩:=HK.o _ a7;have ak:=h_ a8;clear a7 a8 HM;go_wp2;go_returns;exact⟨_,by rw[HR.o];rfl,by rw[HR.o];exact ChR.nil _,ak.o⟩
end Go.Proofs.YtchokmkfobandaaGreatDoor
