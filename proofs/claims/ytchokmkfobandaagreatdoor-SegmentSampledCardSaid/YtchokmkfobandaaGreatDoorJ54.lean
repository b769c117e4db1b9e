import Derived.Test.YtchokmkfobandaaGreatDoorJ52
import Derived.Test.YtchokmkfobandaaGreatDoorJ45
set_option linter.unusedVariables false
set_option linter.unusedSimpArgs false
set_option maxRecDepth 100000
set_option maxHeartbeats 8000000
namespace Wv.Sg
open Wv.Vi Wv.Ru Wv.Bc Wv.Fm Wv.Lz Wv.Sn Wv.Tm Wv.Dc
open Go.Proofs.YtchokmkfobandaaGreatDoor
theorem Z8q {M:Nat} (t:Int):∀(l:List Chg) (b:ByteArray),b.size<=M->(∀c∈l,c.2.size<=M)->(atV b l t).size<=M
 |[],_,hb,_=>hb
 |c::l,b,hb,hl=>by
  show(atV (if c.1<=t then c.2 else b) l t).size<=M;refine Z8q t l _ ?_ (λx hx=>hl x (Var _ hx));split
  ·exact hl c Vap
  ·exact hb
theorem Zgz {M:Nat} {f t k:Int} {b:ByteArray} {l:List Chg} (hb:b.size<=M) (hl:∀c∈l,c.2.size<=M):∀x∈smp f t k b l,x.2.size<=M:=by
 intro x hx;unfold smp at hx;obtain⟨y,_,rfl⟩:=Va6.1 hx;exact Z8q y l b hb hl
theorem ZjB (f t k:Int) (b:ByteArray) (l:List Chg):(smp f t k b l).map (·.1)=ms f t k:=by
 unfold smp;rw[Vb8];exact List.map_id _
theorem ZjC {s:Int×Int} {f t k:Int} {b:ByteArray} {l:List Chg} :ssV s f t k (smp f t k b l)=(smp f t k b l).all (λc=>vaB Z9 s (toL c.2)):=by
 unfold ssV;rw[ZjB,Vao (show ms f t k=ms f t k from rfl),Bool.true_and]
theorem ZdY {s:Int×Int} {f t k:Int} (h:tyB s=false\/nM f t k<0):Y2 s f t k=1:=by unfold Y2;rw[Vaf h]
end Wv.Sg
namespace Go.Proofs.YtchokmkfobandaaGreatDoor
open Go.RowKit Go.Proofs Wv Wv.Vi Wv.Ru Wv.Bc Wv.Sn Wv.Sg Wv.Dc
theorem Z5I (a c:Int) (Vf:I64 a/\I64 c) (f:Int) (hf:I64 f) (t:Int) (ht:I64 t) (k:Int) (hk:I64 k) (b:ByteArray) (hb:b.size<=9223372036854775807) {w:World} {A:Option Addr} {l:List (Int×ByteArray)} (ha:At w A (cv l)) (hl:∀c∈l,I64 c.1/\c.2.size<=9223372036854775807) (n cap:Nat) (hn:n=l.length) (bo:n<=9223372036854775807) (py:Tab w):
  Calls Tryz.prog 8 #[.agg #[.int .i64 a,.int .i64 c],.int .i64 f,.int .i64 t,.int .i64 k,.string b,.slice A n cap] w λx w'=>x=.returned (.bool true)/\Below w.heap.size w w':=by
 have HK:=h_ (λW h=>Yy (w:=w) (W:=W) (a:=a) (c:=c) h);have yI:=h_ (λW=>Z9N W);have tp:=h_ (λW (h:Below w.heap.size w W)=>Zjw a c (py.below h));have HF:=h_ (λW (h:Below w.heap.size w W)=>Zgf (ha.below h) n cap hn bo 40);clear Vf hl hb py;cases hfw:fewB l 40 with
 |false=>
  rw[hfw] at HF;clear ha hn bo hfw hf ht hk tp;go_enter Tryz.func8,Tryz.ntmps8;go_wp2_with fail;refine(yI.o _).mono ?_;rintro x w1 ⟨rfl,a7⟩;have ao:=h_ a7;have lL:=h_ (HK.o _ a7).2.2.1;clear a7;go_wp2_with fail;refine(HF.o _ lL.o).mono ?_;rintro x w2 ⟨rfl,rfl⟩;go_wp2;go_returns;exact⟨rfl,lL.o⟩
 |true=>
  rw[hfw] at HF;obtain⟨qR,kj⟩:=Zgs hfw;by_cases Vg:(150:Int)<(b.size:Int)
  ·clear ha hn bo hfw hf ht hk qR kj tp;go_enter Tryz.func8,Tryz.ntmps8;go_wp2_with fail;refine(yI.o _).mono ?_;rintro x w1 ⟨rfl,a7⟩;have ao:=h_ a7;have lL:=h_ (HK.o _ a7).2.2.1;clear a7;go_wp2_with fail;refine(HF.o _ lL.o).mono ?_;rintro x w2 ⟨rfl,rfl⟩;go_wp2;go_returns;exact⟨rfl,lL.o⟩
  ·have HR:=h_ (λW (h:Below w.heap.size w W)=>Zjt (b:=b) (ha.below h) n cap hn bo f t k hf ht hk);have HN:=h_ (λW=>Z5A f t k hf ht hk W);have HT:=h_ (λW=>Z5r a c W);have xJ:∀x∈smp f t k b l,x.2.size<=1099511627776:=Zgz (by omega) (λx hx=>by have:=kj x hx;omega);have F7:=Zgt f t k b l;have Df:=Z48 f t k b l;have Dg:=ZjC (s:=(a,c)) (f:=f) (t:=t) (k:=k) (b:=b) (l:=l);generalize smp f t k b l=X at*;obtain⟨⟨d,e⟩,hE⟩:∃y,ssE (a,c) f t k X=y:=⟨_,rfl⟩;have HE:=h_ (λW A cap (h:Below w.heap.size w W) (ha:At W A (cv X))=>Zgy ha a c f t k hk (tp.o W h) xJ X.length cap rfl (by omega) hE);by_cases au:tyB (a,c)=false\/nM f t k<0
   ·have h1:=Z73 (l:=X) (ZdY au) (by decide);rw[h1] at hE;injection hE with e1 e2;subst e1;subst e2;rw[show bs ([]:List UInt8)=⟨#[]⟩ from rfl] at HE;cases hty:tyB (a,c) with
    |false=>
     rw[hty] at HT;clear ha hn bo hfw hf ht hk qR kj tp xJ F7 Df Dg au h1 hty;generalize nM f t k=N at*;go_enter Tryz.func8,Tryz.ntmps8;go_wp2_with fail;refine(yI.o _).mono ?_;rintro x w1 ⟨rfl,a7⟩;have ao:=h_ a7;have lL:=h_ (HK.o _ a7).2.2.1;clear a7;go_wp2_with fail;refine(HF.o _ lL.o).mono ?_;rintro x w2 ⟨rfl,rfl⟩;go_wp2_with fail;refine(HR.o _ lL.o).mono ?_;rintro x w3 ⟨A3,fB,rfl,bd,af⟩;have aJ:=h_ (ao.o.trans (af.mono ao.o.size));have iP:=h_ bd;obtain⟨z0,z1,qS,tV⟩:=HK.o _ aJ.o;have ka:=h_ (HE.o _ A3 fB qS bd);clear af bd qS HE HR;go_wp2_with fail;refine(ka.o).mono ?_;rintro x w4 ⟨rfl,ax⟩;have bh:=h_ (aJ.o.trans (ax.mono aJ.o.size));have kD:=h_ (iP.o.below ax);clear ax ka z0 z1 tV;go_wp2_with fail;refine(HN.o _).mono ?_;rintro x yb ⟨rfl,rfl⟩;obtain⟨z0,z1,px,eu⟩:=HK.o _ bh.o;clear px;go_wp2_with fail;refine(HT.o _).mono ?_;rintro x w5 ⟨rfl,aH⟩;have bE:=h_ (bh.o.trans (aH.mono bh.o.size));have ep:=h_ (kD.o.below aH);clear aH z0 z1 eu;obtain⟨z0,z1,na,uc⟩:=HK.o _ bE.o;have tj:=h_ na;clear na;go_wp2;go_returns;exact⟨rfl,tj.o⟩
    |true=>
     rw[hty] at HT
     have hN:nM f t k<0:=by
      rcases au with h|h
      ·rw[hty] at h;cases h
      ·exact h
     generalize nM f t k=N at*;clear ha hn bo hfw hf ht hk qR kj tp xJ F7 Df Dg au h1 hty;go_enter Tryz.func8,Tryz.ntmps8;go_wp2_with fail;refine(yI.o _).mono ?_;rintro x w1 ⟨rfl,a7⟩;have ao:=h_ a7;have lL:=h_ (HK.o _ a7).2.2.1;clear a7;go_wp2_with fail;refine(HF.o _ lL.o).mono ?_;rintro x w2 ⟨rfl,rfl⟩;go_wp2_with fail;refine(HR.o _ lL.o).mono ?_;rintro x w3 ⟨A3,fB,rfl,bd,af⟩;have aJ:=h_ (ao.o.trans (af.mono ao.o.size));have iP:=h_ bd;obtain⟨z0,z1,qS,tV⟩:=HK.o _ aJ.o;have ka:=h_ (HE.o _ A3 fB qS bd);clear af bd qS HE HR;go_wp2_with fail;refine(ka.o).mono ?_;rintro x w4 ⟨rfl,ax⟩;have bh:=h_ (aJ.o.trans (ax.mono aJ.o.size));have kD:=h_ (iP.o.below ax);clear ax ka z0 z1 tV;go_wp2_with fail;refine(HN.o _).mono ?_;rintro x yb ⟨rfl,rfl⟩;obtain⟨z0,z1,px,eu⟩:=HK.o _ bh.o;clear px;go_wp2_with fail;refine(HT.o _).mono ?_;rintro x w5 ⟨rfl,aH⟩;have bE:=h_ (bh.o.trans (aH.mono bh.o.size));have ep:=h_ (kD.o.below aH);clear aH z0 z1 eu;obtain⟨z0,z1,na,uc⟩:=HK.o _ bE.o;have tj:=h_ na;clear na;go_wp2;go_returns;exact⟨rfl,tj.o⟩
   ·have hty:tyB (a,c)=true:=(by cases h:tyB (a,c)<;>simp_all);have hN:0<=nM f t k:=(by omega);rw[hty] at HT;by_cases h3:a=3
    ·have h1:=Z73 (l:=X) (Z8o hty hN h3) (by decide);rw[h1] at hE;injection hE with e1 e2;subst e1;subst e2;subst h3;rw[show bs ([]:List UInt8)=⟨#[]⟩ from rfl] at HE;have Ps:¬nM f t k<0:=(by omega);generalize nM f t k=N at*;clear ha hn bo hfw hf ht hk qR kj tp xJ F7 Df Dg au h1 hty;go_enter Tryz.func8,Tryz.ntmps8;go_wp2_with fail;refine(yI.o _).mono ?_;rintro x w1 ⟨rfl,a7⟩;have ao:=h_ a7;have lL:=h_ (HK.o _ a7).2.2.1;clear a7;go_wp2_with fail;refine(HF.o _ lL.o).mono ?_;rintro x w2 ⟨rfl,rfl⟩;go_wp2_with fail;refine(HR.o _ lL.o).mono ?_;rintro x w3 ⟨A3,fB,rfl,bd,af⟩;have aJ:=h_ (ao.o.trans (af.mono ao.o.size));have iP:=h_ bd;obtain⟨z0,z1,qS,tV⟩:=HK.o _ aJ.o;have ka:=h_ (HE.o _ A3 fB qS bd);clear af bd qS HE HR;go_wp2_with fail;refine(ka.o).mono ?_;rintro x w4 ⟨rfl,ax⟩;have bh:=h_ (aJ.o.trans (ax.mono aJ.o.size));have kD:=h_ (iP.o.below ax);clear ax ka z0 z1 tV;go_wp2_with fail;refine(HN.o _).mono ?_;rintro x yb ⟨rfl,rfl⟩;obtain⟨z0,z1,px,eu⟩:=HK.o _ bh.o;clear px;go_wp2_with fail;refine(HT.o _).mono ?_;rintro x w5 ⟨rfl,aH⟩;have bE:=h_ (bh.o.trans (aH.mono bh.o.size));have ep:=h_ (kD.o.below aH);clear aH z0 z1 eu;obtain⟨z0,z1,na,uc⟩:=HK.o _ bE.o;have tj:=h_ na;clear na;go_wp2;go_returns;exact⟨rfl,tj.o⟩
    ·have F8:=Z8p hty hN h3
     have HD:=h_ (λ(h:e=0) W (hb:Below w.heap.size w W)=>Zgx a c f t k hk (tp.o W hb) d (by
      subst h;have h2:=ZdT F8 (ZkL hE).2;rw[hE] at h2;split at h2
      ·injection h2 with h2 _;rw[h2];decide
      ·have:=(Z6Y h2.symm).2;omega) (by subst h;exact(ZkL hE).1))
     have KG:=ZdS (l:=X) F8;have KH:=ZdT (l:=X) F8;rw[hE] at KG KH;have qP:=h_ (λW (hb:Below w.heap.size w W)=>tp.o W hb);have Vh:=h_ (λW A cap (ha:At W A (cv X))=>ZdQ ha X.length cap rfl (by omega) a c xJ);have HQ:=h_ (λ(W:World) A cap B aE (h:At W A (cv X)) (h2:At W B (cv X))=>Z5F h h2 X.length cap X.length aE rfl rfl (by omega) (by omega));rw[Vao (show X=X from rfl)] at HQ;have Ps:¬nM f t k<0:=(by omega);have yG:(a==3)=false:=(by rw[Vam];exact h3);obtain⟨N,Pt⟩:∃N,nM f t k=N:=⟨_,rfl⟩;rw[Pt] at Df Ps hN HN;have Vj:=h_ xJ;have Vk:=h_ KG;have Vl:=h_ KH;have Pu:=h_ Dg;have gB:=h_ hty;have H3:=h_ h3;have Dh:(X.length:Int)=N:=(by omega);have Pv:=h_ Dh;clear ha hn bo hfw hf ht hk qR kj tp xJ Df Dg au hty hE KG KH F8 Pt h3 Dh;go_enter Tryz.func8,Tryz.ntmps8;go_wp2_with fail;refine(yI.o _).mono ?_;rintro x w1 ⟨rfl,a7⟩;have ao:=h_ a7;have lL:=h_ (HK.o _ a7).2.2.1;clear a7;go_wp2_with fail;refine(HF.o _ lL.o).mono ?_;rintro x w2 ⟨rfl,rfl⟩;go_wp2_with fail;refine(HR.o _ lL.o).mono ?_;rintro x w3 ⟨A3,fB,rfl,bd,af⟩;have aJ:=h_ (ao.o.trans (af.mono ao.o.size));have iP:=h_ bd;obtain⟨z0,z1,qS,tV⟩:=HK.o _ aJ.o;have ka:=h_ (HE.o _ A3 fB qS bd);clear af bd qS HE HR;go_wp2_with fail;refine(ka.o).mono ?_;rintro x w4 ⟨rfl,ax⟩;have bh:=h_ (aJ.o.trans (ax.mono aJ.o.size));have kD:=h_ (iP.o.below ax);clear ax ka z0 z1 tV;go_wp2_with fail;refine(HN.o _).mono ?_;rintro x yb ⟨rfl,rfl⟩;obtain⟨z0,z1,px,eu⟩:=HK.o _ bh.o;clear px;go_wp2_with fail;refine(HT.o _).mono ?_;rintro x w5 ⟨rfl,aH⟩;have bE:=h_ (bh.o.trans (aH.mono bh.o.size));have ep:=h_ (kD.o.below aH);clear aH z0 z1 eu;obtain⟨z0,z1,na,uc⟩:=HK.o _ bE.o;have tj:=h_ na;clear na;go_wp2;go_loopw [81] (λKJ wr=>∃i:Nat,i<=X.length/\KJ=.int .i64 (i:Int)/\Hid (∀j (h:j<X.length),j<i->vaB Z9 (a,c) (toL X[j].2)=true)/\Hid (Below w5.heap.size w5 wr)) (λKJ _=>(X.length-intOf KJ).toNat);case atStart=>exact⟨0,Vat _,rfl,h_ (λj h h2=>absurd h2 (Vc2 _)),h_ (Vae _ _)⟩
     case round=>
      clear z0 z1 uc;obtain⟨i,hi,rfl,ar,hb⟩:=hrel;have jd:=h_ (bE.o.trans (hb.o.mono bE.o.size));obtain⟨z0,z1,cR,D7⟩:=HK.o _ jd.o;by_cases ab:i<X.length
      ·obtain⟨bA,oA,rfl,tf,c0,c1⟩:=Ye (ep.o.below hb.o) i ab
       have au:=λ(h:vaB Z9 (a,c) (toL X[i].2)=false)=>(show d=[]/\e=1 by
        have h2:ssV (a,c) f t k X=false:=by
         rw[Pu.o,List.all_eq_false];exact⟨X[i],Vak ab,by rw[h];decide⟩
        have h3:=Vk.o h2;injection h3 with h3 h4;exact⟨h3,h4⟩)
       have al:=λ(h:vaB Z9 (a,c) (toL X[i].2)=true) j (hj:j<X.length) (h3:j<i+1)=>(show vaB Z9 (a,c) (toL X[j].2)=true by
        by_cases e:j=i
        ·subst e;exact h
        ·exact ar.o j hj (by omega))
       have ad:=Vj.o _ (Vak ab);obtain⟨⟨T,V⟩,hs⟩:∃y,X[i]=y:=⟨_,rfl⟩;rw[hs] at c0 c1 au al ad;simp only at c0 c1 au al ad;have oD:=h_ (hb.o.alloc hb.o.size (.cells #[.int .i64 T,.string V] 33));have rF:=h_ (jd.o.alloc jd.o.size (.cells #[.int .i64 T,.string V] 33));have rG:=h_ (qP.o _ (HK.o _ rF.o).2.2.1 V ad _ (Vae _ _));obtain⟨B,hB⟩:∃B,vaB Z9 (a,c) (toL V)=B:=⟨_,rfl⟩;rw[hB] at au al rG;have iZ:(0:Int)<=(i:Int):=(by omega);have pY:(i:Int)<(X.length:Int):=(by omega);clear hs hB hb ar ad cR;cases B with
       |false=>
        obtain⟨iX,dU⟩:=au rfl;subst iX;subst dU;rw[show bs ([]:List UInt8)=⟨#[]⟩ from rfl];clear au al;go_wp2_with fail;refine(rG.o).mono ?_;rintro x w6 ⟨rfl,bY⟩;have aP:=(HK.o _ (rF.o.trans (bY.mono rF.o.size))).2.2.1;clear bY;go_wp2;go_returns;exact⟨rfl,aP⟩
       |true=>
        have eK:=h_ (al rfl);clear au al;go_wp2_with fail;refine(rG.o).mono ?_;rintro x w6 ⟨rfl,bY⟩;have dA:=h_ (oD.o.trans (bY.mono oD.o.size));clear bY;go_wp2;refine⟨⟨i+1,ab,by go_num,eK,dA⟩,?_⟩;simp[intOf]<;>omega
      ·have aU:i=X.length:=(by omega);subst aU
       have uG:ssV (a,c) f t k X=true:=by
        rw[Pu.o,Vbv];intro x hx;obtain⟨j,hj,rfl⟩:=List.getElem_of_mem hx;exact ar.o j hj hj
       have hg:=Vl.o uG
       have dQ:∀v∈X.map (·.2),vaB Z9 (a,c) (toL v)=true:=λv hm=>by
        obtain⟨x,hx,rfl⟩:=Va6.1 hm;obtain⟨j,hj,rfl⟩:=List.getElem_of_mem hx;exact ar.o j hj hj
       have iQ:=h_ (ep.o.below hb.o);have jb:=h_ cR;have F9:(X.map (·.2)).length<=4096:=(by rw[Vag];exact F7);by_cases yJ:X=[]
       ·rw[Vaf yJ] at hg;injection hg with iX dU;subst iX;subst dU;have Pw:=HD.o rfl;have fZ:N=0:=(by rw[<-Pv.o,yJ];rfl);have vI:=h_ (Pw _ cR);subst fZ;rw[show bs ([]:List UInt8)=⟨#[]⟩ from rfl] at vI⊢;have lQ:=(show((⟨#[]⟩:ByteArray).toList !=(⟨#[]⟩:ByteArray).toList)=false from Vb5 _);clear uG dQ ar hb cR Pw yJ F9;go_wp2_with fail;refine(vI.o).mono ?_;rintro x w7 ⟨A7,xK,rfl,lq,eM⟩;have D9:=h_ (HQ.o w7 A7 xK _ fB lq (iQ.o.below eM));have ou:=h_ (jb.o.trans (eM.mono jb.o.size));clear eM lq;go_wp2_with fail;refine(D9.o).mono ?_;rintro x w8 ⟨rfl,lN⟩;have sL:=h_ (ou.o.trans (lN.mono ou.o.size));clear lN;go_wp2;go_returns;exact⟨rfl,sL.o⟩
       ·rw[Vad yJ] at hg
        have hNp:0<N:=by
         have:X.length≠0:=λh=>yJ (Vaj h);have:=Pv.o;omega
        have gr:=Z4c gB.o dQ F9;have lJ:=(Z5D gB.o H3.o dQ F9).1;have mD:=h_ (Vh.o wr A3 fB iQ.o);rw[lJ] at mD;obtain⟨D,hD⟩:∃D,(vlsE (a,c) (X.map (·.2))).1=D:=⟨_,rfl⟩;obtain⟨K,hK⟩:∃K,fkd (a,c)=K:=⟨_,rfl⟩;have lK:K<16:=(by rw[<-hK];exact Z8f _);rw[hD,hK] at mD hg;rw[hD] at gr;rw[Vao (show(0:Nat)=0 from rfl)] at mD;have HS:=h_ (λ(W:World) A2 (h:At W A2 (frs [(K,D)])) aE=>Z72 h (λp hp=>by rw[Vax.1 hp];exact lK) (λp hp=>by rw[Vax.1 hp];exact gr) 1 aE rfl (by decide));rw[<-hg] at HS;simp only at HS;have iT:frs [(K,D)]=[.int .i64 (K:Int),.string (bs D)]:=rfl;have mH:=h_ iT;have lQ:((bs d).toList !=(bs d).toList)=false:=Vb5 _;have hse:((e:Int) !=(e:Int))=false:=Vb5 _;generalize bs D=S2 at*;generalize bs d=S at*;generalize (K:Int)=KI at*;clear hg uG dQ ar hb yJ F9 gr lJ hD hK lK iT;go_wp2_with fail;refine(mD.o).mono ?_;rintro x w6 ⟨rfl,bY⟩;have KK:=cR.trans (bY.mono cR.size);have Di:=h_ (iQ.o.below bY);have KL:=KK.alloc KK.size (.cells #[.int .i64 KI,.string S2] 36);have Px:=KL.alloc KL.size (.cells #[.int .i64 KI,.string S2] 36)
        have xC:=h_ (HS.o ((w6.alloc (.cells #[.int .i64 KI,.string S2] 36)).alloc (.cells #[.int .i64 KI,.string S2] 36)) (some ⟨w6.heap.size+1,0,none⟩) (by
         rw[mH.o];have:=(Bk.new (w6.alloc (.cells #[.int .i64 KI,.string S2] 36)) 36 #[.int .i64 KI,.string S2]).at_;rw[Z0Z] at this;exact this) 1)
        have sL:=h_ Px;have Py:=h_ ((jd.o.trans (bY.mono jd.o.size)).alloc (Vaq jd.o.size bY.size) (.cells #[.int .i64 KI,.string S2] 36)|>.alloc (by simp;have:=jd.o.size;have:=bY.size;simp at*;omega) (.cells #[.int .i64 KI,.string S2] 36));have sw:=h_ (Di.o.below (((Vae w6.heap.size w6).alloc UZz (.cells #[.int .i64 KI,.string S2] 36)).alloc (by simp) (.cells #[.int .i64 KI,.string S2] 36)));clear bY KK KL Px cR;go_wp2_with fail;refine(xC.o).mono ?_;rintro x w9 ⟨rfl,bZ⟩;have mE:=h_ (Py.o.trans (bZ.mono Py.o.size));obtain⟨z0,z1,fy,Pz⟩:=HK.o _ mE.o;have jt:=h_ (sw.o.below bZ);clear bZ;by_cases nI:e=0
        ·subst nI;have vI:=h_ (HD.o rfl _ fy);have nS:=h_ fy;clear fy;go_wp2_with fail;refine(vI.o).mono ?_;rintro x E4 ⟨A7,xK,rfl,lq,gk⟩;have D9:=h_ (HQ.o E4 A7 xK _ fB lq (jt.o.below gk));have ku:=h_ (nS.o.trans (gk.mono nS.o.size));clear gk lq;go_wp2_with fail;refine(D9.o).mono ?_;rintro x sN ⟨rfl,iz⟩;have KM:=h_ (ku.o.trans (iz.mono ku.o.size));clear iz;go_wp2;go_returns;exact⟨rfl,KM.o⟩
        ·have uh:((e:Int) !=0)=true:=(by rw[Va0];omega);clear nI;go_wp2;go_returns;exact⟨rfl,fy⟩
end Go.Proofs.YtchokmkfobandaaGreatDoor
