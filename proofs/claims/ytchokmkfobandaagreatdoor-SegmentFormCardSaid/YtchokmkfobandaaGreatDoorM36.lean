import Derived.Test.YtchokmkfobandaaGreatDoorM33
set_option linter.unusedVariables false
set_option linter.unusedSimpArgs false
set_option maxRecDepth 100000
set_option maxHeartbeats 8000000
namespace Go.Proofs.YtchokmkfobandaaGreatDoor
open Go.RowKit Go.Proofs Wv Wv.Vi Wv.Rc Wv.Mo Wv.Ru Wv.Tm Wv.Bc
theorem Zge {w:World} {b m n:Nat} {s:ByteArray} {r:List UInt8} (h:RV w b s 0) (hs:s.size<=1000000000) (dH:1<=m) (hm:m<=128) (dP:rnum (toL s) 4096=some (n,r)) (hn:n≠0):
  Calls Tryz.prog 157 #[.agg #[.int .i64 (m:Int)],.pointer (some ⟨b,0,none⟩)] w λx w'=>FinR b w (YG (m:Int) (toL s)) x w':=by
 obtain⟨ef,bf,df⟩:=Z0P dP;rw[Za] at ef;rw[Z1] at df;have ab:=Bk.lt h;obtain⟨t1,S1,e1,t2,S2,e2,t3,S3,e3,t4,S4,e4,q1,q2,q3,q4,z1,z2,z3,bE⟩:=Z85 r;have h0:RV (w.alloc (.cells #[.int .i64 (m:Int)] 127)) b s 0:=Bk.alloc h _;have aD:=Zx w (.cells #[.int .i64 (m:Int)] 127);have bP:=Bk.new w 127 #[.int .i64 (m:Int)];have nF:CtP b w (m:Int) s 0 (w.alloc (.cells #[.int .i64 (m:Int)] 127)):=⟨Fr.of_below aD,bP,h0⟩;have HN:=h_ (Zi h0 (by omega) 4096);rw[ef] at HN;have H1:=h_ (λW2 (h:RV W2 b (bs r) 0)=>ZO h (by rw[Z0];omega) 128);have H2:=h_ (λW2 (h:RV W2 b S1 e1)=>ZO h (by omega) 128);have yc:=h_ (λW2 (h:RV W2 b S2 e2)=>Zt h (by omega));have H3:=h_ (λW2 (h:RV W2 b S2 e2)=>ZO h (by omega) (S2.size:Int));have OE:=h_ (λW2 (h:RV W2 b S3 e3)=>Zt h (by omega));have H4:=h_ (λW2 (h:RV W2 b S3 e3)=>Zu h (by omega) (S3.size:Int));have HE:=h_ (λW2 (h:RV W2 b S4 e4)=>Zb h);rw[q1] at H1;rw[q2] at H2;rw[q3] at H3;rw[q4] at H4;have mR:((n:Int)==0)=false:=(by rw[Van];omega)
 have dp:Hid ((e4≠0/\YG (m:Int) (toL s)=none)\/(e4=0/\∃f st a s4:List UInt8,YG (m:Int) (toL s)=Z5v (m:Int) n f st (decn a 4096) (dec s4 4096)/\t1=bs f/\t2=bs st/\t3=bs a/\t4=bs s4/\f.length<=128/\st.length<=128/\a.length<=1000000000/\s4.length<=1000000000)):=h_ (by
  rcases bE with ⟨he,dC⟩|⟨he,f,s2,st,s3,a,s4,r1,r2,r3,d1,d2,d3,d4,l1,l2,l3,l4⟩
  ·exact .inl ⟨he,Z3a dP hn dC⟩
  ·exact .inr ⟨he,f,st,a,s4,Z39 dP hn r1 r2 r3,d1,d2,d3,d4,l1,l2,by omega,by omega⟩)
 obtain⟨R,hR⟩:∃R,YG (m:Int) (toL s)=R:=⟨_,rfl⟩;rw[hR] at dp⊢;have C5:=h_ nF;have iW:=h_ ab;have HM:=h_ (And.intro dH hm);generalize bs r=SR at*;clear hR h0 aD bP nF q1 q2 q3 q4 bE z1 z2 z3 ef df dP hs h ab dH hm;go_enter Tryz.func157,Tryz.ntmps157;go_wp2_with fail;refine(HN.o).mono ?_;rintro x w1 ⟨rfl,hv,hf⟩;have wJ:=h_ (C5.o.next iW.o hv hf);have K1:=h_ (H1.o w1 hv);clear hv hf HN H1 C5;go_wp2_with fail;refine(K1.out).mono ?_;rintro x w2 ⟨rfl,hv,hf⟩;have OF:=h_ (wJ.o.next iW.o hv hf);have K2:=h_ (H2.o w2 hv);clear hv hf K1 H2 wJ;go_wp2_with fail;refine(K2.out).mono ?_;rintro x w3 ⟨rfl,hv,hf⟩;have OG:=h_ (OF.o.next iW.o hv hf);have K3:=h_ (yc.o w3 hv);have K4:=h_ (H3.o w3 hv);clear hv hf K2 yc H3 OF;go_wp2_with fail;refine(K3.out).mono ?_;rintro x w4 ⟨rfl,rfl⟩;clear K3;go_wp2_with fail;refine(K4.out).mono ?_;rintro x w4 ⟨rfl,hv,hf⟩;have OH:=h_ (OG.o.next iW.o hv hf);have K5:=h_ (OE.o w4 hv);have K6:=h_ (H4.o w4 hv);clear hv hf K4 OE H4 OG;go_wp2_with fail;refine(K5.out).mono ?_;rintro x w5 ⟨rfl,rfl⟩;clear K5;go_wp2_with fail;refine(K6.out).mono ?_;rintro x w5 ⟨rfl,hv,hf⟩;have EH:=h_ (OH.o.next iW.o hv hf);have K7:=h_ (HE.o w5 hv);clear hv hf K6 HE OH;go_wp2_with fail;refine(K7.out).mono ?_;rintro x w6 ⟨rfl,rfl⟩;clear K7;rcases dp.o with ⟨he,hR⟩|⟨rfl,f,st,a,s4,hR,rfl,rfl,rfl,rfl,lf,Wq,la,ls⟩
 ·have ay:((e4:Int) !=0)=true:=(by rw[Va1];omega);have HR:=h_ hR;clear dp hR he;go_wp2;go_returns;exact YP EH.o.1 HR.o
 ·have OI:Hid (CtQ b w (m:Int) w5):=h_ ⟨EH.o.1,EH.o.2.1⟩;have JG:=Xv a 4096;have HG:=h_ (λW2=>ZQ (w:=W2) a (by omega) 4096);have HD:=h_ (λW2=>Qx (w:=W2) (bs s4) (by rw[Z0];exact ls) 4096)
  have ey:(∀t∈(dec s4 4096).1,t.size<=128)/\(dec s4 4096).1.length<=4096:=by
   rcases Xw s4 4096 with (h|h)|⟨l,h,he,hr,qj,el⟩
   ·rw[h];exact⟨λt ht=>(by cases ht),Var _⟩
   ·rw[h];exact⟨λt ht=>(by cases ht),Var _⟩
   ·rw[h];exact⟨qj,by simpa using el⟩
  rw[Zd] at HD;generalize decn a 4096=GG at*;generalize dec s4 4096=DD at*;obtain⟨G,eg⟩:=GG;obtain⟨D,ed⟩:=DD;simp only at JG ey;unfold LRes at HG;unfold TRes at HD;simp only at HG HD;have HF:=h_ (λW2 (A:Option Addr) (an:At W2 A (svs [bs f]))=>Z0m an (λt ht=>by rw[Vax.1 ht,Z0];omega) 1 1 rfl (by omega) (m:Int));have HV:=h_ (λW2 (A:Option Addr) (cap:Nat) (an:At W2 A (svs D))=>Z0m an (λt ht=>by have:=ey.1 t ht;omega) D.length cap rfl (by omega) (m:Int));have qL:=h_ (λW2 (A:Option Addr) (an:At W2 A (svs [bs st]))=>Z0m an (λt ht=>by rw[Vax.1 ht,Z0];omega) 1 1 rfl (by omega) (m:Int));have HR:=h_ hR;have uv:=h_ JG
  have gU:=h_ (show((bs st).toList.isEmpty=true/\st=[])\/((bs st).toList.isEmpty=false/\st≠[]) by
   have:=Xk st;by_cases h:st=[]
   ·exact .inl ⟨by rw[this];exact Vam h,h⟩
   ·exact .inr ⟨by rw[this];exact Vah h,h⟩)
  generalize OJ:bs f=SF at*;generalize sM:bs st=SS at*;generalize bs a=SA at*;generalize bs s4=S4' at*;have OK:=h_ OJ;have JH:=h_ sM;have sd:=h_ ey;clear dp hR EH ey JG OJ sM;go_wp2_with fail;refine(HG.o w5).mono ?_;rintro x w6 ⟨v,rfl,⟨A1,jg,rfl,cT⟩,hb⟩;have OL:=h_ (OI.o.next hb);have fy:=h_ cT;clear hb cT HG OI;go_wp2_with fail;refine(HD.o w6).mono ?_;rintro x w7 ⟨v,rfl,⟨A2,aE,rfl,bL⟩,hb⟩;have JI:=h_ (OL.o.next hb);have fy:=h_ (fy.o.below hb);have K1:=h_ (HV.o w7 A2 aE bL);have hcell:=JI.o.2.cell 0;simp at hcell;clear hb bL HD OL HV;go_wp2_with fail;refine(K1.out).mono ?_;rintro x w8 hx;obtain⟨AV,kv,EI,rfl,hb,dJ⟩:=Z6N hx;have EJ:=h_ (JI.o.next hb);have fy:=h_ (fy.o.below hb);have rD:=h_ dJ;have cU:=Zx w8 (.cells #[.string SF] 9);have OM:=h_ (EJ.o.next cU);have fy:=h_ (fy.o.below cU);have K2:=h_ (HF.o (w8.alloc (.cells #[.string SF] 9)) (some ⟨w8.heap.size,0,none⟩) (Bk.new w8 9 (svs [SF]).toArray).at_);have hcell:=EJ.o.2.cell 0;simp at hcell
  have CD:Hid ((EI=false/\extL (m:Int) D=none)\/(EI=true/\∃r g,extL (m:Int) D=some r/\kv=r.length/\AV=some ⟨g,0,none⟩/\Bk (w8.alloc (.cells #[.string SF] 9)) g 9 (svs r).toArray)):=h_ (by
   rcases rD.o with h|⟨h1,r,g,h2,h3,h4,h5,h6⟩
   ·exact .inl h
   ·exact .inr ⟨h1,r,g,h2,h3,h4,h6.below cU h6.lt⟩)
  have JJ:w.heap.size<=w8.heap.size:=EJ.o.1.size;clear hx hb dJ K1 JI EJ cU HF rD;go_wp2_with fail;refine(K2.out).mono ?_;rintro x mW hx;obtain⟨AF,kf,IN,rfl,hb,uw⟩:=Z6N hx;have jq:=h_ (OM.o.next hb);have fy:=h_ (fy.o.below hb)
  have rD:Hid ((EI=false/\extL (m:Int) D=none)\/(EI=true/\∃r g,extL (m:Int) D=some r/\kv=r.length/\AV=some ⟨g,0,none⟩/\Bk mW g 9 (svs r).toArray)):=h_ (by
   rcases CD.o with h|⟨h1,r,g,h2,h3,h4,h6⟩
   ·exact .inl h
   ·exact .inr ⟨h1,r,g,h2,h3,h4,h6.below hb h6.lt⟩)
  have eP:=h_ uw;clear hx hb uw K2 OM CD hcell;go_upto_region 12 with fail;by_cases dW:eg=0
  case neg=>
   have ay:((eg:Int) !=0)=true:=(by rw[Va1];omega);have gY:=h_ (show R=none by rw[HR.o];unfold Z5v;rw[Vaf (.inl dW)]);clear dW HR rD eP qL uv gU sd;go_wp2;go_returns;exact YP jq.o.1 gY.o
  subst dW;by_cases kh:ed=0
  case neg=>
   have ay:((ed:Int) !=0)=true:=(by rw[Va1];omega);have gY:=h_ (show R=none by rw[HR.o];unfold Z5v;rw[Vaf (.inr kh)]);clear kh HR rD eP qL uv gU sd;go_wp2;go_returns;exact YP jq.o.1 gY.o
  subst kh;rcases rD.o with ⟨rfl,dJ⟩|⟨rfl,vs,gv,dJ,rfl,rfl,lU⟩
  ·have gY:=h_ (show R=none by rw[HR.o];unfold Z5v;rw[Vad (by simp)];simp only;rw[dJ]);clear dJ HR rD eP qL uv gU sd;go_wp2;go_returns;exact YP jq.o.1 gY.o
  have ej:=HR.o;unfold Z5v at ej;rw[Vad (by simp)] at ej;simp only at ej;rw[dJ] at ej;simp only at ej;have aV:=Z0C dJ
  have he:extL (m:Int) [SF]=if(ext (m:Int) f).2=0 then some [bs (ext (m:Int) f).1] else none:=by
   rw[<-OK.o];show(if(ext (m:Int) (toL (bs f))).2=0 then(extL (m:Int) []).map (bs (ext (m:Int) (toL (bs f))).1::·) else none)=_;rw[Zd];rfl
  have uw:=eP.o;rw[he] at uw;by_cases jc:(ext (m:Int) f).2=0
  case neg=>
   rw[Vad jc] at uw;rcases uw with ⟨rfl,_⟩|⟨_,_,_,h,_⟩
   ·rw[Vaf jc] at ej;have gY:=h_ ej;clear dJ HR rD eP qL uv gU sd ej aV he jc lU;go_wp2;go_returns;exact YP jq.o.1 gY.o
   ·cases h
  rw[Vaf jc] at uw;rw[Vad (λh=>h jc)] at ej;rcases uw with ⟨_,h⟩|⟨rfl,q,gf,hq,rfl,rfl,ON,EK⟩
  ·cases h
  injection hq with hq;subst hq;by_cases fJ:G.length=vs.length
  case neg=>
   rw[Vaf fJ] at ej;have gY:=h_ ej;have ay:((G.length:Int) !=(vs.length:Int))=true:=(by rw[Va1];omega);clear dJ HR rD eP qL uv gU sd ej aV he jc lU EK fJ;go_wp2;go_returns;exact YP jq.o.1 gY.o
  rw[Vad (λh=>h fJ)] at ej;have ko:=Z6O jc;obtain⟨F,hF⟩:∃F,bs (ext (m:Int) f).1=F:=⟨_,rfl⟩;have wC:F.size<=128:=(by rw[<-hF,Z0];exact ko);rw[hF] at ej EK;have gr:vs.length<=4096:=(by have:=uv.o.2;omega);have di:∀v∈vs,v.size<=128:=λv hv=>(by rw[<-Z1];exact(Zv.1 (ZL.1 (aV.1 v hv)).1).2.2);have EL:Hid (CtM b w A1 G gv vs gf F mW):=h_ ⟨jq.o.1,fy.o,lU,EK,by rw[World.size_alloc] at ON;omega⟩;have aQ:=h_ ej;have oW:=h_ di;have C4:=h_ fJ;have tJ:((G.length:Int) !=(vs.length:Int))=false:=(by rw[fJ];simp);clear dJ HR rD eP sd ej aV he jc lU EK fJ ko hF di fy ON JJ;go_upto_if 96 with fail;go_cut [8] (λs8 wx=>∃SB:ByteArray,s8=.string SB/\SB.size<=128/\Hid (CtM b w A1 G gv vs gf F wx)/\Hid (R=if(∀g∈G,g<(n:Int)) then(runB (atS (-1) G) vs SB (n-1) 1 F).map (F::·) else none))
  case first=>
   rcases gU.o with ⟨cB,aT⟩|⟨cB,aT⟩
   ·rw[cB];have bK:=aQ.o;rw[Vad (λh=>h.1 aT),Vaf aT] at bK;have sM:SS=bs []:=(by rw[<-JH.o,aT]);rw[<-sM] at bK;have dh:=h_ bK;have EM:SS.size<=128:=(by rw[sM];exact Var _);clear bK sM aQ aT gU qL jq;go_wp2;go_meet;case rel=>exact⟨SS,rfl,EM,EL,dh⟩
   ·rw[cB];have bK:=aQ.o;have hcell:=jq.o.2.cell 0;simp at hcell;have cU:=Zx mW (.cells #[.string SS] 9);have CE:=h_ (EL.o.next cU);have K2:=h_ (qL.o (mW.alloc (.cells #[.string SS] 9)) (some ⟨mW.heap.size,0,none⟩) (Bk.new mW 9 (svs [SS]).toArray).at_)
    have he:extL (m:Int) [SS]=if(ext (m:Int) st).2=0 then some [bs (ext (m:Int) st).1] else none:=by
     rw[<-JH.o];show(if(ext (m:Int) (toL (bs st))).2=0 then(extL (m:Int) []).map (bs (ext (m:Int) (toL (bs st))).1::·) else none)=_;rw[Zd];rfl
    have He:=h_ he;have dh:=h_ bK;have lN:=h_ aT;clear cU EL aQ gU qL jq bK he aT;go_wp2_with fail;refine(K2.out).mono ?_;rintro x ui hx;obtain⟨AS,ks,Wr,rfl,hb,nY⟩:=Z6N hx;have OO:=h_ (CE.o.next hb);rw[He.o] at nY;have bK:=dh.o;have aT:=lN.o;clear hx hb CE hcell K2 He dh lN;by_cases kA:(ext (m:Int) st).2=0
    ·rw[Vaf kA] at nY;rcases nY with ⟨_,h⟩|⟨rfl,q,gs,hq,rfl,rfl,_,j0⟩
     ·cases h
     injection hq with hq;subst hq;have zk:=Z6O kA;rw[Vad (λh=>h.2 kA),Vad aT] at bK;obtain⟨SB,rT⟩:∃F,bs (ext (m:Int) st).1=F:=⟨_,rfl⟩;have EM:SB.size<=128:=(by rw[<-rT,Z0];exact zk);rw[rT] at bK j0;have dh:=h_ bK;have hcs:=j0.cell 0;simp[svs,sv] at hcs;clear bK j0 zk rT kA aT;go_wp2;go_meet;case rel=>exact⟨SB,rfl,EM,OO,dh⟩
    ·rw[Vad kA] at nY;rcases nY with ⟨rfl,_⟩|⟨_,_,_,h,_⟩
     ·rw[Vaf ⟨aT,kA⟩] at bK;have gY:=h_ bK;clear bK kA aT;go_wp2;go_returns;exact YP OO.o.1 gY.o
     ·cases h
  case rest=>
   obtain⟨SB,rfl,EM,sY,OP⟩:=hcut;clear gU qL jq EL aQ JH OK;obtain⟨K,hK⟩:∃K,G.length=K:=⟨_,rfl⟩;have qo:K<=4096:=(by have:=uv.o.2;omega);rw[<-C4.o,hK];have HK:=h_ hK;have ux:=ZkG wc;have kG:=Zx wc (.map #[] 0);have uy:=h_ ux;have OQ:=h_ kG;have jX:=h_ sY.o.1.size;have OR:=h_ (λi (h:i<K)=>uv.o.1 (G[i]'(by rw[HK.o];exact h)) (Vaj _));clear hK ux kG tJ gr;have jF:= @run_makeMap Tryz.prog;go_wp2;go_loopw [22,112] (λvX xh wr=>∃(i:Nat) (a:Int),i<=K/\xh=.int .i64 (i:Int)/\vX=.int .i64 a/\-1<=a/\a<=4096*(i:Int)/\Hid (a=(atS (-1) (G.take i)).getLastD (-1))/\Hid (∀g∈G.take i,0<=g/\g<(n:Int))/\Hid (MI wr wc.heap.size (atS (-1) (G.take i)) (vs.take i))/\Hid (Below wc.heap.size wc wr)) (λ_ xh _=>(K-intOf xh).toNat);case atStart=>exact⟨0,-1,Var _,rfl,rfl,by omega,by omega,h_ rfl,h_ (λg hg=>by simp at hg),uy,OQ⟩
   case round=>
    clear uy OQ jF;obtain⟨i,a,hi,rfl,rfl,fk,mP,CF,rr,hM,hb⟩:=hrel;by_cases ab:i<K
    ·have CG:i<G.length:=(by rw[HK.o];exact ab);have wK:i<vs.length:=(by rw[<-C4.o];exact CG);have bu:=ZiV G i CG;have ax:G.take (i+1)=G.take i++[G[i]]:=Vac CG;have ff:vs.take (i+1)=vs.take i++[vs[i]]:=Vac wK;have dW:=OR.o i ab;have eH:=(sY.o.2.2.1.below hb.o sY.o.2.2.1.lt).cell i;have EN:G[i]∈G:=Vaj _;have JK:(svs vs).toArray[i]? =some (.string vs[i]):=(by simp[svs,sv,wK]);rw[JK] at eH;obtain⟨g,hg⟩:∃g,G[i]=g:=⟨_,rfl⟩;rw[hg] at bu ax dW EN;obtain⟨v,hv⟩:∃v,vs[i]=v:=⟨_,rfl⟩;rw[hv] at ff eH;obtain⟨b1,o1,ll,If,cq⟩:=(sY.o.2.1.below hb.o).get i _ bu;subst ll;have Uu:(0:Int)<=(i:Int):=(by omega);have OT:(i:Int)<(K:Int):=(by omega);by_cases AO:g<(n:Int)
     ·have hlen:(atS (-1) (G.take i)).length=(vs.take i).length:=(by rw[Z9z,Vau,Vau];omega);have CH:=Zd0 (n:=4096) (by omega) (G.take i) (-1) (λx hx=>by have:=rr.o x hx;omega)
      have CI:∀k:Int,a<k->k∉atS (-1) (G.take i):=λk hk hm=>by
       have:=(CH.1 k hm).2;rw[<-CF.o] at this;omega
      have an:∀k:Int,k=a+1+g->atS (-1) (G.take (i+1))=atS (-1) (G.take i)++[k]:=λk hk=>by
       rw[ax,Z86,<-CF.o,hk]
      have nZ:=h_ (show ∀x∈G.take (i+1),0<=x/\x<(n:Int) from λx hx=>by
       rw[ax] at hx;rcases Vba.1 hx with hx|hx
       ·exact rr.o x hx
       ·rw[Vax.1 hx];exact⟨dW,AO⟩)
      have az:=h_ (λ(k:Int) (hk:k=a+1+g)=>by
       obtain⟨w',p1,p2,p3,p4⟩:=ZkH hM.o k v hlen (CI k (by omega));rw[<-an k hk,<-ff] at p2;exact(⟨w',p1,p2,Z6G hb.o UZz p3⟩:∃w',(Instr.mapUpdate 266 (.map (some wc.heap.size)) (.int .i64 k) (.string v)).run Tryz.prog wr=.ok () w'/\MI w' wc.heap.size (atS (-1) (G.take (i+1))) (vs.take (i+1))/\Below wc.heap.size wc w'))
      have fo:=h_ (λ(k:Int) (hk:k=a+1+g)=>by rw[an k hk,List.getLastD_concat]:∀k:Int,k=a+1+g->k=(atS (-1) (G.take (i+1))).getLastD (-1));have JL:¬(n:Int)<=g:=(by omega);clear CG wK bu ax ff EN JK hg hv hlen CH CI an rr hM CF;by_cases zC:a<0
      ·obtain⟨w',ag,p2,p3⟩:=az.o g (by omega);have P2:=h_ p2;have P3:=h_ p3;have PL:=h_ (fo.o g (by omega));clear az fo p2 p3;go_wp2;refine⟨⟨i+1,g,ab,by go_num,rfl,by omega,by omega,PL,nZ,P2,P3⟩,?_⟩;simp[intOf]<;>omega
      ·obtain⟨w',ag,p2,p3⟩:=az.o (a+(g+1)) (by omega);have P2:=h_ p2;have P3:=h_ p3;have PL:=h_ (fo.o (a+(g+1)) (by omega));clear az fo p2 p3;go_wp2;refine⟨⟨i+1,a+(g+1),ab,by go_num,rfl,by omega,by omega,PL,nZ,P2,P3⟩,?_⟩;simp[intOf]<;>omega
     ·have gY:=h_ (show R=none by rw[OP.o,Vad (λh=>AO (h g EN))]);have JL:(n:Int)<=g:=(by omega);have bU:=h_ (sY.o.1.below hb.o);clear CG wK bu ax ff EN JK hg hv rr hM CF AO eH;go_wp2;go_returns;exact YP bU.o gY.o
    ·have OT:i=K:=(by omega);have OU:G.take i=G:=Vai (by rw[HK.o];omega);have OV:vs.take i=vs:=Vai (by rw[<-C4.o,HK.o];omega);have nZ:=rr.o;have sH:=hM.o;rw[OU] at nZ sH;rw[OV] at sH;have EO:=OP.o;rw[Vaf (λg hg=>(nZ g hg).2)] at EO;obtain⟨X,hX⟩:∃X,atS (-1) G=X:=⟨_,rfl⟩;rw[hX] at sH EO;have OW:=h_ EO;obtain⟨wo,rfl⟩:∃wo:World,wo=wr:=⟨_,rfl⟩;have OX:=h_ (sY.o.1.below hb.o);have uz:=Zd3 (l:=[F]) (sY.o.2.2.2.1.below hb.o sY.o.2.2.2.1.lt) sY.o.2.2.2.2 (by unfold maxLen;simp);have uA:=h_ (show wo.ownsRow w.heap.size 9 1 (.slice (some ⟨gf,0,none⟩) 1 1) 1 (svs [F]) from uz);have CE:=h_ sH;have IZ:=h_ (Vae w.heap.size wo);have Uv:=h_ (Vas jX.o hb.o.size);have fI:1<=n:=(by omega);have vJ:=h_ wC;have aS:=h_ (λ(v:ByteArray) (h:v.size<=128) W2=>ZcB v SB (by omega) (by omega) W2);have Ws:¬(i:Int)<(K:Int):=(by omega);clear OT OU OV nZ sH EO hX uz hM CF rr OR hb wC;go_wp2;go_loopw [25,26] (λUw uZ wr=>∃(j:Nat) (os:List ByteArray),1<=j/\j<=n/\uZ=.int .i64 (j:Int)/\Hid (os.length=j)/\Hid (∀v∈os,v.size<=128)/\Hid (R=(runB X vs SB (n-j) j (os.getLastD default)).map (os++·))/\Hid (wr.ownsRow w.heap.size 9 1 Uw j (svs os))/\Hid (MI wr wc.heap.size X vs)/\Hid (Below w.heap.size wo wr)) (λ_ uZ _=>(n-intOf uZ).toNat);case atStart=>exact⟨1,[F],UZz,fI,rfl,h_ rfl,h_ (λv hv=>by rw[Vax.1 hv];exact vJ.o),OW,uA,CE,IZ⟩
     case round=>
      clear uA CE IZ OW;obtain⟨j,os,oa,iB,rfl,fQ,nY,CJ,aa,hM,hb⟩:=hrel;obtain⟨A5,M5,bo,rfl⟩:=Zg aa.o;have JM:=h_ (Vas Uv.o hb.o.size);by_cases ab:j<n
      ·have tM:(j:Int)<(n:Int):=(by omega);have kK:=CJ.o;rw[show n-j=(n-(j+1))+1 by omega,runB] at kK;cases da:look X vs (j:Int) with
       |some v=>
        rw[da] at kK;simp only at kK;have CK:=ZiT hM.o (j:Int) da;have uu:=oW.o v (Z4a _ _ da);have ah:=aa.o;obtain⟨v',w4,ag,ae,aG,_,qN,_⟩:=Zd1 (P:=Tryz.prog) 64 9 _ _ Tryz.underlying64 YC rfl (w:=wr) ah hb.o JM.o (.string v) rfl (by unfold maxLen;omega) (by omega);have ar:=h_ ag;have aw:=h_ (show w4.ownsRow w.heap.size 9 1 v' (j+1) (svs (os++[v])) by rw[Yl];exact ae);have cH:=h_ aG;have Ux:=h_ (Zd2 (hM.o.alloc (.cells #[.string v] 9)) qN (ah.alloc _));have nW:=h_ (show(os++[v]).length=j+1 by rw[Vab,fQ.o];rfl)
        have xi:=h_ (show ∀u∈os++[v],u.size<=128 from λu hu=>by
         rcases Vba.1 hu with hu|hu
         ·exact nY.o u hu
         ·rw[Vax.1 hu];exact uu)
        have JN:=h_ (show R=(runB X vs SB (n-(j+1)) (j+1) ((os++[v]).getLastD default)).map ((os++[v])++·) by
         rw[kK,List.getLastD_concat,Option.map_map];congr 1;funext q;simp)
        clear da kK uu ah ag ae aG qN aa hM CJ nY fQ
        go_wp2_with (
         at_builtin;refine Z4 (by with_reducible rfl) rfl _ _ _ rfl _ _ (by rfl) (by rfl) ar.o ?_)
        refine⟨⟨j+1,os++[v],by omega,ab,by go_num,nW,xi,JN,aw,Ux,cH⟩,?_⟩;simp[intOf]<;>omega
       |none=>
        rw[da] at kK;simp only at kK;have CK:=ZiU hM.o (j:Int) da;obtain⟨A6,gm,ud,bN⟩:=Zm aa.o;injection ud with e1 e2 e3;have e1:=e1.symm;have e2:=e2.symm;have e3:=e3.symm;subst e1;subst e2;subst e3;have C9:j-1<os.length:=(by rw[fQ.o];omega)
        have jJ:os.getLastD default=os[j-1]:=by
         have hl:=fQ.o;have ay:os≠[]:=λe=>(by rw[e] at hl;simp at hl;omega);rw[List.getLastD_eq_getLast?,List.getLast?_eq_getElem?,hl,Vao C9];rfl
        obtain⟨b6,o6,Uy,bQ,EP⟩:=Yf bN (j-1) C9;subst Uy;rw[jJ] at kK;have JO:=nY.o os[j-1] (Vaj _);obtain⟨u,hu⟩:∃u,os[j-1]=u:=⟨_,rfl⟩;rw[hu] at EP kK JO;have Uz:IntKind.i64.wrap ((j:Int)-1)=((j-1:Nat):Int):=(by rw[IntWalk.i64_in _ (by omega)];omega);have UA:(j:Int)-1=((j-1:Nat):Int):=(by omega);have UB:((j-1:Nat):Int)<(j:Int):=(by omega);have UC:(0:Int)<=((j-1:Nat):Int):=(by omega);have K1:=h_ (aS.o u JO);obtain⟨⟨r,q⟩,hr⟩:∃r,addV (toL u) (toL SB)=r:=⟨_,rfl⟩;rw[hr] at K1 kK;simp only at K1 kK;have Hr:=h_ hr;have ER:=h_ kK;obtain⟨J,hJ⟩:∃J,j-1=J:=⟨_,rfl⟩;rw[hJ] at EP Uz UA UB UC;clear da hr kK bN jJ hu CJ C9 hJ JO;go_wp2_with fail;refine(K1.out _).mono ?_;rintro x w3 ⟨rfl,af⟩;have ah:=Zl aa.o (Fr.of_below (S:=nob) af) (λ_ _ f=>f);have gS:=hb.o.trans (af.mono JM.o);have JP:=hM.o.below af hM.o.lt;have JQ:=Vas JM.o af.size;cases q with
        |false=>
         have gY:=h_ (show R=none by rw[ER.o];rfl);have bU:=h_ (QK OX.o gS);clear ah gS JP JQ af aa hM hb nY fQ ER EP K1;go_wp2;go_returns;exact YP bU.o gY.o
        |true=>
         have uu:(bs r).size<=128:=by
          rw[Z0];exact(Yq.1 (Z2J Hr.o).1).2.2
         have kK:=ER.o;rw[Vaf rfl] at kK;obtain⟨v,hv⟩:∃v,bs r=v:=⟨_,rfl⟩;rw[hv] at uu kK⊢;obtain⟨v',w4,ag,ae,aG,_,qN,_⟩:=Zd1 (P:=Tryz.prog) 64 9 _ _ Tryz.underlying64 YC rfl (w:=w3) ah gS JQ (.string v) rfl (by unfold maxLen;omega) (by omega);have ar:=h_ ag;have aw:=h_ (show w4.ownsRow w.heap.size 9 1 v' (j+1) (svs (os++[v])) by rw[Yl];exact ae);have cH:=h_ aG;have Hj:=h_ (Zd2 (JP.alloc (.cells #[.string v] 9)) qN (ah.alloc _));have nW:=h_ (show(os++[v]).length=j+1 by rw[Vab,fQ.o];rfl)
         have xi:=h_ (show ∀u∈os++[v],u.size<=128 from λu hu=>by
          rcases Vba.1 hu with hu|hu
          ·exact nY.o u hu
          ·rw[Vax.1 hu];exact uu)
         have JN:=h_ (show R=(runB X vs SB (n-(j+1)) (j+1) ((os++[v]).getLastD default)).map ((os++[v])++·) by
          rw[kK,List.getLastD_concat,Option.map_map];congr 1;funext q;simp)
         clear kK uu hv ah ag ae aG qN aa hM nY fQ gS JP JQ af hb ER Hr EP K1
         go_wp2_with (
          at_builtin;refine Z4 (by with_reducible rfl) rfl _ _ _ rfl _ _ (by rfl) (by rfl) ar.o ?_)
         refine⟨⟨j+1,os++[v],by omega,ab,by go_num,nW,xi,JN,aw,Hj,cH⟩,?_⟩;simp[intOf]<;>omega
      ·have CL:j=n:=(by omega);have sZ:=h_ (show R=some os by rw[CJ.o,CL,Va7];show some (os++[])=_;rw[Va3]);have tM:¬(j:Int)<(n:Int):=(by omega);obtain⟨A6,gm,ud,bN⟩:=Zm aa.o;have mH:=h_ bN;injection ud with e1 e2 e3;have e2:=e2.symm;subst e1;subst e2;subst e3;have bU:=h_ (QK OX.o hb.o);have UD:=fQ.o;clear CJ aa hM hb nY fQ bN CL;go_wp2;go_returns;rw[sZ.o];exact⟨bU.o,A5,bo,by rw[UD];rfl,mH.o⟩
end Go.Proofs.YtchokmkfobandaaGreatDoor
