import Derived.Test.YtchokmkfobandaaGreatDoorJ33
set_option linter.unusedVariables false
set_option linter.unusedSimpArgs false
set_option maxRecDepth 100000
set_option maxHeartbeats 8000000
namespace Go.Proofs.YtchokmkfobandaaGreatDoor
open Go.RowKit Go.Proofs Wv Wv.Vi Wv.Rc Wv.Mo Wv.Ru Wv.Tm Wv.Bc
theorem Zg9 {w:World} {b m n:Nat} {s:ByteArray} {r:List UInt8} (h:RV w b s 0) (hs:s.size<=1000000000) (dC:1<=m) (hm:m<=128) (dK:rnum (toL s) 4096=some (n,r)) (hn:n≠0):
  Calls Tryz.prog 157 #[.agg #[.int .i64 (m:Int)],.pointer (some ⟨b,0,none⟩)] w λx w'=>FinR b w (YG (m:Int) (toL s)) x w':=by
 obtain⟨dY,bo,dc⟩:=Z0N dK;rw[Zc] at dY;rw[Z1] at dc;have ab:=Bk.lt h;obtain⟨t1,S1,e1,t2,S2,e2,t3,S3,e3,t4,S4,e4,q1,q2,q3,q4,z1,z2,z3,bz⟩:=Z85 r;have h0:RV (w.alloc (.cells #[.int .i64 (m:Int)] 127)) b s 0:=Bk.alloc h _;have aB:=Zy w (.cells #[.int .i64 (m:Int)] 127);have bO:=Bk.new w 127 #[.int .i64 (m:Int)];have ny:CtP b w (m:Int) s 0 (w.alloc (.cells #[.int .i64 (m:Int)] 127)):=⟨Fr.of_below aB,bO,h0⟩;have HN:=h_ (Zi h0 (by omega) 4096);rw[dY] at HN;have H1:=h_ (λW2 (h:RV W2 b (bs r) 0)=>ZO h (by rw[Z0];omega) 128);have H2:=h_ (λW2 (h:RV W2 b S1 e1)=>ZO h (by omega) 128);have DF:=h_ (λW2 (h:RV W2 b S2 e2)=>Zt h (by omega));have H3:=h_ (λW2 (h:RV W2 b S2 e2)=>ZO h (by omega) (S2.size:Int));have OJ:=h_ (λW2 (h:RV W2 b S3 e3)=>Zt h (by omega));have H4:=h_ (λW2 (h:RV W2 b S3 e3)=>Zu h (by omega) (S3.size:Int));have HE:=h_ (λW2 (h:RV W2 b S4 e4)=>Za h);rw[q1] at H1;rw[q2] at H2;rw[q3] at H3;rw[q4] at H4;have o8:((n:Int)==0)=false:=(by rw[Vam];omega)
 have dh:Hid ((e4≠0/\YG (m:Int) (toL s)=none)\/(e4=0/\∃f st a s4:List UInt8,YG (m:Int) (toL s)=Z5p (m:Int) n f st (decn a 4096) (dec s4 4096)/\t1=bs f/\t2=bs st/\t3=bs a/\t4=bs s4/\f.length<=128/\st.length<=128/\a.length<=1000000000/\s4.length<=1000000000)):=h_ (by
  rcases bz with ⟨he,dw⟩|⟨he,f,s2,st,s3,a,s4,r1,r2,r3,d1,d2,d3,d4,l1,l2,l3,l4⟩
  ·exact .inl ⟨he,Z33 dK hn dw⟩
  ·exact .inr ⟨he,f,st,a,s4,Z32 dK hn r1 r2 r3,d1,d2,d3,d4,l1,l2,by omega,by omega⟩)
 obtain⟨R,hR⟩:∃R,YG (m:Int) (toL s)=R:=⟨_,rfl⟩;rw[hR] at dh⊢;have BU:=h_ ny;have je:=h_ ab;have HM:=h_ (And.intro dC hm);generalize bs r=SR at*;clear hR h0 aB bO ny q1 q2 q3 q4 bz z1 z2 z3 dY dc dK hs h ab dC hm;go_enter Tryz.func157,Tryz.ntmps157;go_wp2_with fail;refine(HN.o).mono ?_;rintro x w1 ⟨rfl,hv,hf⟩;have wN:=h_ (BU.o.next je.o hv hf);have K1:=h_ (H1.o w1 hv);clear hv hf HN H1 BU;go_wp2_with fail;refine(K1.out).mono ?_;rintro x w2 ⟨rfl,hv,hf⟩;have OK:=h_ (wN.o.next je.o hv hf);have K2:=h_ (H2.o w2 hv);clear hv hf K1 H2 wN;go_wp2_with fail;refine(K2.out).mono ?_;rintro x w3 ⟨rfl,hv,hf⟩;have OL:=h_ (OK.o.next je.o hv hf);have K3:=h_ (DF.o w3 hv);have K4:=h_ (H3.o w3 hv);clear hv hf K2 DF H3 OK;go_wp2_with fail;refine(K3.out).mono ?_;rintro x w4 ⟨rfl,rfl⟩;clear K3;go_wp2_with fail;refine(K4.out).mono ?_;rintro x w4 ⟨rfl,hv,hf⟩;have OM:=h_ (OL.o.next je.o hv hf);have K5:=h_ (OJ.o w4 hv);have K6:=h_ (H4.o w4 hv);clear hv hf K4 OJ H4 OL;go_wp2_with fail;refine(K5.out).mono ?_;rintro x w5 ⟨rfl,rfl⟩;clear K5;go_wp2_with fail;refine(K6.out).mono ?_;rintro x w5 ⟨rfl,hv,hf⟩;have EH:=h_ (OM.o.next je.o hv hf);have K7:=h_ (HE.o w5 hv);clear hv hf K6 HE OM;go_wp2_with fail;refine(K7.out).mono ?_;rintro x w6 ⟨rfl,rfl⟩;clear K7;rcases dh.o with ⟨he,hR⟩|⟨rfl,f,st,a,s4,hR,rfl,rfl,rfl,rfl,lf,WR,la,ls⟩
 ·have az:((e4:Int) !=0)=true:=(by rw[Va0];omega);have HR:=h_ hR;clear dh hR he;go_wp2;go_returns;exact YQ EH.o.1 HR.o
 ·have ON:Hid (CtQ b w (m:Int) w5):=h_ ⟨EH.o.1,EH.o.2.1⟩;have JF:=Xw a 4096;have HG:=h_ (λW2=>ZP (w:=W2) a (by omega) 4096);have HD:=h_ (λW2=>Qv (w:=W2) (bs s4) (by rw[Z0];exact ls) 4096)
  have el:(∀t∈(dec s4 4096).1,t.size<=128)/\(dec s4 4096).1.length<=4096:=by
   rcases Qw s4 4096 with (h|h)|⟨l,h,he,hr,qf,eu⟩
   ·rw[h];exact⟨λt ht=>(by cases ht),Vat _⟩
   ·rw[h];exact⟨λt ht=>(by cases ht),Vat _⟩
   ·rw[h];exact⟨qf,by simpa using eu⟩
  rw[Ze] at HD;generalize decn a 4096=GG at*;generalize dec s4 4096=DD at*;obtain⟨G,eg⟩:=GG;obtain⟨D,ed⟩:=DD;simp only at JF el;unfold LRes at HG;unfold TRes at HD;simp only at HG HD;have HF:=h_ (λW2 (A:Option Addr) (ak:At W2 A (svs [bs f]))=>Z0j ak (λt ht=>by rw[Vax.1 ht,Z0];omega) 1 1 rfl (by omega) (m:Int));have HV:=h_ (λW2 (A:Option Addr) (cap:Nat) (ak:At W2 A (svs D))=>Z0j ak (λt ht=>by have:=el.1 t ht;omega) D.length cap rfl (by omega) (m:Int));have qG:=h_ (λW2 (A:Option Addr) (ak:At W2 A (svs [bs st]))=>Z0j ak (λt ht=>by rw[Vax.1 ht,Z0];omega) 1 1 rfl (by omega) (m:Int));have HR:=h_ hR;have ur:=h_ JF
  have gV:=h_ (show((bs st).toList.isEmpty=true/\st=[])\/((bs st).toList.isEmpty=false/\st≠[]) by
   have:=Xl st;by_cases h:st=[]
   ·exact .inl ⟨by rw[this];exact Vao h,h⟩
   ·exact .inr ⟨by rw[this];exact Vai h,h⟩)
  generalize OO:bs f=SF at*;generalize sK:bs st=SS at*;generalize bs a=SA at*;generalize bs s4=S4' at*;have OP:=h_ OO;have JG:=h_ sK;have sc:=h_ el;clear dh hR EH el JF OO sK;go_wp2_with fail;refine(HG.o w5).mono ?_;rintro x w6 ⟨v,rfl,⟨A1,jq,rfl,cQ⟩,hb⟩;have OQ:=h_ (ON.o.next hb);have fw:=h_ cQ;clear hb cQ HG ON;go_wp2_with fail;refine(HD.o w6).mono ?_;rintro x w7 ⟨v,rfl,⟨A2,aE,rfl,bL⟩,hb⟩;have JH:=h_ (OQ.o.next hb);have fw:=h_ (fw.o.below hb);have K1:=h_ (HV.o w7 A2 aE bL);have hcell:=JH.o.2.cell 0;simp at hcell;clear hb bL HD OQ HV;go_wp2_with fail;refine(K1.out).mono ?_;rintro x w8 hx;obtain⟨AV,kv,EI,rfl,hb,dE⟩:=Z6K hx;have EJ:=h_ (JH.o.next hb);have fw:=h_ (fw.o.below hb);have rC:=h_ dE;have cS:=Zy w8 (.cells #[.string SF] 9);have OR:=h_ (EJ.o.next cS);have fw:=h_ (fw.o.below cS);have K2:=h_ (HF.o (w8.alloc (.cells #[.string SF] 9)) (some ⟨w8.heap.size,0,none⟩) (Bk.new w8 9 (svs [SF]).toArray).at_);have hcell:=EJ.o.2.cell 0;simp at hcell
  have Ct:Hid ((EI=false/\extL (m:Int) D=none)\/(EI=true/\∃r g,extL (m:Int) D=some r/\kv=r.length/\AV=some ⟨g,0,none⟩/\Bk (w8.alloc (.cells #[.string SF] 9)) g 9 (svs r).toArray)):=h_ (by
   rcases rC.o with h|⟨h1,r,g,h2,h3,h4,h5,h6⟩
   ·exact .inl h
   ·exact .inr ⟨h1,r,g,h2,h3,h4,h6.below cS h6.lt⟩)
  have JI:w.heap.size<=w8.heap.size:=EJ.o.1.size;clear hx hb dE K1 JH EJ cS HF rC;go_wp2_with fail;refine(K2.out).mono ?_;rintro x nA hx;obtain⟨AF,kf,IN,rfl,hb,uu⟩:=Z6K hx;have jw:=h_ (OR.o.next hb);have fw:=h_ (fw.o.below hb)
  have rC:Hid ((EI=false/\extL (m:Int) D=none)\/(EI=true/\∃r g,extL (m:Int) D=some r/\kv=r.length/\AV=some ⟨g,0,none⟩/\Bk nA g 9 (svs r).toArray)):=h_ (by
   rcases Ct.o with h|⟨h1,r,g,h2,h3,h4,h6⟩
   ·exact .inl h
   ·exact .inr ⟨h1,r,g,h2,h3,h4,h6.below hb h6.lt⟩)
  have eO:=h_ uu;clear hx hb uu K2 OR Ct hcell;go_upto_region 12 with fail;by_cases dS:eg=0
  case neg=>
   have az:((eg:Int) !=0)=true:=(by rw[Va0];omega);have gY:=h_ (show R=none by rw[HR.o];unfold Z5p;rw[Vaf (.inl dS)]);clear dS HR rC eO qG ur gV sc;go_wp2;go_returns;exact YQ jw.o.1 gY.o
  subst dS;by_cases ko:ed=0
  case neg=>
   have az:((ed:Int) !=0)=true:=(by rw[Va0];omega);have gY:=h_ (show R=none by rw[HR.o];unfold Z5p;rw[Vaf (.inr ko)]);clear ko HR rC eO qG ur gV sc;go_wp2;go_returns;exact YQ jw.o.1 gY.o
  subst ko;rcases rC.o with ⟨rfl,dE⟩|⟨rfl,vs,gv,dE,rfl,rfl,lU⟩
  ·have gY:=h_ (show R=none by rw[HR.o];unfold Z5p;rw[Vad (by simp)];simp only;rw[dE]);clear dE HR rC eO qG ur gV sc;go_wp2;go_returns;exact YQ jw.o.1 gY.o
  have ec:=HR.o;unfold Z5p at ec;rw[Vad (by simp)] at ec;simp only at ec;rw[dE] at ec;simp only at ec;have bq:=Z0A dE
  have he:extL (m:Int) [SF]=if(ext (m:Int) f).2=0 then some [bs (ext (m:Int) f).1] else none:=by
   rw[<-OP.o];show(if(ext (m:Int) (toL (bs f))).2=0 then(extL (m:Int) []).map (bs (ext (m:Int) (toL (bs f))).1::·) else none)=_;rw[Ze];rfl
  have uu:=eO.o;rw[he] at uu;by_cases gz:(ext (m:Int) f).2=0
  case neg=>
   rw[Vad gz] at uu;rcases uu with ⟨rfl,_⟩|⟨_,_,_,h,_⟩
   ·rw[Vaf gz] at ec;have gY:=h_ ec;clear dE HR rC eO qG ur gV sc ec bq he gz lU;go_wp2;go_returns;exact YQ jw.o.1 gY.o
   ·cases h
  rw[Vaf gz] at uu;rw[Vad (λh=>h gz)] at ec;rcases uu with ⟨_,h⟩|⟨rfl,q,gf,hq,rfl,rfl,OT,EK⟩
  ·cases h
  injection hq with hq;subst hq;by_cases fI:G.length=vs.length
  case neg=>
   rw[Vaf fI] at ec;have gY:=h_ ec;have az:((G.length:Int) !=(vs.length:Int))=true:=(by rw[Va0];omega);clear dE HR rC eO qG ur gV sc ec bq he gz lU EK fI;go_wp2;go_returns;exact YQ jw.o.1 gY.o
  rw[Vad (λh=>h fI)] at ec;have kA:=Z6L gz;obtain⟨F,hF⟩:∃F,bs (ext (m:Int) f).1=F:=⟨_,rfl⟩;have wE:F.size<=128:=(by rw[<-hF,Z0];exact kA);rw[hF] at ec EK;have gr:vs.length<=4096:=(by have:=ur.o.2;omega);have eE:∀v∈vs,v.size<=128:=λv hv=>(by rw[<-Z1];exact(Zv.1 (ZM.1 (bq.1 v hv)).1).2.2);have EL:Hid (CtM b w A1 G gv vs gf F nA):=h_ ⟨jw.o.1,fw.o,lU,EK,by rw[World.size_alloc] at OT;omega⟩;have aN:=h_ ec;have oQ:=h_ eE;have BR:=h_ fI;have tJ:((G.length:Int) !=(vs.length:Int))=false:=(by rw[fI];simp);clear dE HR rC eO sc ec bq he gz lU EK fI kA hF eE fw OT JI;go_upto_if 96 with fail;go_cut [8] (λs8 wx=>∃SB:ByteArray,s8=.string SB/\SB.size<=128/\Hid (CtM b w A1 G gv vs gf F wx)/\Hid (R=if(∀g∈G,g<(n:Int)) then(runB (atS (-1) G) vs SB (n-1) 1 F).map (F::·) else none))
  case first=>
   rcases gV.o with ⟨cB,aQ⟩|⟨cB,aQ⟩
   ·rw[cB];have bJ:=aN.o;rw[Vad (λh=>h.1 aQ),Vaf aQ] at bJ;have sK:SS=bs []:=(by rw[<-JG.o,aQ]);rw[<-sK] at bJ;have dd:=h_ bJ;have EM:SS.size<=128:=(by rw[sK];exact Vat _);clear bJ sK aN aQ gV qG jw;go_wp2;go_meet;case rel=>exact⟨SS,rfl,EM,EL,dd⟩
   ·rw[cB];have bJ:=aN.o;have hcell:=jw.o.2.cell 0;simp at hcell;have cS:=Zy nA (.cells #[.string SS] 9);have Cu:=h_ (EL.o.next cS);have K2:=h_ (qG.o (nA.alloc (.cells #[.string SS] 9)) (some ⟨nA.heap.size,0,none⟩) (Bk.new nA 9 (svs [SS]).toArray).at_)
    have he:extL (m:Int) [SS]=if(ext (m:Int) st).2=0 then some [bs (ext (m:Int) st).1] else none:=by
     rw[<-JG.o];show(if(ext (m:Int) (toL (bs st))).2=0 then(extL (m:Int) []).map (bs (ext (m:Int) (toL (bs st))).1::·) else none)=_;rw[Ze];rfl
    have He:=h_ he;have dd:=h_ bJ;have lM:=h_ aQ;clear cS EL aN gV qG jw bJ he aQ;go_wp2_with fail;refine(K2.out).mono ?_;rintro x sN hx;obtain⟨AS,ks,WS,rfl,hb,nT⟩:=Z6K hx;have OU:=h_ (Cu.o.next hb);rw[He.o] at nT;have bJ:=dd.o;have aQ:=lM.o;clear hx hb Cu hcell K2 He dd lM;by_cases kF:(ext (m:Int) st).2=0
    ·rw[Vaf kF] at nT;rcases nT with ⟨_,h⟩|⟨rfl,q,gs,hq,rfl,rfl,_,ji⟩
     ·cases h
     injection hq with hq;subst hq;have zb:=Z6L kF;rw[Vad (λh=>h.2 kF),Vad aQ] at bJ;obtain⟨SB,rS⟩:∃F,bs (ext (m:Int) st).1=F:=⟨_,rfl⟩;have EM:SB.size<=128:=(by rw[<-rS,Z0];exact zb);rw[rS] at bJ ji;have dd:=h_ bJ;have hcs:=ji.cell 0;simp[svs,sv] at hcs;clear bJ ji zb rS kF aQ;go_wp2;go_meet;case rel=>exact⟨SB,rfl,EM,OU,dd⟩
    ·rw[Vad kF] at nT;rcases nT with ⟨rfl,_⟩|⟨_,_,_,h,_⟩
     ·rw[Vaf ⟨aQ,kF⟩] at bJ;have gY:=h_ bJ;clear bJ kF aQ;go_wp2;go_returns;exact YQ OU.o.1 gY.o
     ·cases h
  case rest=>
   obtain⟨SB,rfl,EM,sW,OV⟩:=hcut;clear gV qG jw EL aN JG OP;obtain⟨K,hK⟩:∃K,G.length=K:=⟨_,rfl⟩;have qj:K<=4096:=(by have:=ur.o.2;omega);rw[<-BR.o,hK];have HK:=h_ hK;have uv:=ZkC wc;have kJ:=Zy wc (.map #[] 0);have uw:=h_ uv;have OW:=h_ kJ;have jb:=h_ sW.o.1.size;have OX:=h_ (λi (h:i<K)=>ur.o.1 (G[i]'(by rw[HK.o];exact h)) (Vak _));clear hK uv kJ tJ gr;have jL:= @run_makeMap Tryz.prog;go_wp2;go_loopw [22,112] (λvZ xh wr=>∃(i:Nat) (a:Int),i<=K/\xh=.int .i64 (i:Int)/\vZ=.int .i64 a/\-1<=a/\a<=4096*(i:Int)/\Hid (a=(atS (-1) (G.take i)).getLastD (-1))/\Hid (∀g∈G.take i,0<=g/\g<(n:Int))/\Hid (MI wr wc.heap.size (atS (-1) (G.take i)) (vs.take i))/\Hid (Below wc.heap.size wc wr)) (λ_ xh _=>(K-intOf xh).toNat);case atStart=>exact⟨0,-1,Vat _,rfl,rfl,by omega,by omega,h_ rfl,h_ (λg hg=>by simp at hg),uw,OW⟩
   case round=>
    clear uw OW jL;obtain⟨i,a,hi,rfl,rfl,fj,mM,Cv,rp,hM,hb⟩:=hrel;by_cases ab:i<K
    ·have Cw:i<G.length:=(by rw[HK.o];exact ab);have wO:i<vs.length:=(by rw[<-BR.o];exact Cw);have bm:=ZiQ G i Cw;have ay:G.take (i+1)=G.take i++[G[i]]:=Vac Cw;have fe:vs.take (i+1)=vs.take i++[vs[i]]:=Vac wO;have dS:=OX.o i ab;have eD:=(sW.o.2.2.1.below hb.o sW.o.2.2.1.lt).cell i;have EN:G[i]∈G:=Vak _;have JJ:(svs vs).toArray[i]? =some (.string vs[i]):=(by simp[svs,sv,wO]);rw[JJ] at eD;obtain⟨g,hg⟩:∃g,G[i]=g:=⟨_,rfl⟩;rw[hg] at bm ay dS EN;obtain⟨v,hv⟩:∃v,vs[i]=v:=⟨_,rfl⟩;rw[hv] at fe eD;obtain⟨b1,o1,ll,If,cq⟩:=(sW.o.2.1.below hb.o).get i _ bm;subst ll;have UF:(0:Int)<=(i:Int):=(by omega);have OY:(i:Int)<(K:Int):=(by omega);by_cases AG:g<(n:Int)
     ·have hlen:(atS (-1) (G.take i)).length=(vs.take i).length:=(by rw[Z9z,Vau,Vau];omega);have Cx:=Zd0 (n:=4096) (by omega) (G.take i) (-1) (λx hx=>by have:=rp.o x hx;omega)
      have Cy:∀k:Int,a<k->k∉atS (-1) (G.take i):=λk hk hm=>by
       have:=(Cx.1 k hm).2;rw[<-Cv.o] at this;omega
      have ak:∀k:Int,k=a+1+g->atS (-1) (G.take (i+1))=atS (-1) (G.take i)++[k]:=λk hk=>by
       rw[ay,Z86,<-Cv.o,hk]
      have nU:=h_ (show ∀x∈G.take (i+1),0<=x/\x<(n:Int) from λx hx=>by
       rw[ay] at hx;rcases Va9.1 hx with hx|hx
       ·exact rp.o x hx
       ·rw[Vax.1 hx];exact⟨dS,AG⟩)
      have aA:=h_ (λ(k:Int) (hk:k=a+1+g)=>by
       obtain⟨w',p1,p2,p3,p4⟩:=ZkD hM.o k v hlen (Cy k (by omega));rw[<-ak k hk,<-fe] at p2;exact(⟨w',p1,p2,Z6D hb.o UZz p3⟩:∃w',(Instr.mapUpdate 266 (.map (some wc.heap.size)) (.int .i64 k) (.string v)).run Tryz.prog wr=.ok () w'/\MI w' wc.heap.size (atS (-1) (G.take (i+1))) (vs.take (i+1))/\Below wc.heap.size wc w'))
      have fk:=h_ (λ(k:Int) (hk:k=a+1+g)=>by rw[ak k hk,List.getLastD_concat]:∀k:Int,k=a+1+g->k=(atS (-1) (G.take (i+1))).getLastD (-1));have JK:¬(n:Int)<=g:=(by omega);clear Cw wO bm ay fe EN JJ hg hv hlen Cx Cy ak rp hM Cv;by_cases zv:a<0
      ·obtain⟨w',ag,p2,p3⟩:=aA.o g (by omega);have P2:=h_ p2;have P3:=h_ p3;have PL:=h_ (fk.o g (by omega));clear aA fk p2 p3;go_wp2;refine⟨⟨i+1,g,ab,by go_num,rfl,by omega,by omega,PL,nU,P2,P3⟩,?_⟩;simp[intOf]<;>omega
      ·obtain⟨w',ag,p2,p3⟩:=aA.o (a+(g+1)) (by omega);have P2:=h_ p2;have P3:=h_ p3;have PL:=h_ (fk.o (a+(g+1)) (by omega));clear aA fk p2 p3;go_wp2;refine⟨⟨i+1,a+(g+1),ab,by go_num,rfl,by omega,by omega,PL,nU,P2,P3⟩,?_⟩;simp[intOf]<;>omega
     ·have gY:=h_ (show R=none by rw[OV.o,Vad (λh=>AG (h g EN))]);have JK:(n:Int)<=g:=(by omega);have bR:=h_ (sW.o.1.below hb.o);clear Cw wO bm ay fe EN JJ hg hv rp hM Cv AG eD;go_wp2;go_returns;exact YQ bR.o gY.o
    ·have OY:i=K:=(by omega);have OZ:G.take i=G:=Vah (by rw[HK.o];omega);have P0:vs.take i=vs:=Vah (by rw[<-BR.o,HK.o];omega);have nU:=rp.o;have sF:=hM.o;rw[OZ] at nU sF;rw[P0] at sF;have EO:=OV.o;rw[Vaf (λg hg=>(nU g hg).2)] at EO;obtain⟨X,hX⟩:∃X,atS (-1) G=X:=⟨_,rfl⟩;rw[hX] at sF EO;have P4:=h_ EO;obtain⟨wo,rfl⟩:∃wo:World,wo=wr:=⟨_,rfl⟩;have P5:=h_ (sW.o.1.below hb.o);have ux:=Zd3 (l:=[F]) (sW.o.2.2.2.1.below hb.o sW.o.2.2.2.1.lt) sW.o.2.2.2.2 (by unfold maxLen;simp);have uy:=h_ (show wo.ownsRow w.heap.size 9 1 (.slice (some ⟨gf,0,none⟩) 1 1) 1 (svs [F]) from ux);have Cu:=h_ sF;have IZ:=h_ (Vae w.heap.size wo);have UG:=h_ (Vaq jb.o hb.o.size);have fR:1<=n:=(by omega);have vM:=h_ wE;have aT:=h_ (λ(v:ByteArray) (h:v.size<=128) W2=>ZcB v SB (by omega) (by omega) W2);have WT:¬(i:Int)<(K:Int):=(by omega);clear OY OZ P0 nU sF EO hX ux hM Cv rp OX hb wE;go_wp2;go_loopw [25,26] (λUH uZ wr=>∃(j:Nat) (os:List ByteArray),1<=j/\j<=n/\uZ=.int .i64 (j:Int)/\Hid (os.length=j)/\Hid (∀v∈os,v.size<=128)/\Hid (R=(runB X vs SB (n-j) j (os.getLastD default)).map (os++·))/\Hid (wr.ownsRow w.heap.size 9 1 UH j (svs os))/\Hid (MI wr wc.heap.size X vs)/\Hid (Below w.heap.size wo wr)) (λ_ uZ _=>(n-intOf uZ).toNat);case atStart=>exact⟨1,[F],UZz,fR,rfl,h_ rfl,h_ (λv hv=>by rw[Vax.1 hv];exact vM.o),P4,uy,Cu,IZ⟩
     case round=>
      clear uy Cu IZ P4;obtain⟨j,os,nY,iB,rfl,fS,nT,Cz,aa,hM,hb⟩:=hrel;obtain⟨A5,M5,aY,rfl⟩:=Zd aa.o;have JL:=h_ (Vaq UG.o hb.o.size);by_cases ab:j<n
      ·have tM:(j:Int)<(n:Int):=(by omega);have kM:=Cz.o;rw[show n-j=(n-(j+1))+1 by omega,runB] at kM;cases cY:look X vs (j:Int) with
       |some v=>
        rw[cY] at kM;simp only at kM;have CA:=ZiO hM.o (j:Int) cY;have uq:=oQ.o v (Z43 _ _ cY);have ah:=aa.o;obtain⟨v',w4,ag,ae,aF,_,qH,_⟩:=Zd1 (P:=Tryz.prog) 64 9 _ _ Tryz.underlying64 YC rfl (w:=wr) ah hb.o JL.o (.string v) rfl (by unfold maxLen;omega) (by omega);have aq:=h_ ag;have aw:=h_ (show w4.ownsRow w.heap.size 9 1 v' (j+1) (svs (os++[v])) by rw[Yj];exact ae);have cE:=h_ aF;have UI:=h_ (Zd2 (hM.o.alloc (.cells #[.string v] 9)) qH (ah.alloc _));have nQ:=h_ (show(os++[v]).length=j+1 by rw[Vab,fS.o];rfl)
        have xi:=h_ (show ∀u∈os++[v],u.size<=128 from λu hu=>by
         rcases Va9.1 hu with hu|hu
         ·exact nT.o u hu
         ·rw[Vax.1 hu];exact uq)
        have JM:=h_ (show R=(runB X vs SB (n-(j+1)) (j+1) ((os++[v]).getLastD default)).map ((os++[v])++·) by
         rw[kM,List.getLastD_concat,Option.map_map];congr 1;funext q;simp)
        clear cY kM uq ah ag ae aF qH aa hM Cz nT fS
        go_wp2_with (
         at_builtin;refine Z3 (by with_reducible rfl) rfl _ _ _ rfl _ _ (by rfl) (by rfl) aq.o ?_)
        refine⟨⟨j+1,os++[v],by omega,ab,by go_num,nQ,xi,JM,aw,UI,cE⟩,?_⟩;simp[intOf]<;>omega
       |none=>
        rw[cY] at kM;simp only at kM;have CA:=ZiP hM.o (j:Int) cY;obtain⟨A6,iJ,ub,bW⟩:=Zl aa.o;injection ub with e1 e2 e3;have e1:=e1.symm;have e2:=e2.symm;have e3:=e3.symm;subst e1;subst e2;subst e3;have BY:j-1<os.length:=(by rw[fS.o];omega)
        have jP:os.getLastD default=os[j-1]:=by
         have hl:=fS.o;have az:os≠[]:=λe=>(by rw[e] at hl;simp at hl;omega);rw[List.getLastD_eq_getLast?,List.getLast?_eq_getElem?,hl,Van BY];rfl
        obtain⟨b6,o6,UJ,bY,EP⟩:=Yb bW (j-1) BY;subst UJ;rw[jP] at kM;have JN:=nT.o os[j-1] (Vak _);obtain⟨u,hu⟩:∃u,os[j-1]=u:=⟨_,rfl⟩;rw[hu] at EP kM JN;have UK:IntKind.i64.wrap ((j:Int)-1)=((j-1:Nat):Int):=(by rw[IntWalk.i64_in _ (by omega)];omega);have UM:(j:Int)-1=((j-1:Nat):Int):=(by omega);have UN:((j-1:Nat):Int)<(j:Int):=(by omega);have UO:(0:Int)<=((j-1:Nat):Int):=(by omega);have K1:=h_ (aT.o u JN);obtain⟨⟨r,q⟩,hr⟩:∃r,addV (toL u) (toL SB)=r:=⟨_,rfl⟩;rw[hr] at K1 kM;simp only at K1 kM;have Hr:=h_ hr;have ER:=h_ kM;obtain⟨J,hJ⟩:∃J,j-1=J:=⟨_,rfl⟩;rw[hJ] at EP UK UM UN UO;clear cY hr kM bW jP hu Cz BY hJ JN;go_wp2_with fail;refine(K1.out _).mono ?_;rintro x w3 ⟨rfl,af⟩;have ah:=Zn aa.o (Fr.of_below (S:=nob) af) (λ_ _ f=>f);have gT:=hb.o.trans (af.mono JL.o);have JO:=hM.o.below af hM.o.lt;have JP:=Vaq JL.o af.size;cases q with
        |false=>
         have gY:=h_ (show R=none by rw[ER.o];rfl);have bR:=h_ (QI P5.o gT);clear ah gT JO JP af aa hM hb nT fS ER EP K1;go_wp2;go_returns;exact YQ bR.o gY.o
        |true=>
         have uq:(bs r).size<=128:=by
          rw[Z0];exact(Yp.1 (Z2B Hr.o).1).2.2
         have kM:=ER.o;rw[Vaf rfl] at kM;obtain⟨v,hv⟩:∃v,bs r=v:=⟨_,rfl⟩;rw[hv] at uq kM⊢;obtain⟨v',w4,ag,ae,aF,_,qH,_⟩:=Zd1 (P:=Tryz.prog) 64 9 _ _ Tryz.underlying64 YC rfl (w:=w3) ah gT JP (.string v) rfl (by unfold maxLen;omega) (by omega);have aq:=h_ ag;have aw:=h_ (show w4.ownsRow w.heap.size 9 1 v' (j+1) (svs (os++[v])) by rw[Yj];exact ae);have cE:=h_ aF;have Hj:=h_ (Zd2 (JO.alloc (.cells #[.string v] 9)) qH (ah.alloc _));have nQ:=h_ (show(os++[v]).length=j+1 by rw[Vab,fS.o];rfl)
         have xi:=h_ (show ∀u∈os++[v],u.size<=128 from λu hu=>by
          rcases Va9.1 hu with hu|hu
          ·exact nT.o u hu
          ·rw[Vax.1 hu];exact uq)
         have JM:=h_ (show R=(runB X vs SB (n-(j+1)) (j+1) ((os++[v]).getLastD default)).map ((os++[v])++·) by
          rw[kM,List.getLastD_concat,Option.map_map];congr 1;funext q;simp)
         clear kM uq hv ah ag ae aF qH aa hM nT fS gT JO JP af hb ER Hr EP K1
         go_wp2_with (
          at_builtin;refine Z3 (by with_reducible rfl) rfl _ _ _ rfl _ _ (by rfl) (by rfl) aq.o ?_)
         refine⟨⟨j+1,os++[v],by omega,ab,by go_num,nQ,xi,JM,aw,Hj,cE⟩,?_⟩;simp[intOf]<;>omega
      ·have CC:j=n:=(by omega);have sX:=h_ (show R=some os by rw[Cz.o,CC,Va7];show some (os++[])=_;rw[Va3]);have tM:¬(j:Int)<(n:Int):=(by omega);obtain⟨A6,iJ,ub,bW⟩:=Zl aa.o;have iQ:=h_ bW;injection ub with e1 e2 e3;have e2:=e2.symm;subst e1;subst e2;subst e3;have bR:=h_ (QI P5.o hb.o);have UP:=fS.o;clear Cz aa hM hb nT fS bW CC;go_wp2;go_returns;rw[sX.o];exact⟨bR.o,A5,aY,by rw[UP];rfl,iQ.o⟩
end Go.Proofs.YtchokmkfobandaaGreatDoor
