import Derived.Test.YtchokmkfobandaaGreatDoorJ37
set_option linter.unusedVariables false
set_option linter.unusedSimpArgs false
set_option maxRecDepth 100000
set_option maxHeartbeats 8000000
namespace Go.Proofs.YtchokmkfobandaaGreatDoor
open Go.RowKit Go.Proofs Wv Wv.Vi Wv.Rc Wv.Mo Wv.Ru Wv.Tm Wv.Bc
theorem ZjT {w:World} {b m n:Nat} {s:ByteArray} {r:List UInt8} (h:RV w b s 0) (hs:s.size<=1000000000) (dh:1<=m) (hm:m<=128) (dH:rnum (toL s) 4096=some (n,r)) (hn:n≠0):
  Calls Tryz.prog 157 #[.agg #[.int .i64 (m:Int)],.pointer (some ⟨b,0,none⟩)] w λx w'=>FinR b w (Z1B (m:Int) (toL s)) x w':=by
 obtain⟨dS,bu,cT⟩:=Z4N dH;rw[Z09] at dS;rw[Z01] at cT;have ab:=Bk.lt h;obtain⟨t1,S1,e1,t2,S2,e2,t3,S3,e3,t4,S4,e4,q1,q2,q3,q4,z1,z2,z3,bx⟩:=Zc2 r;have h0:RV (w.alloc (.cells #[.int .i64 (m:Int)] 127)) b s 0:=Bk.alloc h _;have aA:=Z0y w (.cells #[.int .i64 (m:Int)] 127);have bN:=Bk.new w 127 #[.int .i64 (m:Int)];have n6:CtP b w (m:Int) s 0 (w.alloc (.cells #[.int .i64 (m:Int)] 127)):=⟨Fr.of_below aA,bN,h0⟩;have HN:=h_ (Z0h h0 (by omega) 4096);rw[dS] at HN;have H1:=h_ (λW2 (h:RV W2 b (bs r) 0)=>Z0P h (by rw[Z00];omega) 128);have H2:=h_ (λW2 (h:RV W2 b S1 e1)=>Z0P h (by omega) 128);have CR:=h_ (λW2 (h:RV W2 b S2 e2)=>Z0r h (by omega));have H3:=h_ (λW2 (h:RV W2 b S2 e2)=>Z0P h (by omega) (S2.size:Int));have Ou:=h_ (λW2 (h:RV W2 b S3 e3)=>Z0r h (by omega));have H4:=h_ (λW2 (h:RV W2 b S3 e3)=>Z0s h (by omega) (S3.size:Int));have HE:=h_ (λW2 (h:RV W2 b S4 e4)=>Z0a h);rw[q1] at H1;rw[q2] at H2;rw[q3] at H3;rw[q4] at H4;have mo:((n:Int)==0)=false:=(by rw[beq_eq_false_iff_ne];omega)
 have da:Hid ((e4≠0/\Z1B (m:Int) (toL s)=none)\/(e4=0/\∃f st a s4:List UInt8,Z1B (m:Int) (toL s)=Z9q (m:Int) n f st (decn a 4096) (dec s4 4096)/\t1=bs f/\t2=bs st/\t3=bs a/\t4=bs s4/\f.length<=128/\st.length<=128/\a.length<=1000000000/\s4.length<=1000000000)):=h_ (by
  rcases bx with ⟨he,dt⟩|⟨he,f,s2,st,s3,a,s4,r1,r2,r3,d1,d2,d3,d4,l1,l2,l3,l4⟩
  ·exact .inl ⟨he,Z6X dH hn dt⟩
  ·exact .inr ⟨he,f,st,a,s4,Z6W dH hn r1 r2 r3,d1,d2,d3,d4,l1,l2,by omega,by omega⟩)
 obtain⟨R,hR⟩:∃R,Z1B (m:Int) (toL s)=R:=⟨_,rfl⟩;rw[hR] at da⊢;have AI:=h_ n6;have iO:=h_ ab;have HM:=h_ (And.intro dh hm);generalize bs r=SR at*;clear hR h0 aA bN n6 q1 q2 q3 q4 bx z1 z2 z3 dS cT dH hs h ab dh hm;go_enter Tryz.func157,Tryz.ntmps157;go_wp2_with fail;refine(HN.o).mono ?_;rintro x w1 ⟨rfl,hv,hf⟩;have vJ:=h_ (AI.o.next iO.o hv hf);have K1:=h_ (H1.o w1 hv);clear hv hf HN H1 AI;go_wp2_with fail;refine(K1.out).mono ?_;rintro x w2 ⟨rfl,hv,hf⟩;have Ov:=h_ (vJ.o.next iO.o hv hf);have K2:=h_ (H2.o w2 hv);clear hv hf K1 H2 vJ;go_wp2_with fail;refine(K2.out).mono ?_;rintro x w3 ⟨rfl,hv,hf⟩;have Ow:=h_ (Ov.o.next iO.o hv hf);have K3:=h_ (CR.o w3 hv);have K4:=h_ (H3.o w3 hv);clear hv hf K2 CR H3 Ov;go_wp2_with fail;refine(K3.out).mono ?_;rintro x w4 ⟨rfl,rfl⟩;clear K3;go_wp2_with fail;refine(K4.out).mono ?_;rintro x w4 ⟨rfl,hv,hf⟩;have Ox:=h_ (Ow.o.next iO.o hv hf);have K5:=h_ (Ou.o w4 hv);have K6:=h_ (H4.o w4 hv);clear hv hf K4 Ou H4 Ow;go_wp2_with fail;refine(K5.out).mono ?_;rintro x w5 ⟨rfl,rfl⟩;clear K5;go_wp2_with fail;refine(K6.out).mono ?_;rintro x w5 ⟨rfl,hv,hf⟩;have E1:=h_ (Ox.o.next iO.o hv hf);have K7:=h_ (HE.o w5 hv);clear hv hf K6 HE Ox;go_wp2_with fail;refine(K7.out).mono ?_;rintro x w6 ⟨rfl,rfl⟩;clear K7;rcases da.o with ⟨he,hR⟩|⟨rfl,f,st,a,s4,hR,rfl,rfl,rfl,rfl,lf,V7,la,ls⟩
 ·have ay:((e4:Int) !=0)=true:=(by rw[bne_iff_ne];omega);have HR:=h_ hR;clear da hR he;go_wp2;go_returns;exact Z1L E1.o.1 HR.o
 ·have Oy:Hid (CtQ b w (m:Int) w5):=h_ ⟨E1.o.1,E1.o.2.1⟩;have Ji:=Z2w a 4096;have HG:=h_ (λW2=>Z0Q (w:=W2) a (by omega) 4096);have HD:=h_ (λW2=>Z3u (w:=W2) (bs s4) (by rw[Z00];exact ls) 4096)
  have dZ:(∀t∈(dec s4 4096).1,t.size<=128)/\(dec s4 4096).1.length<=4096:=by
   rcases Z2x s4 4096 with (h|h)|⟨l,h,he,hr,pN,fV⟩
   ·rw[h];exact⟨λt ht=>(by cases ht),Nat.zero_le _⟩
   ·rw[h];exact⟨λt ht=>(by cases ht),Nat.zero_le _⟩
   ·rw[h];exact⟨pN,by simpa using fV⟩
  rw[Z0d] at HD;generalize decn a 4096=GG at*;generalize dec s4 4096=DD at*;obtain⟨G,eg⟩:=GG;obtain⟨D,ed⟩:=DD;simp only at Ji dZ;unfold LRes at HG;unfold TRes at HD;simp only at HG HD;have HF:=h_ (λW2 (A:Option Addr) (ak:At W2 A (svs [bs f]))=>Z4j ak (λt ht=>by rw[List.mem_singleton.1 ht,Z00];omega) 1 1 rfl (by omega) (m:Int));have HV:=h_ (λW2 (A:Option Addr) (cap:Nat) (ak:At W2 A (svs D))=>Z4j ak (λt ht=>by have:=dZ.1 t ht;omega) D.length cap rfl (by omega) (m:Int));have qq:=h_ (λW2 (A:Option Addr) (ak:At W2 A (svs [bs st]))=>Z4j ak (λt ht=>by rw[List.mem_singleton.1 ht,Z00];omega) 1 1 rfl (by omega) (m:Int));have HR:=h_ hR;have tN:=h_ Ji
  have gJ:=h_ (show((bs st).toList.isEmpty=true/\st=[])\/((bs st).toList.isEmpty=false/\st≠[]) by
   have:=Z2i st;by_cases h:st=[]
   ·exact .inl ⟨by rw[this];exact decide_eq_true h,h⟩
   ·exact .inr ⟨by rw[this];exact decide_eq_false h,h⟩)
  generalize Oz:bs f=SF at*;generalize sl:bs st=SS at*;generalize bs a=SA at*;generalize bs s4=S4' at*;have OA:=h_ Oz;have Jj:=h_ sl;have rD:=h_ dZ;clear da hR E1 dZ Ji Oz sl;go_wp2_with fail;refine(HG.o w5).mono ?_;rintro x w6 ⟨v,rfl,⟨A1,iY,rfl,cI⟩,hb⟩;have OB:=h_ (Oy.o.next hb);have ff:=h_ cI;clear hb cI HG Oy;go_wp2_with fail;refine(HD.o w6).mono ?_;rintro x w7 ⟨v,rfl,⟨A2,aK,rfl,bL⟩,hb⟩;have Jk:=h_ (OB.o.next hb);have ff:=h_ (ff.o.below hb);have K1:=h_ (HV.o w7 A2 aK bL);have hcell:=Jk.o.2.cell 0;simp at hcell;clear hb bL HD OB HV;go_wp2_with fail;refine(K1.out).mono ?_;rintro x w8 hx;obtain⟨AV,kv,E2,rfl,hb,dB⟩:=ZaG hx;have E3:=h_ (Jk.o.next hb);have ff:=h_ (ff.o.below hb);have qX:=h_ dB;have cL:=Z0y w8 (.cells #[.string SF] 9);have OC:=h_ (E3.o.next cL);have ff:=h_ (ff.o.below cL);have K2:=h_ (HF.o (w8.alloc (.cells #[.string SF] 9)) (some ⟨w8.heap.size,0,none⟩) (Bk.new w8 9 (svs [SF]).toArray).at_);have hcell:=E3.o.2.cell 0;simp at hcell
  have BV:Hid ((E2=false/\extL (m:Int) D=none)\/(E2=true/\∃r g,extL (m:Int) D=some r/\kv=r.length/\AV=some ⟨g,0,none⟩/\Bk (w8.alloc (.cells #[.string SF] 9)) g 9 (svs r).toArray)):=h_ (by
   rcases qX.o with h|⟨h1,r,g,h2,h3,h4,h5,h6⟩
   ·exact .inl h
   ·exact .inr ⟨h1,r,g,h2,h3,h4,h6.below cL h6.lt⟩)
  have Jl:w.heap.size<=w8.heap.size:=E3.o.1.size;clear hx hb dB K1 Jk E3 cL HF qX;go_wp2_with fail;refine(K2.out).mono ?_;rintro x na hx;obtain⟨AF,kf,Ip,rfl,hb,tO⟩:=ZaG hx;have je:=h_ (OC.o.next hb);have ff:=h_ (ff.o.below hb)
  have qX:Hid ((E2=false/\extL (m:Int) D=none)\/(E2=true/\∃r g,extL (m:Int) D=some r/\kv=r.length/\AV=some ⟨g,0,none⟩/\Bk na g 9 (svs r).toArray)):=h_ (by
   rcases BV.o with h|⟨h1,r,g,h2,h3,h4,h6⟩
   ·exact .inl h
   ·exact .inr ⟨h1,r,g,h2,h3,h4,h6.below hb h6.lt⟩)
  have eF:=h_ tO;clear hx hb tO K2 OC BV hcell;go_upto_region 12 with fail;by_cases dO:eg=0
  case neg=>
   have ay:((eg:Int) !=0)=true:=(by rw[bne_iff_ne];omega);have gN:=h_ (show R=none by rw[HR.o];unfold Z9q;rw[if_pos (.inl dO)]);clear dO HR qX eF qq tN gJ rD;go_wp2;go_returns;exact Z1L je.o.1 gN.o
  subst dO;by_cases ns:ed=0
  case neg=>
   have ay:((ed:Int) !=0)=true:=(by rw[bne_iff_ne];omega);have gN:=h_ (show R=none by rw[HR.o];unfold Z9q;rw[if_pos (.inr ns)]);clear ns HR qX eF qq tN gJ rD;go_wp2;go_returns;exact Z1L je.o.1 gN.o
  subst ns;rcases qX.o with ⟨rfl,dB⟩|⟨rfl,vs,gv,dB,rfl,rfl,ly⟩
  ·have gN:=h_ (show R=none by rw[HR.o];unfold Z9q;rw[if_neg (by simp)];simp only;rw[dB]);clear dB HR qX eF qq tN gJ rD;go_wp2;go_returns;exact Z1L je.o.1 gN.o
  have dU:=HR.o;unfold Z9q at dU;rw[if_neg (by simp)] at dU;simp only at dU;rw[dB] at dU;simp only at dU;have bm:=Z4A dB
  have he:extL (m:Int) [SF]=if(ext (m:Int) f).2=0 then some [bs (ext (m:Int) f).1] else none:=by
   rw[<-OA.o];show(if(ext (m:Int) (toL (bs f))).2=0 then(extL (m:Int) []).map (bs (ext (m:Int) (toL (bs f))).1::·) else none)=_;rw[Z0d];rfl
  have tO:=eF.o;rw[he] at tO;by_cases gg:(ext (m:Int) f).2=0
  case neg=>
   rw[if_neg gg] at tO;rcases tO with ⟨rfl,_⟩|⟨_,_,_,h,_⟩
   ·rw[if_pos gg] at dU;have gN:=h_ dU;clear dB HR qX eF qq tN gJ rD dU bm he gg ly;go_wp2;go_returns;exact Z1L je.o.1 gN.o
   ·cases h
  rw[if_pos gg] at tO;rw[if_neg (λh=>h gg)] at dU;rcases tO with ⟨_,h⟩|⟨rfl,q,gf,hq,rfl,rfl,OD,E4⟩
  ·cases h
  injection hq with hq;subst hq;by_cases fu:G.length=vs.length
  case neg=>
   rw[if_pos fu] at dU;have gN:=h_ dU;have ay:((G.length:Int) !=(vs.length:Int))=true:=(by rw[bne_iff_ne];omega);clear dB HR qX eF qq tN gJ rD dU bm he gg ly E4 fu;go_wp2;go_returns;exact Z1L je.o.1 gN.o
  rw[if_neg (λh=>h fu)] at dU;have jQ:=ZaH gg;obtain⟨F,hF⟩:∃F,bs (ext (m:Int) f).1=F:=⟨_,rfl⟩;have vr:F.size<=128:=(by rw[<-hF,Z00];exact jQ);rw[hF] at dU E4;have qs:vs.length<=4096:=(by have:=tN.o.2;omega);have gb:∀v∈vs,v.size<=128:=λv hv=>(by rw[<-Z01];exact(Z0t.1 (Z0L.1 (bm.1 v hv)).1).2.2);have E5:Hid (CtM b w A1 G gv vs gf F na):=h_ ⟨je.o.1,ff.o,ly,E4,by rw[World.size_alloc] at OD;omega⟩;have aV:=h_ dU;have rf:=h_ gb;have AH:=h_ fu;have sS:((G.length:Int) !=(vs.length:Int))=false:=(by rw[fu];simp);clear dB HR qX eF rD dU bm he gg ly E4 fu jQ hF gb ff OD Jl;go_upto_if 96 with fail;go_cut [8] (λs8 wx=>∃SB:ByteArray,s8=.string SB/\SB.size<=128/\Hid (CtM b w A1 G gv vs gf F wx)/\Hid (R=if(∀g∈G,g<(n:Int)) then(runB (atS (-1) G) vs SB (n-1) 1 F).map (F::·) else none))
  case first=>
   rcases gJ.o with ⟨cJ,aN⟩|⟨cJ,aN⟩
   ·rw[cJ];have bJ:=aV.o;rw[if_neg (λh=>h.1 aN),if_pos aN] at bJ;have sl:SS=bs []:=(by rw[<-Jj.o,aN]);rw[<-sl] at bJ;have cU:=h_ bJ;have E6:SS.size<=128:=(by rw[sl];exact Nat.zero_le _);clear bJ sl aV aN gJ qq je;go_wp2;go_meet;case rel=>exact⟨SS,rfl,E6,E5,cU⟩
   ·rw[cJ];have bJ:=aV.o;have hcell:=je.o.2.cell 0;simp at hcell;have cL:=Z0y na (.cells #[.string SS] 9);have BW:=h_ (E5.o.next cL);have K2:=h_ (qq.o (na.alloc (.cells #[.string SS] 9)) (some ⟨na.heap.size,0,none⟩) (Bk.new na 9 (svs [SS]).toArray).at_)
    have he:extL (m:Int) [SS]=if(ext (m:Int) st).2=0 then some [bs (ext (m:Int) st).1] else none:=by
     rw[<-Jj.o];show(if(ext (m:Int) (toL (bs st))).2=0 then(extL (m:Int) []).map (bs (ext (m:Int) (toL (bs st))).1::·) else none)=_;rw[Z0d];rfl
    have He:=h_ he;have cU:=h_ bJ;have lh:=h_ aN;clear cL E5 aV gJ qq je bJ he aN;go_wp2_with fail;refine(K2.out).mono ?_;rintro x tE hx;obtain⟨AS,ks,V8,rfl,hb,nD⟩:=ZaG hx;have OE:=h_ (BW.o.next hb);rw[He.o] at nD;have bJ:=cU.o;have aN:=lh.o;clear hx hb BW hcell K2 He cU lh;by_cases jW:(ext (m:Int) st).2=0
    ·rw[if_pos jW] at nD;rcases nD with ⟨_,h⟩|⟨rfl,q,gs,hq,rfl,rfl,_,iT⟩
     ·cases h
     injection hq with hq;subst hq;have yq:=ZaH jW;rw[if_neg (λh=>h.2 jW),if_neg aN] at bJ;obtain⟨SB,rq⟩:∃F,bs (ext (m:Int) st).1=F:=⟨_,rfl⟩;have E6:SB.size<=128:=(by rw[<-rq,Z00];exact yq);rw[rq] at bJ iT;have cU:=h_ bJ;have hcs:=iT.cell 0;simp[svs,sv] at hcs;clear bJ iT yq rq jW aN;go_wp2;go_meet;case rel=>exact⟨SB,rfl,E6,OE,cU⟩
    ·rw[if_neg jW] at nD;rcases nD with ⟨rfl,_⟩|⟨_,_,_,h,_⟩
     ·rw[if_pos ⟨aN,jW⟩] at bJ;have gN:=h_ bJ;clear bJ jW aN;go_wp2;go_returns;exact Z1L OE.o.1 gN.o
     ·cases h
  case rest=>
   obtain⟨SB,rfl,E6,sy,OF⟩:=hcut;clear gJ qq je E5 aV Jj OA;obtain⟨K,hK⟩:∃K,G.length=K:=⟨_,rfl⟩;have pM:K<=4096:=(by have:=tN.o.2;omega);rw[<-AH.o,hK];have HK:=h_ hK;have tP:=Zo8 wc;have ka:=Z0y wc (.map #[] 0);have tQ:=h_ tP;have OG:=h_ ka;have kN:=h_ sy.o.1.size;have OH:=h_ (λi (h:i<K)=>tN.o.1 (G[i]'(by rw[HK.o];exact h)) (List.getElem_mem _));clear hK tP ka sS qs;have jw:= @run_makeMap Tryz.prog;go_wp2;go_loopw [22,112] (λvv wq wr=>∃(i:Nat) (a:Int),i<=K/\wq=.int .i64 (i:Int)/\vv=.int .i64 a/\-1<=a/\a<=4096*(i:Int)/\Hid (a=(atS (-1) (G.take i)).getLastD (-1))/\Hid (∀g∈G.take i,0<=g/\g<(n:Int))/\Hid (MI wr wc.heap.size (atS (-1) (G.take i)) (vs.take i))/\Hid (Below wc.heap.size wc wr)) (λ_ wq _=>(K-intOf wq).toNat);case atStart=>exact⟨0,-1,Nat.zero_le _,rfl,rfl,by omega,by omega,h_ rfl,h_ (λg hg=>by simp at hg),tQ,OG⟩
   case round=>
    clear tQ OG jw;obtain⟨i,a,hi,rfl,rfl,eV,mj,BX,qO,hM,hb⟩:=hrel;by_cases ab:i<K
    ·have BY:i<G.length:=(by rw[HK.o];exact ab);have vK:i<vs.length:=(by rw[<-AH.o];exact BY);have aY:=Zmw G i BY;have ax:G.take (i+1)=G.take i++[G[i]]:=List.take_succ_eq_append_getElem BY;have eP:vs.take (i+1)=vs.take i++[vs[i]]:=List.take_succ_eq_append_getElem vK;have dO:=OH.o i ab;have ew:=(sy.o.2.2.1.below hb.o sy.o.2.2.1.lt).cell i;have E7:G[i]∈G:=List.getElem_mem _;have Jm:(svs vs).toArray[i]? =some (.string vs[i]):=(by simp[svs,sv,vK]);rw[Jm] at ew;obtain⟨g,hg⟩:∃g,G[i]=g:=⟨_,rfl⟩;rw[hg] at aY ax dO E7;obtain⟨v,hv⟩:∃v,vs[i]=v:=⟨_,rfl⟩;rw[hv] at eP ew;obtain⟨b1,o1,kH,GJ,bY⟩:=(sy.o.2.1.below hb.o).get i _ aY;subst kH;have T8:(0:Int)<=(i:Int):=(by omega);have OI:(i:Int)<(K:Int):=(by omega);by_cases zO:g<(n:Int)
     ·have hlen:(atS (-1) (G.take i)).length=(vs.take i).length:=(by rw[Zdt,List.length_take,List.length_take];omega);have BZ:=ZgY (n:=4096) (by omega) (G.take i) (-1) (λx hx=>by have:=qO.o x hx;omega)
      have C0:∀k:Int,a<k->k∉atS (-1) (G.take i):=λk hk hm=>by
       have:=(BZ.1 k hm).2;rw[<-BX.o] at this;omega
      have ak:∀k:Int,k=a+1+g->atS (-1) (G.take (i+1))=atS (-1) (G.take i)++[k]:=λk hk=>by
       rw[ax,Zc3,<-BX.o,hk]
      have nE:=h_ (show ∀x∈G.take (i+1),0<=x/\x<(n:Int) from λx hx=>by
       rw[ax] at hx;rcases List.mem_append.1 hx with hx|hx
       ·exact qO.o x hx
       ·rw[List.mem_singleton.1 hx];exact⟨dO,zO⟩)
      have av:=h_ (λ(k:Int) (hk:k=a+1+g)=>by
       obtain⟨w',p1,p2,p3,p4⟩:=Zo9 hM.o k v hlen (C0 k (by omega));rw[<-ak k hk,<-eP] at p2;exact(⟨w',p1,p2,ZaA hb.o (Nat.le_refl _) p3⟩:∃w',(Instr.mapUpdate 266 (.map (some wc.heap.size)) (.int .i64 k) (.string v)).run Tryz.prog wr=.ok () w'/\MI w' wc.heap.size (atS (-1) (G.take (i+1))) (vs.take (i+1))/\Below wc.heap.size wc w'))
      have eW:=h_ (λ(k:Int) (hk:k=a+1+g)=>by rw[ak k hk,List.getLastD_concat]:∀k:Int,k=a+1+g->k=(atS (-1) (G.take (i+1))).getLastD (-1));have Jn:¬(n:Int)<=g:=(by omega);clear BY vK aY ax eP E7 Jm hg hv hlen BZ C0 ak qO hM BX;by_cases yK:a<0
      ·obtain⟨w',ag,p2,p3⟩:=av.o g (by omega);have P2:=h_ p2;have P3:=h_ p3;have PL:=h_ (eW.o g (by omega));clear av eW p2 p3;go_wp2;refine⟨⟨i+1,g,ab,by go_num,rfl,by omega,by omega,PL,nE,P2,P3⟩,?_⟩;simp[intOf]<;>omega
      ·obtain⟨w',ag,p2,p3⟩:=av.o (a+(g+1)) (by omega);have P2:=h_ p2;have P3:=h_ p3;have PL:=h_ (eW.o (a+(g+1)) (by omega));clear av eW p2 p3;go_wp2;refine⟨⟨i+1,a+(g+1),ab,by go_num,rfl,by omega,by omega,PL,nE,P2,P3⟩,?_⟩;simp[intOf]<;>omega
     ·have gN:=h_ (show R=none by rw[OF.o,if_neg (λh=>zO (h g E7))]);have Jn:(n:Int)<=g:=(by omega);have cq:=h_ (sy.o.1.below hb.o);clear BY vK aY ax eP E7 Jm hg hv qO hM BX zO ew;go_wp2;go_returns;exact Z1L cq.o gN.o
    ·have OI:i=K:=(by omega);have OJ:G.take i=G:=List.take_of_length_le (by rw[HK.o];omega);have OK:vs.take i=vs:=List.take_of_length_le (by rw[<-AH.o,HK.o];omega);have nE:=qO.o;have pP:=hM.o;rw[OJ] at nE pP;rw[OK] at pP;have E8:=OF.o;rw[if_pos (λg hg=>(nE g hg).2)] at E8;obtain⟨X,hX⟩:∃X,atS (-1) G=X:=⟨_,rfl⟩;rw[hX] at pP E8;have OL:=h_ E8;obtain⟨wo,rfl⟩:∃wo:World,wo=wr:=⟨_,rfl⟩;have OM:=h_ (sy.o.1.below hb.o);have tR:=Zh1 (l:=[F]) (sy.o.2.2.2.1.below hb.o sy.o.2.2.2.1.lt) sy.o.2.2.2.2 (by unfold maxLen;simp);have tS:=h_ (show wo.ownsRow w.heap.size 9 1 (.slice (some ⟨gf,0,none⟩) 1 1) 1 (svs [F]) from tR);have BW:=h_ pP;have IB:=h_ (Below.refl w.heap.size wo);have Ta:=h_ (Nat.le_trans kN.o hb.o.size);have fF:1<=n:=(by omega);have uX:=h_ vr;have aR:=h_ (λ(v:ByteArray) (h:v.size<=128) W2=>Zgw v SB (by omega) (by omega) W2);have V9:¬(i:Int)<(K:Int):=(by omega);clear OI OJ OK nE pP E8 hX tR hM BX qO OH hb vr;go_wp2;go_loopw [25,26] (λTb uq wr=>∃(j:Nat) (os:List ByteArray),1<=j/\j<=n/\uq=.int .i64 (j:Int)/\Hid (os.length=j)/\Hid (∀v∈os,v.size<=128)/\Hid (R=(runB X vs SB (n-j) j (os.getLastD default)).map (os++·))/\Hid (wr.ownsRow w.heap.size 9 1 Tb j (svs os))/\Hid (MI wr wc.heap.size X vs)/\Hid (Below w.heap.size wo wr)) (λ_ uq _=>(n-intOf uq).toNat);case atStart=>exact⟨1,[F],Nat.le_refl _,fF,rfl,h_ rfl,h_ (λv hv=>by rw[List.mem_singleton.1 hv];exact uX.o),OL,tS,BW,IB⟩
     case round=>
      clear tS BW IB OL;obtain⟨j,os,nK,im,rfl,fG,nD,C3,aa,hM,hb⟩:=hrel;obtain⟨A5,M5,bk,rfl⟩:=Z0c aa.o;have Jo:=h_ (Nat.le_trans Ta.o hb.o.size);by_cases ab:j<n
      ·have sW:(j:Int)<(n:Int):=(by omega);have kj:=C3.o;rw[show n-j=(n-(j+1))+1 by omega,runB] at kj;cases cP:look X vs (j:Int) with
       |some v=>
        rw[cP] at kj;simp only at kj;have C4:=Zmu hM.o (j:Int) cP;have tM:=rf.o v (Z82 _ _ cP);have ai:=aa.o;obtain⟨v',w4,ag,af,aG,_,qt,_⟩:=ZgZ (P:=Tryz.prog) 64 9 _ _ Tryz.underlying64 Z1x rfl (w:=wr) ai hb.o Jo.o (.string v) rfl (by unfold maxLen;omega) (by omega);have ao:=h_ ag;have az:=h_ (show w4.ownsRow w.heap.size 9 1 v' (j+1) (svs (os++[v])) by rw[Z1j];exact af);have cQ:=h_ aG;have Tc:=h_ (Zh0 (hM.o.alloc (.cells #[.string v] 9)) qt (ai.alloc _));have nw:=h_ (show(os++[v]).length=j+1 by rw[List.length_append,fG.o];rfl)
        have wA:=h_ (show ∀u∈os++[v],u.size<=128 from λu hu=>by
         rcases List.mem_append.1 hu with hu|hu
         ·exact nD.o u hu
         ·rw[List.mem_singleton.1 hu];exact tM)
        have Jp:=h_ (show R=(runB X vs SB (n-(j+1)) (j+1) ((os++[v]).getLastD default)).map ((os++[v])++·) by
         rw[kj,List.getLastD_concat,Option.map_map];congr 1;funext q;simp)
        clear cP kj tM ai ag af aG qt aa hM C3 nD fG
        go_wp2_with (
         at_builtin;refine Z04 (by with_reducible rfl) rfl _ _ _ rfl _ _ (by rfl) (by rfl) ao.o ?_)
        refine⟨⟨j+1,os++[v],by omega,ab,by go_num,nw,wA,Jp,az,Tc,cQ⟩,?_⟩;simp[intOf]<;>omega
       |none=>
        rw[cP] at kj;simp only at kj;have C4:=Zmv hM.o (j:Int) cP;obtain⟨A6,jc,tB,cu⟩:=Z0q aa.o;injection tB with e1 e2 e3;have e1:=e1.symm;have e2:=e2.symm;have e3:=e3.symm;subst e1;subst e2;subst e3;have AM:j-1<os.length:=(by rw[fG.o];omega)
        have jA:os.getLastD default=os[j-1]:=by
         have hl:=fG.o;have ay:os≠[]:=λe=>(by rw[e] at hl;simp at hl;omega);rw[List.getLastD_eq_getLast?,List.getLast?_eq_getElem?,hl,List.getElem?_eq_getElem AM];rfl
        obtain⟨b6,o6,Td,dq,E9⟩:=Z1c cu (j-1) AM;subst Td;rw[jA] at kj;have Jq:=nD.o os[j-1] (List.getElem_mem _);obtain⟨u,hu⟩:∃u,os[j-1]=u:=⟨_,rfl⟩;rw[hu] at E9 kj Jq;have Te:IntKind.i64.wrap ((j:Int)-1)=((j-1:Nat):Int):=(by rw[IntWalk.i64_in _ (by omega)];omega);have Tf:(j:Int)-1=((j-1:Nat):Int):=(by omega);have Tg:((j-1:Nat):Int)<(j:Int):=(by omega);have Th:(0:Int)<=((j-1:Nat):Int):=(by omega);have K1:=h_ (aR.o u Jq);obtain⟨⟨r,q⟩,hr⟩:∃r,addV (toL u) (toL SB)=r:=⟨_,rfl⟩;rw[hr] at K1 kj;simp only at K1 kj;have Hr:=h_ hr;have Ea:=h_ kj;obtain⟨J,hJ⟩:∃J,j-1=J:=⟨_,rfl⟩;rw[hJ] at E9 Te Tf Tg Th;clear cP hr kj cu jA hu C3 AM hJ Jq;go_wp2_with fail;refine(K1.out _).mono ?_;rintro x w3 ⟨rfl,ae⟩;have ai:=Z0v aa.o (Fr.of_below (S:=nob) ae) (λ_ _ f=>f);have gH:=hb.o.trans (ae.mono Jo.o);have Jr:=hM.o.below ae hM.o.lt;have Js:=Nat.le_trans Jo.o ae.size;cases q with
        |false=>
         have gN:=h_ (show R=none by rw[Ea.o];rfl);have cq:=h_ (Z3H OM.o gH);clear ai gH Jr Js ae aa hM hb nD fG Ea E9 K1;go_wp2;go_returns;exact Z1L cq.o gN.o
        |true=>
         have tM:(bs r).size<=128:=by
          rw[Z00];exact(Z1o.1 (Z6w Hr.o).1).2.2
         have kj:=Ea.o;rw[if_pos rfl] at kj;obtain⟨v,hv⟩:∃v,bs r=v:=⟨_,rfl⟩;rw[hv] at tM kj⊢;obtain⟨v',w4,ag,af,aG,_,qt,_⟩:=ZgZ (P:=Tryz.prog) 64 9 _ _ Tryz.underlying64 Z1x rfl (w:=w3) ai gH Js (.string v) rfl (by unfold maxLen;omega) (by omega);have ao:=h_ ag;have az:=h_ (show w4.ownsRow w.heap.size 9 1 v' (j+1) (svs (os++[v])) by rw[Z1j];exact af);have cQ:=h_ aG;have Hj:=h_ (Zh0 (Jr.alloc (.cells #[.string v] 9)) qt (ai.alloc _));have nw:=h_ (show(os++[v]).length=j+1 by rw[List.length_append,fG.o];rfl)
         have wA:=h_ (show ∀u∈os++[v],u.size<=128 from λu hu=>by
          rcases List.mem_append.1 hu with hu|hu
          ·exact nD.o u hu
          ·rw[List.mem_singleton.1 hu];exact tM)
         have Jp:=h_ (show R=(runB X vs SB (n-(j+1)) (j+1) ((os++[v]).getLastD default)).map ((os++[v])++·) by
          rw[kj,List.getLastD_concat,Option.map_map];congr 1;funext q;simp)
         clear kj tM hv ai ag af aG qt aa hM nD fG gH Jr Js ae hb Ea Hr E9 K1
         go_wp2_with (
          at_builtin;refine Z04 (by with_reducible rfl) rfl _ _ _ rfl _ _ (by rfl) (by rfl) ao.o ?_)
         refine⟨⟨j+1,os++[v],by omega,ab,by go_num,nw,wA,Jp,az,Hj,cQ⟩,?_⟩;simp[intOf]<;>omega
      ·have C5:j=n:=(by omega);have sA:=h_ (show R=some os by rw[C3.o,C5,Nat.sub_self];show some (os++[])=_;rw[List.append_nil]);have sW:¬(j:Int)<(n:Int):=(by omega);obtain⟨A6,jc,tB,cu⟩:=Z0q aa.o;have qu:=h_ cu;injection tB with e1 e2 e3;have e2:=e2.symm;subst e1;subst e2;subst e3;have cq:=h_ (Z3H OM.o hb.o);have Ti:=fG.o;clear C3 aa hM hb nD fG cu C5;go_wp2;go_returns;rw[sA.o];exact⟨cq.o,A5,bk,by rw[Ti];rfl,qu.o⟩
end Go.Proofs.YtchokmkfobandaaGreatDoor
