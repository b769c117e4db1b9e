import Derived.Test.YtchokmkfobandaaGreatDoorM28
set_option linter.unusedVariables false
set_option linter.unusedSimpArgs false
set_option maxRecDepth 100000
set_option maxHeartbeats 8000000
namespace Go.Proofs.YtchokmkfobandaaGreatDoor
open Go.RowKit Go.Proofs Wv Wv.Vi Wv.Rc Wv.Mo Wv.Ru Wv.Tm
def Zky (w:World) (b:Nat) (r:Option (List Int)) (x:Ending) (w':World):Prop:=∃v ok,x=.returned (.tuple #[v,.bool ok])/\ok=r.isSome/\(∀l,r=some l->IRes w' v l)/\Fr (only b) w w'
theorem YS {w w':World} {b:Nat} {r:Option (List Int)} {v:Value} (h:r=none) (hb:Fr (only b) w w'):Zky w b r (.returned (.tuple #[v,.bool false])) w':=⟨_,_,rfl,by rw[h];rfl,(λl h2=>by rw[h] at h2;cases h2),hb⟩
theorem QK {w w1 w2:World} {b:Nat} (h:Fr (only b) w w1) (hb:Below w1.heap.size w1 w2):Fr (only b) w w2:=h.trans (Fr.of_below hb)
theorem Zg3 {w w1:World} {b:Nat} (h:Fr (only b) w w1) (o:Obj):Fr (only b) w (w1.alloc o):=QK h ((Vae _ _).alloc UZz o)
def Z2C (c:Clk) (m:List Int) (i:Nat):List Int:=((List.range i).filter (λ(i:Nat)=> !m.contains (i:Int))).map (atC c)
theorem Z9n (c:Clk) (m:List Int) (i:Nat):Z2C c m (i+1)=if m.contains (i:Int)=true then Z2C c m i else Z2C c m i++[atC c i]:=by
 unfold Z2C;rw[Vcp,List.filter_append,Vbk];by_cases h:m.contains (i:Int)=true
 ·rw[Vaf h,List.filter_cons,h];simp
 ·rw[Vad h];simp only[Bool.not_eq_true] at h;rw[List.filter_cons,h];rfl
theorem Z5r (c:Clk) (m:List Int) (i:Nat):(Z2C c m i).length<=i:=by
 unfold Z2C;rw[Vag];have h1:=List.length_filter_le (λ(i:Nat)=> !m.contains (i:Int)) (List.range i);rw[Vbv] at h1;exact h1
theorem ZiJ {w w':World} {c:Clk} {x:Ending} (h:Z44 w c x w'):∃v e,x=.returned (.tuple #[v,.int .i64 ((e:Nat):Int)])/\Below w.heap.size w w'/\((e=1/\vclk c=false)\/(e=0/\vclk c=true/\∃g,v=.slice (some ⟨g,0,none⟩) c.n.toNat c.n.toNat/\Bk w' g 3 (ica (ZD c)))):=by
 unfold Z44 at h;by_cases hv:vclk c=true
 ·rw[Vaf hv] at h;obtain⟨g,h1,h2,_,h3⟩:=h;exact⟨_,0,h1,h3,.inr ⟨rfl,hv,g,rfl,h2⟩⟩
 ·rw[Vad hv] at h;exact⟨_,1,h.1,h.2,.inl ⟨rfl,by simpa using hv⟩⟩
theorem Zkz {w w':World} {A:Option Addr} {l:List Int} {b e:Nat} {s s':ByteArray} (h:At w A (ivs l)) (hv:RV w b s e) (oN:RV w' b s' e) (hf:Fr (only b) w w'):At w' A (ivs l):=by
 intro i hi;obtain⟨b',o,hA,hb,hc⟩:=h i hi;refine⟨b',o,hA,Va5 hb hf.size,?_⟩;by_cases aW:b'=b
 ·subst aW;have h1:=Bk.cell hv (o+i);have h2:=Bk.cell oN (o+i);rw[hc] at h1;rw[h2];match o+i,h1 with
  |0,h1=>simp[ivs,iv] at h1
  |1,h1=>simpa using h1.symm
  |k+2,h1=>simp at h1
 ·exact(hf.cell (p:=⟨b',_,none⟩) hb aW).trans hc
theorem Z2c {w w':World} {x:Ending} {r:List Int×Nat} (h:LRes w x w' r):∃A cap,x=.returned (.tuple #[.slice A r.1.length cap,.int .i64 (r.2:Int)])/\At w' A (ivs r.1)/\Below w.heap.size w w':=by
 obtain⟨v,h1,⟨A,cap,rfl,h2⟩,h3⟩:=h;exact⟨A,cap,h1,h2,h3⟩
theorem Z9o {w : World} {b : Nat} {s : List UInt8} (h : RV w b (bs s) 0) (hs : s.length <= 1000000000) :
    Calls Tryz.prog 91 #[.pointer (some ⟨b,0,none⟩)] w λx w'=>Zky w b (Z42 s) x w':=by
  have ag:=Zfy s;obtain⟨z1,z2,z3,z4⟩:=Ziv (bs s);have dA:(bs s).size=s.length:=Z0 _;rw[dA] at z1 z2 z3 z4;obtain⟨n1,t1,x1,h1⟩:∃n t e,q1 (bs s)=(n,t,e):=⟨_,_,_,rfl⟩;obtain⟨n2,t2,x2,h2⟩:∃n t e,q2 (bs s)=(n,t,e):=⟨_,_,_,rfl⟩;obtain⟨n3,t3,x3,h3⟩:∃n t e,q3 (bs s)=(n,t,e):=⟨_,_,_,rfl⟩;obtain⟨n4,t4,x4,h4⟩:∃n t e,q4 (bs s)=(n,t,e):=⟨_,_,_,rfl⟩;obtain⟨a5,t5,x5,h5⟩:∃n t e,q5 (bs s)=(n,t,e):=⟨_,_,_,rfl⟩;rw[h1] at z1 ag;rw[h2] at z2 ag;rw[h3] at z3 ag;rw[h4] at z4 ag;rw[h5] at ag;simp only at z1 z2 z3 z4 ag
  have H1:Hid (Calls Tryz.prog 86 #[.pointer (some ⟨b,0,none⟩),.int .i64 1099511627776] w λx w'=>x=.returned (.int .i64 (n1:Int))/\RV w' b t1 x1/\Fr (only b) w w'):=h_ (by
    have:=Zi h (by omega) 1099511627776;rw[show numR (bs s) 0 1099511627776=(n1,t1,x1) from h1] at this;exact this)
  have H2:Hid (∀W,RV W b t1 x1->Calls Tryz.prog 86 #[.pointer (some ⟨b,0,none⟩),.int .i64 1099511627776] W λx w'=>x=.returned (.int .i64 (n2:Int))/\RV w' b t2 x2/\Fr (only b) W w'):=h_ (λW hW=>by
    have:=Zi hW (by omega) 1099511627776;rw[show numR t1 x1 1099511627776=(n2,t2,x2) by rw[<-h2];unfold q2;rw[h1]] at this;exact this)
  have H3:Hid (∀W,RV W b t2 x2->Calls Tryz.prog 86 #[.pointer (some ⟨b,0,none⟩),.int .i64 1099511627776] W λx w'=>x=.returned (.int .i64 (n3:Int))/\RV w' b t3 x3/\Fr (only b) W w'):=h_ (λW hW=>by
    have:=Zi hW (by omega) 1099511627776;rw[show numR t2 x2 1099511627776=(n3,t3,x3) by rw[<-h3];unfold q3;rw[h2]] at this;exact this)
  have H4:Hid (∀W,RV W b t3 x3->Calls Tryz.prog 86 #[.pointer (some ⟨b,0,none⟩),.int .i64 4096] W λx w'=>x=.returned (.int .i64 (n4:Int))/\RV w' b t4 x4/\Fr (only b) W w'):=h_ (λW hW=>by
    have:=Zi hW (by omega) 4096;rw[show numR t3 x3 4096=(n4,t4,x4) by rw[<-h4];unfold q4;rw[h3]] at this;exact this)
  have HL:Hid (∀W,RV W b t4 x4->Calls Tryz.prog 90 #[.pointer (some ⟨b,0,none⟩)] W λx w'=>x=.returned (.int .i64 (t4.size:Int))/\W=w'):=h_ (λW hW=>Zt hW (by omega))
  have H5:Hid (∀W,RV W b t4 x4->Calls Tryz.prog 137 #[.pointer (some ⟨b,0,none⟩),.int .i64 (t4.size:Int)] W λx w'=>x=.returned (.string a5)/\RV w' b t5 x5/\Fr (only b) W w'):=h_ (λW hW=>by
    have:=ZO hW (by omega) (t4.size:Int);rw[show ZT t4 x4 (t4.size:Int)=(a5,t5,x5) by rw[<-h5];unfold q5;rw[h4]] at this;exact this)
  have HE:Hid (∀W,RV W b t5 x5->Calls Tryz.prog 87 #[.pointer (some ⟨b,0,none⟩)] W λx w'=>x=.returned (.int .i64 (x5:Int))/\W=w'):=h_ (λW hW=>Zb hW);have vc:=h_ h.lt;have jx:Z42 s=match rclk s with|none=>none|some (c,a,t)=>finC c (decn a 4096) (decn t 4096):=rfl
  obtain⟨R,hR⟩:∃R,Z42 s=R:=⟨_,rfl⟩;rw[hR] at jx⊢;have gC:=h_ jx;have ar:=h_ ag;have Wa:t4.size<=1000000000:=(by omega);clear h1 h2 h3 h4 h5 jx ag h z1 z2 z3 z4 dA hR;go_enter Tryz.func91,Tryz.ntmps91;go_wp2_with fail;refine(H1.o).mono ?_;rintro x w1 ⟨rfl,bq,aC⟩;have cL:=h_ bq;have cS:=h_ aC;clear bq aC H1;go_wp2_with fail;refine(H2.o _ cL.o).mono ?_;rintro x w2 ⟨rfl,bm,ai⟩;have fa:=h_ bm;have cl:=h_ (cS.o.trans ai);clear bm ai H2 cL cS;go_wp2_with fail;refine(H3.o _ fa.o).mono ?_;rintro x w3 ⟨rfl,eu,aR⟩;have yz:=h_ eu;have gM:=h_ (cl.o.trans aR);clear eu aR H3 fa cl;go_wp2_with fail;refine(H4.o _ yz.o).mono ?_;rintro x w4 ⟨rfl,kR,aG⟩;have wN:=gM.o.trans aG;have aU:=h_ (Va5 vc.o wN.size);have El:=h_ (show RV (w4.alloc (.cells #[.int .i64 (n1:Int),.int .i64 (n2:Int),.int .i64 (n3:Int),.int .i64 (n4:Int)] 96)) b t4 x4 from Bk.alloc kR _);have Em:=h_ (Bk.new w4 96 #[.int .i64 (n1:Int),.int .i64 (n2:Int),.int .i64 (n3:Int),.int .i64 (n4:Int)]);have cH:=h_ (Zg3 wN (.cells #[.int .i64 (n1:Int),.int .i64 (n2:Int),.int .i64 (n3:Int),.int .i64 (n4:Int)] 96));clear kR aG wN H4 yz gM;go_upto_region 2 with fail;obtain⟨Q,hQ⟩:∃Q,w4.heap.size=Q:=⟨_,rfl⟩;obtain⟨W4,BK⟩:∃W,w4.alloc (.cells #[.int .i64 (n1:Int),.int .i64 (n2:Int),.int .i64 (n3:Int),.int .i64 (n4:Int)] 96)=W:=⟨_,rfl⟩;rw[hQ] at Em aU⊢;rw[BK] at El Em cH⊢;clear hQ BK;go_wp2_with fail;refine(HL.o _ El.o).mono ?_;rintro x w5 ⟨rfl,rfl⟩;go_wp2_with fail;refine(H5.o _ El.o).mono ?_;rintro x w5 ⟨rfl,pA,rq⟩;have qs:=h_ (Em.o.fr rq (by show ¬_=_;have:=aU.o;omega));have Eo:=h_ pA;have sw:=h_ (cH.o.trans rq);clear pA rq El Em cH H5 HL;go_wp2_with fail;refine(HE.o _ Eo.o).mono ?_;rintro x w6 ⟨rfl,rfl⟩;rcases ar.o with ⟨he,hr⟩|⟨he,y,t,hr,TD,MF,oc,eZ⟩
  · have Hr:Hid (R=none):=h_ (by rw[gC.o,hr])
    have ay:((x5:Int) !=0)=true:=(by rw[Va1];omega);clear hr he ar gC;go_wp2;go_ret2;exact YS Hr.o sw.o
  · subst he
    subst TD;subst MF;have Hr:Hid (R=finC ⟨(n1:Int),(n2:Int),(n3:Int),(n4:Int)⟩ (decn y 4096) (decn t 4096)):=h_ (by rw[gC.o,hr]);have k0:=qs.o.cell 0;have k1:=qs.o.cell 1;have k2:=qs.o.cell 2;have k3:=qs.o.cell 3;simp at k0 k1 k2 k3;obtain⟨c,hc⟩:∃c:Clk,(⟨(n1:Int),(n2:Int),(n3:Int),(n4:Int)⟩:Clk)=c:=⟨_,rfl⟩;have eH:CV c=.agg #[.int .i64 (n1:Int),.int .i64 (n2:Int),.int .i64 (n3:Int),.int .i64 (n4:Int)]:=(by rw[<-hc];rfl);rw[hc] at Hr;have Ht:=h_ (Z32 c w5);rw[eH] at Ht;clear hr ar gC hc;go_wp2_with fail;refine(Ht.o).mono ?_;rintro x w7 No;obtain⟨vT,eT,rfl,eA,hT⟩:=ZiJ No;have HT:=h_ hT;have II:=h_ (show RV w7 b (bs t) 0 from Bk.below Eo.o eA (Bk.lt Eo.o));have FR:=h_ (QK sw.o eA);have Hx:=h_ (λW=>ZQ (w:=W) y (by omega) 4096);have Hy:=h_ (λW=>ZQ (w:=W) t (by omega) 4096);have Ep:=Xv y 4096;have Er:=Xv t 4096;obtain⟨⟨X,eX⟩,hX⟩:∃r,decn y 4096=r:=⟨_,rfl⟩;obtain⟨⟨Y,eY⟩,hY⟩:∃r,decn t 4096=r:=⟨_,rfl⟩;rw[hX] at Hx Hr Ep;rw[hY] at Hy Hr Er;simp only at Ep Er;have BL:=h_ Ep.2;have HY:=h_ Er.2;have Bb:=Z0d t;have wO:=h_ Bb;have cj:(bs t).size=t.length:=Z0 _;clear k0 k1 k2 k3 No hT eA hX hY Ep Er Ht Eo sw qs Bb HE;go_wp2_with fail;refine(Hx.o _).mono ?_;rintro x w8 kI;obtain⟨Ax,cx,rfl,uf,iX⟩:=Z2c kI;have yA:=h_ (show RV w8 b (bs t) 0 from Bk.below II.o iX (Bk.lt II.o));have Np:=h_ (QK FR.o iX);have ug:=h_ iX;have yB:=h_ uf;clear kI iX uf Hx;simp only;have Es:=h_ (Zt yA.o (by rw[cj];omega));go_wp2_with fail;refine(Es.o).mono ?_;rintro x w9 ⟨rfl,rfl⟩;have IJ:=h_ (Zu yA.o (by rw[cj];omega) ((bs t).size:Int));rw[wO.o] at IJ;go_wp2_with fail;refine(IJ.o).mono ?_;rintro x w9 ⟨rfl,qg,o8⟩;simp only;have uh:=h_ (Np.o.trans o8);have Nq:=h_ (Bk.lt yA.o);have BM:=h_ (Zkz yB.o yA.o qg o8);have Nr:=h_ (λg (hg:Bk w7 g 3 (ica (ZD c)))=>Zkz ((Z7W hg).below ug.o) yA.o qg o8);clear qg Es IJ yA II wO o8 yB ug Np;go_wp2_with fail;refine(Hy.o _).mono ?_;rintro x mW BN;obtain⟨Ay,cy,rfl,Ns,gj⟩:=Z2c BN;have qt:=h_ (QK uh.o gj);have BO:=h_ (BM.o.below gj);have BP:=h_ (show At mW Ay (ivs Y) from Ns);have sO:=h_ (λg (hg:Bk w7 g 3 (ica (ZD c)))=>(Nr.o g hg).below gj);clear BN Ns gj uh BM Nr Hy;simp only;have aN:finC c (X,eX) (Y,eY)=if vclk c=false\/eX≠0\/eY≠0 then none else match jnL X,jnL Y with|some m,some x=>some (rebL c m x)|_,_=>none:=rfl
    rcases HT.o with ⟨he,oD⟩|⟨he,oD,g,Nt,wh⟩
    · have fG:Hid (R=none):=h_ (by rw[Hr.o,aN,Vaf (.inl oD)])
      subst he;clear aN oD Hr HT;go_wp2;go_ret2;exact YS fG.o qt.o
    · subst he
      by_cases IK:eX=0
      · subst IK
        by_cases IL:eY=0
        · subst IL
          rw[Vad (by rw[oD];simp)] at aN;have bR:=Hr.o;rw[aN] at bR;have lS:=h_ bR;have BQ:=h_ (sO.o g wh);obtain⟨aO,_⟩:=Yw.1 oD;have fI:=aO.1;have jt:=aO.2.1;have rA:∀i,i<c.n.toNat->(ZD c)[i]? =some (atC c i):=λi h=>(by simp[ZD,h]);have Bo:∀m,ZaI c m=Z2C c m c.n.toNat:=λm=>rfl;obtain⟨N,hN⟩:∃N,c.n.toNat=N:=⟨_,rfl⟩;rw[hN] at rA Nt Bo;have zX:N<=4096:=(by omega);have AZ:=h_ rA;have Nu:=h_ Bo;subst Nt;clear aN bR Hr HT oD wh sO aO rA Bo hN fI jt;have dV:=BL.o;have IM:=HY.o;have Nv:=h_ (Z0o BO.o X.length cx rfl (by omega));have Nw:=h_ (λW (hW:Below mW.heap.size mW W)=>Z0o (BP.o.below hW) Y.length cy rfl (by omega));clear dV IM;go_wp2_with fail;refine(Nv.o).mono ?_;rintro x MA ⟨vm,Et,rfl,lE,hm,jT⟩;have nU:=h_ jT;have Hm:=h_ hm;have jo:=h_ lE;clear jT hm Nv lE;go_wp2_with fail;refine(Nw.o _ nU.o).mono ?_;rintro x ui ⟨vf,IN,rfl,BR,hf,kV⟩;have wP:=h_ (QK (QK qt.o nU.o) kV);have BU:=h_ ((BQ.o.below nU.o).below kV);have qu:=h_ (λl h=>(Hm.o l h).bel kV);have BV:=h_ hf;have nV:=h_ BR;clear kV hf BR Nw Hm BQ qt nU BO BP;obtain⟨jm,rl⟩:∃j,jnL X=j:=⟨_,rfl⟩;obtain⟨jf,IP⟩:∃j,jnL Y=j:=⟨_,rfl⟩;have Nx:=h_ rl;have Ny:=h_ IP;rw[rl] at jo qu lS;rw[IP] at nV BV lS;clear rl IP;cases jm with
          |none=>
            have fG:Hid (R=none):=h_ lS.o;have bH:Et=false:=jo.o;subst bH;clear jo nV lS qu BV;go_wp2;go_ret2;exact YS fG.o wP.o
          |some m=>
            have bH:Et=true:=jo.o;subst bH;cases jf with
            |none=>
              have fG:Hid (R=none):=h_ lS.o;have bH:IN=false:=nV.o;subst bH;clear jo nV lS qu BV;go_wp2;go_ret2;exact YS fG.o wP.o
            |some f=>
              have bH:IN=true:=nV.o;subst bH;have fG:Hid (R=some (rebL c m f)):=h_ lS.o;obtain⟨Am,cm,kS,cN⟩:=X7 (qu.o m rfl);obtain⟨Af,cf,zE,BW⟩:=X7 (BV.o f rfl);subst kS;subst zE;obtain⟨mv,_⟩:=Z1J Nx.o;obtain⟨fv,_⟩:=Z1J Ny.o;obtain⟨m1,m2,m3⟩:=Z9.1 mv;obtain⟨f1,f2,f3⟩:=Z9.1 fv;have tK:=h_ m1;have qv:=h_ cN;have IQ:=h_ BW;have gM:=h_ f3;have TE:=h_ m3;have j0:=λi=>Z9n c m i;have bh:=λi=>Z5r c m i;have cg:Z2C c m 0=[]:=rfl;have nB:=Nu.o m;obtain⟨kp,sf⟩:∃kp,Z2C c m=kp:=⟨_,rfl⟩;rw[sf] at j0 bh cg nB;have Nz:=h_ j0;have IR:=h_ bh;have dF:=h_ cg;have IS:=h_ nB;clear jo nV lS qu BV Nx Ny mv fv m1 m2 m3 f1 f2 f3 cN BW j0 bh cg nB sf Nu;go_upto_region 15 with fail;go_wp2;go_loopw [16,83] (λjW IT wr=>∃i:Nat,i<=N/\IT=.int .i64 (i:Int)/\Hid (wr.ownsRow ui.heap.size 3 1 jW (kp i).length (ivs (kp i)))/\Hid (Below ui.heap.size ui wr)) (λ_ IT _=>(N-intOf IT).toNat);case atStart=>exact⟨0,Var _,rfl,h_ (by rw[dF.o];exact Zk),h_ (Vae _ _)⟩
              case round=>
                obtain⟨i,hi,rfl,aa,eo⟩:=hrel;by_cases ab:i<N
                · have n5:=AZ.o i ab
                  obtain⟨T,hT⟩:∃T,atC c i=T:=⟨_,rfl⟩;have j0:=Nz.o i;rw[hT] at n5 j0;have iH:(ivs (ZD c))[i]? =some (.int .i64 T):=(by unfold ivs;rw[Vbc,n5];rfl);obtain⟨b',o',hA,eR,hc⟩:=(BU.o.below eo.o).get i _ iH;injection hA with hA;injection hA with ll dR;subst ll;subst dR;rw[Vbo] at hc;have kH:=h_ (QS (qv.o.below eo.o) m.length cm rfl (by have:=TE.o;omega) tK.o (i:Int));have dw:(i:Int)<(N:Int):=(by omega);have bh:=IR.o i;have IU:=h_ bh;cases fh:m.contains (i:Int) with
                  |true=>
                    rw[fh] at kH j0;rw[Vaf rfl] at j0;have wQ:=h_ j0;clear n5 hT j0 iH eR bh fh;go_wp2_with fail;refine(kH.o).mono ?_;rintro x w3 ⟨⟨p,rfl⟩,q,rfl⟩;go_wp2;refine⟨⟨i+1,ab,by go_num,h_ (by rw[wQ.o];exact aa.o),h_ (bdN eo.o q)⟩,?_⟩;simp[intOf]<;>omega
                  |false=>
                    rw[fh] at kH j0;rw[Vad (by simp)] at j0;have wQ:=h_ j0;clear n5 hT j0 iH eR fh bh;go_wp2_with fail;refine(kH.o).mono ?_;rintro x w3 ⟨⟨p,rfl⟩,q,rfl⟩;have bh:=IU.o;obtain⟨v',Eu,ag,ah,aC,_⟩:=Yr (P:=Tryz.prog) 31 3 _ _ Tryz.underlying31 ZS rfl (w:=wr.drewN q) aa.o (bdN eo.o q) eo.o.size (.int .i64 T) rfl (by unfold maxLen;omega) (by omega);have ar:=h_ ag
                    have aJ:Hid (Eu.ownsRow ui.heap.size 3 1 v' (kp (i+1)).length (ivs (kp (i+1)))):=h_ (by
                      rw[wQ.o,Vab,Qw];exact ah)
                    have IV:=h_ aC;clear ag ah aC aa eo bh
                    go_wp2_with (
                      at_builtin;refine Z4 (by with_reducible rfl) rfl _ _ _ rfl _ _ (by rfl) (by rfl) ar.o ?_)
                    refine⟨⟨i+1,ab,by go_num,aJ,IV⟩,?_⟩;simp[intOf]<;>omega
                · have mw:i=N:=by omega
                  subst mw;have bh:=IR.o i;have IW:=gM.o;have na:=IQ.o.below eo.o
                  obtain⟨v',Eu,ag,ah,du,_⟩:=ZaB (P:=Tryz.prog) 31 3 _ _ Tryz.underlying31 ZS rfl aa.o na cf f.length (by simp[ivs]) (λhA=>by
                    subst hA;cases fD:f with
                    |nil=>rfl
                    |cons z r=>
                      rw[fD] at na;obtain⟨_,_,h0,_⟩:=na 0 (by simp[ivs]);cases h0) (λy hy=>by
                    obtain⟨z,_,rfl⟩:=Va6.1 hy;rfl) (by unfold maxLen;omega) (by omega) eo.o.size
                  have uj:Below ui.heap.size ui Eu:=eo.o.grown du eo.o.size (λk hk=>(aa.o.lt k hk).1)
                  have aL:Eu.ownsRow ui.heap.size 3 1 v' ((kp i).length+f.length) (ivs (kp i++f)):=by
                    have e:ivs (kp i++f)=ivs (kp i)++ivs f:=(by simp[ivs]);rw[e];exact ah
                  have TF:=h_ (ZcI aL (by simp) (by simp;omega) uj);have ar:=h_ ag;have aI:=h_ IS.o;clear bh IW na ag ah du uj aL aa eo IR Nz AZ
                  go_wp2_with (first
                    | (at_builtin
                       refine Z4 (by with_reducible rfl) rfl _ _ _ rfl _ _ (by rfl) (by rfl) ar.o ?_)
                    | (go_at_call 144
                       refine(TF.o).mono ?_;rintro x w6 ⟨rfl,TG,bQ⟩))
                  go_ret2
                  exact⟨_,_,rfl,by rw[fG.o];rfl,(λl hl=>by
                    rw[fG.o] at hl;injection hl with hl;rw[<-hl];have yC:rebL c m f=srt (kp i++f):=(by unfold rebL;rw[aI.o]);rw[yC];exact TG),QK wP.o bQ⟩
        · have fG:Hid (R=none):=h_ (by rw[Hr.o,aN,Vaf (.inr (.inr IL))])
          have ay:((eY:Int) !=0)=true:=(by rw[Va1];omega);clear aN oD Hr HT IL wh sO;go_wp2;go_ret2;exact YS fG.o qt.o
      · have fG:Hid (R=none):=h_ (by rw[Hr.o,aN,Vaf (.inr (.inl IK))])
        have ay:((eX:Int) !=0)=true:=(by rw[Va1];omega);clear aN oD Hr HT IK wh sO;go_wp2;go_ret2;exact YS fG.o qt.o
theorem ZcN {w w':World} {x:Ending} {r:List ByteArray×Nat} (h:TRes w r x w'):∃A cap,x=.returned (.tuple #[.slice A r.1.length cap,.int .i64 (r.2:Int)])/\At w' A (svs r.1)/\Below w.heap.size w w':=by
 obtain⟨v,h1,⟨A,cap,rfl,h2⟩,h3⟩:=h;exact⟨A,cap,h1,h2,h3⟩
theorem Z2d {w w1 w2:World} {b:Nat} (h:Below w.heap.size w w1) (hf:Fr (only b) w1 w2) (hb:w.heap.size<=b):Below w.heap.size w w2:=h.trans (hf.toBelow' h.size (λj hj e=>by have:j=b:=e;omega))
theorem Z6H {w w1 w2:World} {b B:Nat} (h:Below B w w1) (hf:Fr (only b) w1 w2) (hb:B<=b) (hB:B<=w1.heap.size:=by omega):Below B w w2:=h.trans (hf.toBelow' hB (λj hj e=>by have:j=b:=e;omega))
theorem ZcO {w:World} {base size n:Nat} {e:TypeId} {v:Value} {xs:List Value} (h:w.ownsRow base e size v n xs):∀g,v.ownBlock=some g->g<w.heap.size:=λg hg=>(h.lt g hg).2
theorem ZcP {X l:List Int} (h:jnL X=some l):l.length<=4096:=(Z9.1 (Z1J h).1).2.2
theorem ZcQ {r:List UInt8} (h:(dec r 4096).2=0):(dec r 4096).1.length<=4096/\∀s∈(dec r 4096).1,s.size<=128:=by
 unfold dec at h⊢;match hr:YN r,h with
 |none,h=>cases h
 |some l,h=>
  obtain⟨g1,g2⟩:=Z0I hr;simp only at h⊢;split
  ·simp
  ·split
   ·simp
   ·exact⟨g2,g1⟩
theorem Z9p (s:ByteArray) (r:List ByteArray):Q0 (s::r)=match rnum (toL s) 1099511627776 with
  |some (g,[])=>(Q0 r).map ((g:Int)::·)
  |_=>none:=rfl
theorem ZcR (data : ByteArray) (hd : data.size <= 1000000000) (w : World) :
    Calls Tryz.prog 61 #[.string data] w λx w'=>JRes w (Qf (toL data)) x w':=by
  have iK:=h_ (ZN data w);have dM:=h_ (λW (h:RV W w.heap.size data 0)=>Zi h (by omega) 2);match h1:rnum (toL data) 2 with
  |none=>
    obtain⟨e,he,hn⟩:=Y4 h1;rw[Za] at hn;have qw:numR data 0 2=(0,data,e):=hn;have hr:Qf (toL data)=none:=(by unfold Qf;rw[h1]);rw[hr];rw[qw] at dM;have ay:((e:Int) !=0)=true:=(by rw[Va1];omega);clear h1 hn qw hr he;go_enter Tryz.func61,Tryz.ntmps61;go_wp2_with fail;refine(iK.o).mono ?_;rintro x w1 ⟨rfl,bq,a7⟩;have al:=h_ a7;have qx:=h_ (dM.o _ bq);clear bq a7 dM iK;go_wp2_with fail;refine(qx.o).mono ?_;rintro x w2 ⟨rfl,bm,ai⟩;have ak:=h_ (Z2d al.o ai UZz);have He:=h_ (Zb bm);clear bm ai qx;go_wp2_with fail;refine(He.o).mono ?_;rintro x w3 ⟨rfl,rfl⟩;go_wp2;go_ret2;exact X6 rfl ak.o
  |some (c,r)=>
    obtain⟨hn,dN,df⟩:=Zp h1;rw[Za] at hn;have qw:numR data 0 2=(c,bs r,0):=hn;rw[qw] at dM
    have cJ:Qf (toL data)=if c=0 then(if(decn r 4096).2≠0 then none else jnL (decn r 4096).1) else if c=1 then Z42 r else if(dec r 4096).2≠0 then none else match Q0 (dec r 4096).1 with|none=>none|some g=>jnL g:=by
      unfold Qf;rw[h1];rfl
    have TH:r.length<=1000000000:=(by rw[Z1] at df;omega);have cj:(bs r).size=r.length:=Z0 _;have wO:=h_ (Z0d r);have fE:c=0\/c=1\/c=2:=(by omega);clear h1 hn qw df dN;rcases fE with rfl|rfl|rfl
    · rw[Vaf rfl] at cJ
      rw[cJ];have Hx:=h_ (λW=>ZQ (w:=W) r (by omega) 4096);have dV:=(Xv r 4096).2;obtain⟨⟨X,eX⟩,hX⟩:∃r',decn r 4096=r':=⟨_,rfl⟩;rw[hX] at Hx dV⊢;simp only at dV⊢;have BL:=h_ dV;obtain⟨R,hR⟩:∃R,(if eX≠0 then none else jnL X)=R:=⟨_,rfl⟩;rw[hR];have HR:=h_ hR;clear cJ hX dV hR;go_enter Tryz.func61,Tryz.ntmps61;go_wp2_with fail;refine(iK.o).mono ?_;rintro x w1 ⟨rfl,bq,a7⟩;have al:=h_ a7;have qx:=h_ (dM.o _ bq);clear bq a7 dM iK;go_wp2_with fail;refine(qx.o).mono ?_;rintro x w2 ⟨rfl,bm,ai⟩;have ak:=h_ (Z2d al.o ai UZz);have He:=h_ (Zb bm);have HL:=h_ (Zt bm (by show(bs r).size<=_;omega));have HK:=h_ (Zu bm (by show(bs r).size<=_;omega) ((bs r).size:Int));clear bm ai qx al;rw[wO.o] at HK;go_wp2_with fail;refine(He.o).mono ?_;rintro x w3 ⟨rfl,rfl⟩;go_wp2_with fail;refine(HL.o).mono ?_;rintro x w3 ⟨rfl,rfl⟩;go_wp2_with fail;refine(HK.o).mono ?_;rintro x w3 ⟨rfl,eu,aR⟩;have aA:=h_ (Z2d ak.o aR UZz);clear eu aR He HL HK ak wO;simp only;go_wp2_with fail;refine(Hx.o _).mono ?_;rintro x w4 el;obtain⟨Ax,cx,rfl,uf,au⟩:=Z2c el;have aU:=h_ (aA.o.trans (au.mono aA.o.size));have yB:=h_ (show At w4 Ax (ivs X) from uf);clear el uf au aA Hx;simp only;by_cases he:eX=0
      · subst he
        have fP:=HR.o;rw[Vad (by simp)] at fP;have dV:=BL.o;have HJ:=h_ (Z0o yB.o X.length cx rfl (by omega));rw[fP] at HJ;clear dV fP;go_wp2_with fail;refine(HJ.o).mono ?_;rintro x w5 ⟨vm,Et,rfl,lE,hm,aB⟩;have jo:=h_ lE;have Hm:=h_ hm;clear lE hm;go_wp2;go_ret2;exact⟨_,_,rfl,jo.o,Hm.o,aU.o.trans (aB.mono aU.o.size)⟩
      · have jQ:Hid (R=none):=h_ (by rw[<-HR.o,Vaf he])
        have ay:((eX:Int) !=0)=true:=(by rw[Va1];omega);clear he HR;go_wp2;go_ret2;exact X6 jQ.o aU.o
    · rw[Vad (by decide),Vaf rfl] at cJ
      rw[cJ];clear cJ;go_enter Tryz.func61,Tryz.ntmps61;go_wp2_with fail;refine(iK.o).mono ?_;rintro x w1 ⟨rfl,bq,a7⟩;have al:=h_ a7;have qx:=h_ (dM.o _ bq);clear bq a7 dM iK;go_wp2_with fail;refine(qx.o).mono ?_;rintro x w2 ⟨rfl,bm,ai⟩;have ak:=h_ (Z2d al.o ai UZz);have He:=h_ (Zb bm);have HC:=h_ (Z9o bm TH);clear bm ai qx al;go_wp2_with fail;refine(He.o).mono ?_;rintro x w3 ⟨rfl,rfl⟩;go_wp2_with fail;refine(HC.o).mono ?_;rintro x w3 ⟨v,ok,rfl,bH,fu,aR⟩;have ua:=h_ bH;have aI:=h_ fu;have aA:=h_ (Z2d ak.o aR UZz);clear bH fu aR;go_wp2;go_ret2;exact⟨_,_,rfl,ua.o,aI.o,aA.o⟩
    · rw[Vad (by decide),Vad (by decide)] at cJ
      rw[cJ];have Hx:=h_ (λW=>Qx (w:=W) (bs r) (by omega) 4096);rw[Zd] at Hx;have iI:=λh=>ZcQ (r:=r) h;obtain⟨⟨L,eL⟩,hL⟩:∃r',dec r 4096=r':=⟨_,rfl⟩;rw[hL] at Hx iI⊢;simp only at iI⊢;have jA:=h_ iI;obtain⟨R,hR⟩:∃R,(if eL≠0 then none else match Q0 L with|none=>none|some g=>jnL g)=R:=⟨_,rfl⟩;rw[hR];have Ev:=h_ hR;clear cJ hL iI hR;go_enter Tryz.func61,Tryz.ntmps61;go_wp2_with fail;refine(iK.o).mono ?_;rintro x w1 ⟨rfl,bq,a7⟩;have al:=h_ a7;have qx:=h_ (dM.o _ bq);clear bq a7 dM iK;go_wp2_with fail;refine(qx.o).mono ?_;rintro x w2 ⟨rfl,bm,ai⟩;have ak:=h_ (Z2d al.o ai UZz);have He:=h_ (Zb bm);have HL:=h_ (Zt bm (by show(bs r).size<=_;omega));have HK:=h_ (Zu bm (by show(bs r).size<=_;omega) ((bs r).size:Int));clear bm ai qx al;rw[wO.o] at HK;go_wp2_with fail;refine(He.o).mono ?_;rintro x w3 ⟨rfl,rfl⟩;go_wp2_with fail;refine(HL.o).mono ?_;rintro x w3 ⟨rfl,rfl⟩;go_wp2_with fail;refine(HK.o).mono ?_;rintro x w3 ⟨rfl,eu,aR⟩;have aA:=h_ (Z2d ak.o aR UZz);clear eu aR He HL HK ak wO;simp only;go_wp2_with fail;refine(Hx.o _).mono ?_;rintro x w4 el;obtain⟨Ax,cx,rfl,uf,au⟩:=ZcN el;have aU:=h_ (aA.o.trans (au.mono aA.o.size));have yB:=h_ (show At w4 Ax (svs L) from uf);clear el uf au aA Hx;simp only;by_cases he:eL=0
      · have wR:((eL:Int) !=0)=false:=by rw[he];rfl
        have hR:=Ev.o;rw[Vad (by simp[he])] at hR;obtain⟨TI,NA⟩:=jA.o he;have Es:=h_ NA;obtain⟨N,hN⟩:∃N,L.length=N:=⟨_,rfl⟩;rw[hN] at TI;have HN:=h_ hN;have HR:Hid (R=match Q0 L with|none=>none|some g=>jnL g):=h_ hR.symm;clear NA jA hR Ev he;go_upto_region 18 with fail;rw[hN];clear hN;go_wp2;go_loopw [6,55] (λs6 IX wr=>∃(i:Nat) (G:List Int),i<=N/\IX=.int .i64 (i:Int)/\Hid (Q0 L=(Q0 (L.drop i)).map (G++·))/\G.length=i/\Hid (wr.ownsRow w4.heap.size 3 1 s6 G.length (ivs G))/\Hid (Below w4.heap.size w4 wr)) (λ_ IX _=>(N-intOf IX).toNat);case atStart=>exact⟨0,[],Var _,rfl,h_ (by simp),rfl,h_ Zk,h_ (Vae _ _)⟩
        case round=>
          obtain⟨i,G,hi,rfl,rj,NB,aa,eo⟩:=hrel;by_cases ab:i<N
          · have aX:i<L.length:=by rw[HN.o];exact ab
            have jL:L.drop i=L[i]::L.drop (i+1):=Va4 aX;have bu:(svs L)[i]? =some (.string L[i]):=Ys L i aX;have ad:=Es.o L[i] (Vaj _);obtain⟨s,hs⟩:∃s,L[i]=s:=⟨_,rfl⟩;rw[hs] at jL bu ad;obtain⟨b',o',hA,eR,hc⟩:=(yB.o.below eo.o).get i _ bu;subst hA;have gX:=rj.o;rw[jL,Z9p] at gX;have dw:(i:Int)<(N:Int):=(by omega);have iK:=h_ (ZN s wr);have dM:=h_ (λW (h:RV W wr.heap.size s 0)=>Zi h (by omega) 1099511627776);obtain⟨gn,tn,en,hq⟩:∃g t e,numR s 0 1099511627776=(g,t,e):=⟨_,_,_,rfl⟩;rw[hq] at dM;simp only at dM
            have BX:((endR tn en≠0)/\R=none)\/((endR tn en=0)/\Q0 L=(Q0 (L.drop (i+1))).map ((G++[(gn:Int)])++·)):=by
              match h1:rnum (toL s) 1099511627776 with
              |none=>
                obtain⟨e,he,hn⟩:=Y4 h1;rw[Za] at hn;have qw:numR s 0 1099511627776=(0,s,e):=hn;rw[hq] at qw;injection qw with h3 h4;injection h4 with h4 h5;subst h3;subst h4;subst h5;left;rw[h1] at gX;refine⟨?_,by rw[HR.o,gX];rfl⟩;unfold endR;rw[Vad (λh=>he h.1)];exact he
              |some (g,u)=>
                obtain⟨hn,_,_⟩:=Zp h1;rw[Za] at hn;have qw:numR s 0 1099511627776=(g,bs u,0):=hn;rw[hq] at qw;injection qw with h3 h4;injection h4 with h4 h5;subst h3;subst h4;subst h5;rw[h1] at gX;cases u with
                |nil=>
                  right;refine⟨rfl,?_⟩;simp only at gX;rw[gX,Option.map_map];congr 1;funext z;simp
                |cons z u=>
                  left;refine⟨?_,by rw[HR.o,gX];rfl⟩;unfold endR;rw[Vaf ⟨rfl,by rw[Z0];simp⟩];decide
            have sP:=h_ BX;clear aX jL bu hs eR gX rj hq BX;have TJ:=h_ NB;go_wp2_with fail;refine(iK.o).mono ?_;rintro x w5 ⟨rfl,pA,aB⟩;have zz:=h_ (dM.o _ pA);have jy:=Zl aa.o (Fr.of_below (S:=nob) aB) (λg hg h=>h);have BY:=eo.o.trans (aB.mono eo.o.size);have fp:=h_ jy;have wS:=h_ BY;have BZ:=ZcO aa.o;have vM:=eo.o.size;have C0:=h_ BZ;have mD:=h_ vM;clear pA aB jy BY BZ vM iK dM aa eo;go_wp2_with fail;refine(zz.o).mono ?_;rintro x w6 ⟨rfl,ud,ra⟩;have gE:=Zl fp.o ra (λg hg h=>by have h1:=C0.o g hg;have h2:g=wr.heap.size:=h;omega);have wT:=Z6H wS.o ra mD.o wS.o.size;have gk:G.length<=4096:=(by omega);obtain⟨v',w7,ag,ah,aC,aF⟩:=Yr (P:=Tryz.prog) 31 3 _ _ Tryz.underlying31 ZS rfl gE wT wT.size (.int .i64 (gn:Int)) rfl (by unfold maxLen;omega) (by omega);have IY:RV w7 wr.heap.size tn en:=aF _ _ _ ud (by decide);have ar:=h_ ag
            have aJ:Hid (w7.ownsRow w4.heap.size 3 1 v' (G++[(gn:Int)]).length (ivs (G++[(gn:Int)]))):=h_ (by
              rw[Vab,Qw];exact ah)
            have cS:=h_ aC;have dX:=h_ (Z3A IY);have IZ:=h_ (λg hg=>ZcO ah g hg)
            have vb:Hid (∀g,v'.ownBlock=some g->g≠wr.heap.size):=h_ (λg hg he=>by
              subst he;exact absurd (Z3 ah IY (by decide)) (by rw[hg];simp))
            clear ag ah aC aF IY ud ra gE wT gk zz fp wS C0;obtain⟨ee,J0⟩:∃e,endR tn en=e:=⟨_,rfl⟩;rw[J0] at dX sP;clear J0;rcases sP.o with ⟨eK,rC⟩|⟨eK,iT⟩
            · have J1:((ee:Int) !=0)=true:=by rw[Va1];omega
              have gY:=h_ rC;clear eK rC sP
              go_wp2_with (first
                | (at_builtin
                   refine Z4 (by with_reducible rfl) rfl _ _ _ rfl _ _ (by rfl) (by rfl) ar.o ?_)
                | (go_at_call 92
                   refine(dX.o).mono ?_;rintro x w8 ⟨rfl,sy⟩))
              go_ret2;exact X6 gY.o (Z6H (aU.o.trans (cS.o.mono aU.o.size)) sy (by have:=mD.o;have:=aU.o.size;omega) (by have:=cS.o.size;have:=aU.o.size;omega))
            · have J1:((ee:Int) !=0)=false:=by rw[eK];rfl
              have pP:=h_ iT;have NC:(G++[(gn:Int)]).length=i+1:=(by rw[Vab,TJ.o];rfl);have TK:=h_ NC;clear eK iT sP NC
              go_wp2_with (first
                | (at_builtin
                   refine Z4 (by with_reducible rfl) rfl _ _ _ rfl _ _ (by rfl) (by rfl) ar.o ?_)
                | (go_at_call 92
                   refine(dX.o).mono ?_;rintro x w8 ⟨rfl,sy⟩))
              refine⟨⟨i+1,_,ab,by go_num,pP,TK.o,h_ (Zl aJ.o sy (λg hg h=>vb.o g hg h)),h_ (Z6H cS.o sy mD.o cS.o.size)⟩,?_⟩;simp[intOf]<;>omega
          · have mw:i=N:=by omega
            subst mw;have gX:=rj.o;rw[Vbb (by rw[HN.o];exact UZz)] at gX;have C3:Q0 L=some G:=(by rw[gX];simp[Q0]);have bR:R=jnL G:=(by rw[HR.o,C3]);obtain⟨A9,iF,qg,fA⟩:=Zm aa.o;subst qg;have HJ:=h_ (Z0o fA G.length iF rfl (by omega));have bj:=h_ (aU.o.trans (eo.o.mono aU.o.size));rw[<-bR] at HJ;clear rj gX C3 bR fA aa eo NB HR;go_wp2_with fail;refine(HJ.o).mono ?_;rintro x w5 ⟨vm,Et,rfl,lE,hm,aB⟩;have jo:=h_ lE;have Hm:=h_ hm;clear lE hm;go_wp2;go_ret2;exact⟨_,_,rfl,jo.o,Hm.o,bj.o.trans (aB.mono bj.o.size)⟩
      · have jQ:Hid (R=none):=h_ (by rw[<-Ev.o,Vaf he])
        have ay:((eL:Int) !=0)=true:=(by rw[Va1];omega);clear he Ev;go_wp2;go_ret2;exact X6 jQ.o aU.o
theorem Zg4 {c:Clk} {X Y:List Int×Nat} {l:List Int} (h:finC c X Y=some l):l.length<=8192:=by
 unfold finC at h;split at h
 ·cases h
 ·rename_i hc
  have hv:vclk c=true:=by
   cases hv:vclk c with
   |true=>rfl
   |false=>exact absurd (.inl hv) hc
  match h1:jnL X.1,h2:jnL Y.1,h with
  |some m,some x,h=>
   injection h with h;subst h;have h3:=ZcP h2;have h4:=(Yw.1 hv).1.2.1;have h5:=Z5r c m c.n.toNat;have h6:ZaI c m=Z2C c m c.n.toNat:=rfl;unfold rebL;rw[Qy,Vab,h6];omega
theorem ZcS {data:List UInt8} {l:List Int} (h:Qf data=some l):l.length<=8192:=by
 unfold Qf at h;match h1:rnum data 2,h with
 |some (c,r),h=>
  simp only at h;split at h
  ·split at h
   ·cases h
   ·have:=ZcP h;omega
  ·split at h
   ·unfold Z42 at h;match h2:rclk r,h with
    |some (c,a,t),h=>exact Zg4 h
   ·split at h
    ·cases h
    ·match h2:Q0 (dec r 4096).1,h with
     |some g,h=>have:=ZcP h;omega
theorem Z2e {w:World} (data:ByteArray) (hd:data.size<=1000000000) (most:Int):
  Calls Tryz.prog 37 #[.string data,.int .i64 most] w λx w'=>LRes w x w' (decT (toL data) most):=by
 have H1:=h_ (ZcR data hd w);unfold decT;match hr:Qf (toL data) with
 |none=>
  rw[hr] at H1;simp only;clear hr hd;go_enter Tryz.func37,Tryz.ntmps37;go_wp2_with fail;refine(H1.o).mono ?_;rintro x w1 ⟨v,ok,rfl,bH,hs,hb⟩;have jl:ok=false:=bH;subst jl;clear hs bH;go_wp2;go_returns;exact XK 12 hb
 |some l=>
  rw[hr] at H1;simp only;have g2:=ZcS hr;have H2:=h_ (λW A cap (h:At W A (ivs l))=>QT h l.length cap rfl (by omega));obtain⟨⟨X,xe⟩,hX⟩:∃x,encT l=x:=⟨_,rfl⟩;rw[hX] at H2⊢;simp only;clear hr hd hX;by_cases aH:xe≠0\/X≠toL data
  ·rw[Vaf aH]
   have q:((xe:Int) !=0)=true\/(((xe:Int) !=0)=false/\(((bs X).toList !=data.toList)=true/\((bs X).toList==data.toList)=false)):=by
    by_cases hx:xe=0
    ·right;have ay:X≠toL data:=aH.resolve_left (λh=>h hx)
     have h3:((bs X).toList==data.toList)=false:=by
      rw[QI,Vbq];intro h;exact ay (by rw[<-h,Zd])
     refine⟨by rw[hx];rfl,by rw[bne,h3];rfl,h3⟩
    ·left;rw[Va1];omega
   clear aH;rcases q with q|⟨q,q2,q3⟩
   all_goals
    go_enter Tryz.func37,Tryz.ntmps37;go_wp2_with fail;refine(H1.o).mono ?_;rintro x w1 ⟨v,ok,rfl,bH,hs,hb⟩;have jl:ok=true:=bH;subst jl;obtain⟨A,cap,rfl,an⟩:=hs l rfl;have H3:=h_ (H2.o _ _ cap an);clear hs an bH;go_wp2_with fail;refine(H3.o).mono ?_;rintro x w2 ⟨rfl,a8⟩;have aW:=hb.trans (a8.mono hb.size);go_wp2;go_returns;exact XK 12 aW
  ·rw[Vad aH];have hx:xe=0:=(by omega)
   have jV:X=toL data:=by
    rcases Classical.em (X=toL data) with h|h
    ·exact h
    ·exact absurd (.inr h) aH
   subst hx;subst jV;have q2:((bs (toL data)).toList !=data.toList)=false:=(by rw[Za,Vca]);have q3:((bs (toL data)).toList==data.toList)=true:=(by rw[Za,Vcr]);clear aH;by_cases hm:most<(l.length:Int)
   ·rw[Vaf hm];go_enter Tryz.func37,Tryz.ntmps37;go_wp2_with fail;refine(H1.o).mono ?_;rintro x w1 ⟨v,ok,rfl,bH,hs,hb⟩;have jl:ok=true:=bH;subst jl;obtain⟨A,cap,rfl,an⟩:=hs l rfl;have H3:=h_ (H2.o _ _ cap an);clear hs an bH;go_wp2_with fail;refine(H3.o).mono ?_;rintro x w2 ⟨rfl,a8⟩;have aW:=hb.trans (a8.mono hb.size);go_wp2;go_returns;exact XK 2 aW
   ·rw[Vad hm];go_enter Tryz.func37,Tryz.ntmps37;go_wp2_with fail;refine(H1.o).mono ?_;rintro x w1 ⟨v,ok,rfl,bH,hs,hb⟩;have jl:ok=true:=bH;subst jl;obtain⟨A,cap,rfl,an⟩:=hs l rfl;have H3:=h_ (H2.o _ _ cap an);have bJ:=h_ an;clear hs an bH;go_wp2_with fail;refine(H3.o).mono ?_;rintro x w2 ⟨rfl,a8⟩;have aW:=hb.trans (a8.mono hb.size);have bL:=bJ.o.below a8;go_wp2;go_returns;exact⟨_,rfl,⟨A,cap,rfl,bL⟩,aW⟩
end Go.Proofs.YtchokmkfobandaaGreatDoor
