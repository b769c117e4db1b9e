import Derived.Test.YtchokmkfobandaaGreatDoorJ28
set_option linter.unusedVariables false
set_option linter.unusedSimpArgs false
set_option maxRecDepth 100000
set_option maxHeartbeats 8000000
namespace Go.Proofs.YtchokmkfobandaaGreatDoor
open Go.RowKit Go.Proofs Wv Wv.Vi Wv.Rc Wv.Mo Wv.Ru Wv.Tm
def Zku (w:World) (b:Nat) (r:Option (List Int)) (x:Ending) (w':World):Prop:=∃v ok,x=.returned (.tuple #[v,.bool ok])/\ok=r.isSome/\(∀l,r=some l->IRes w' v l)/\Fr (only b) w w'
theorem YS {w w':World} {b:Nat} {r:Option (List Int)} {v:Value} (h:r=none) (hb:Fr (only b) w w'):Zku w b r (.returned (.tuple #[v,.bool false])) w':=⟨_,_,rfl,by rw[h];rfl,(λl h2=>by rw[h] at h2;cases h2),hb⟩
theorem QI {w w1 w2:World} {b:Nat} (h:Fr (only b) w w1) (hb:Below w1.heap.size w1 w2):Fr (only b) w w2:=h.trans (Fr.of_below hb)
theorem ZfY {w w1:World} {b:Nat} (h:Fr (only b) w w1) (o:Obj):Fr (only b) w (w1.alloc o):=QI h ((Vae _ _).alloc UZz o)
def Z2u (c:Clk) (m:List Int) (i:Nat):List Int:=((List.range i).filter (λ(i:Nat)=> !m.contains (i:Int))).map (atC c)
theorem Z9n (c:Clk) (m:List Int) (i:Nat):Z2u c m (i+1)=if m.contains (i:Int)=true then Z2u c m i else Z2u c m i++[atC c i]:=by
 unfold Z2u;rw[Vcr,List.filter_append,Vbk];by_cases h:m.contains (i:Int)=true
 ·rw[Vaf h,List.filter_cons,h];simp
 ·rw[Vad h];simp only[Bool.not_eq_true] at h;rw[List.filter_cons,h];rfl
theorem Z5l (c:Clk) (m:List Int) (i:Nat):(Z2u c m i).length<=i:=by
 unfold Z2u;rw[Vag];have h1:=List.length_filter_le (λ(i:Nat)=> !m.contains (i:Int)) (List.range i);rw[Vbu] at h1;exact h1
theorem ZiE {w w':World} {c:Clk} {x:Ending} (h:Z3X w c x w'):∃v e,x=.returned (.tuple #[v,.int .i64 ((e:Nat):Int)])/\Below w.heap.size w w'/\((e=1/\vclk c=false)\/(e=0/\vclk c=true/\∃g,v=.slice (some ⟨g,0,none⟩) c.n.toNat c.n.toNat/\Bk w' g 3 (ica (ZE c)))):=by
 unfold Z3X at h;by_cases hv:vclk c=true
 ·rw[Vaf hv] at h;obtain⟨g,h1,h2,_,h3⟩:=h;exact⟨_,0,h1,h3,.inr ⟨rfl,hv,g,rfl,h2⟩⟩
 ·rw[Vad hv] at h;exact⟨_,1,h.1,h.2,.inl ⟨rfl,by simpa using hv⟩⟩
theorem Zkv {w w':World} {A:Option Addr} {l:List Int} {b e:Nat} {s s':ByteArray} (h:At w A (ivs l)) (hv:RV w b s e) (oH:RV w' b s' e) (hf:Fr (only b) w w'):At w' A (ivs l):=by
 intro i hi;obtain⟨b',o,hA,hb,hc⟩:=h i hi;refine⟨b',o,hA,Va5 hb hf.size,?_⟩;by_cases aS:b'=b
 ·subst aS;have h1:=Bk.cell hv (o+i);have h2:=Bk.cell oH (o+i);rw[hc] at h1;rw[h2];match o+i,h1 with
  |0,h1=>simp[ivs,iv] at h1
  |1,h1=>simpa using h1.symm
  |k+2,h1=>simp at h1
 ·exact(hf.cell (p:=⟨b',_,none⟩) hb aS).trans hc
theorem Z26 {w w':World} {x:Ending} {r:List Int×Nat} (h:LRes w x w' r):∃A cap,x=.returned (.tuple #[.slice A r.1.length cap,.int .i64 (r.2:Int)])/\At w' A (ivs r.1)/\Below w.heap.size w w':=by
 obtain⟨v,h1,⟨A,cap,rfl,h2⟩,h3⟩:=h;exact⟨A,cap,h1,h2,h3⟩
theorem Z9o {w : World} {b : Nat} {s : List UInt8} (h : RV w b (bs s) 0) (hs : s.length <= 1000000000) :
    Calls Tryz.prog 91 #[.pointer (some ⟨b,0,none⟩)] w λx w'=>Zku w b (Z3V s) x w':=by
  have ag:=Zft s;obtain⟨z1,z2,z3,z4⟩:=Ziq (bs s);have du:(bs s).size=s.length:=Z0 _;rw[du] at z1 z2 z3 z4;obtain⟨n1,t1,x1,h1⟩:∃n t e,q1 (bs s)=(n,t,e):=⟨_,_,_,rfl⟩;obtain⟨n2,t2,x2,h2⟩:∃n t e,q2 (bs s)=(n,t,e):=⟨_,_,_,rfl⟩;obtain⟨n3,t3,x3,h3⟩:∃n t e,q3 (bs s)=(n,t,e):=⟨_,_,_,rfl⟩;obtain⟨n4,t4,x4,h4⟩:∃n t e,q4 (bs s)=(n,t,e):=⟨_,_,_,rfl⟩;obtain⟨a5,t5,x5,h5⟩:∃n t e,q5 (bs s)=(n,t,e):=⟨_,_,_,rfl⟩;rw[h1] at z1 ag;rw[h2] at z2 ag;rw[h3] at z3 ag;rw[h4] at z4 ag;rw[h5] at ag;simp only at z1 z2 z3 z4 ag
  have H1:Hid (Calls Tryz.prog 86 #[.pointer (some ⟨b,0,none⟩),.int .i64 1099511627776] w λx w'=>x=.returned (.int .i64 (n1:Int))/\RV w' b t1 x1/\Fr (only b) w w'):=h_ (by
    have:=Zi h (by omega) 1099511627776;rw[show numR (bs s) 0 1099511627776=(n1,t1,x1) from h1] at this;exact this)
  have H2:Hid (∀W,RV W b t1 x1->Calls Tryz.prog 86 #[.pointer (some ⟨b,0,none⟩),.int .i64 1099511627776] W λx w'=>x=.returned (.int .i64 (n2:Int))/\RV w' b t2 x2/\Fr (only b) W w'):=h_ (λW hW=>by
    have:=Zi hW (by omega) 1099511627776;rw[show numR t1 x1 1099511627776=(n2,t2,x2) by rw[<-h2];unfold q2;rw[h1]] at this;exact this)
  have H3:Hid (∀W,RV W b t2 x2->Calls Tryz.prog 86 #[.pointer (some ⟨b,0,none⟩),.int .i64 1099511627776] W λx w'=>x=.returned (.int .i64 (n3:Int))/\RV w' b t3 x3/\Fr (only b) W w'):=h_ (λW hW=>by
    have:=Zi hW (by omega) 1099511627776;rw[show numR t2 x2 1099511627776=(n3,t3,x3) by rw[<-h3];unfold q3;rw[h2]] at this;exact this)
  have H4:Hid (∀W,RV W b t3 x3->Calls Tryz.prog 86 #[.pointer (some ⟨b,0,none⟩),.int .i64 4096] W λx w'=>x=.returned (.int .i64 (n4:Int))/\RV w' b t4 x4/\Fr (only b) W w'):=h_ (λW hW=>by
    have:=Zi hW (by omega) 4096;rw[show numR t3 x3 4096=(n4,t4,x4) by rw[<-h4];unfold q4;rw[h3]] at this;exact this)
  have HL:Hid (∀W,RV W b t4 x4->Calls Tryz.prog 90 #[.pointer (some ⟨b,0,none⟩)] W λx w'=>x=.returned (.int .i64 (t4.size:Int))/\W=w'):=h_ (λW hW=>Zt hW (by omega))
  have H5:Hid (∀W,RV W b t4 x4->Calls Tryz.prog 137 #[.pointer (some ⟨b,0,none⟩),.int .i64 (t4.size:Int)] W λx w'=>x=.returned (.string a5)/\RV w' b t5 x5/\Fr (only b) W w'):=h_ (λW hW=>by
    have:=ZO hW (by omega) (t4.size:Int);rw[show ZR t4 x4 (t4.size:Int)=(a5,t5,x5) by rw[<-h5];unfold q5;rw[h4]] at this;exact this)
  have HE:Hid (∀W,RV W b t5 x5->Calls Tryz.prog 87 #[.pointer (some ⟨b,0,none⟩)] W λx w'=>x=.returned (.int .i64 (x5:Int))/\W=w'):=h_ (λW hW=>Za hW);have ve:=h_ h.lt;have jD:Z3V s=match rclk s with|none=>none|some (c,a,t)=>finC c (decn a 4096) (decn t 4096):=rfl
  obtain⟨R,hR⟩:∃R,Z3V s=R:=⟨_,rfl⟩;rw[hR] at jD⊢;have gD:=h_ jD;have aq:=h_ ag;have Wz:t4.size<=1000000000:=(by omega);clear h1 h2 h3 h4 h5 jD ag h z1 z2 z3 z4 du hR;go_enter Tryz.func91,Tryz.ntmps91;go_wp2_with fail;refine(H1.o).mono ?_;rintro x w1 ⟨rfl,bk,aC⟩;have cI:=h_ bk;have cP:=h_ aC;clear bk aC H1;go_wp2_with fail;refine(H2.o _ cI.o).mono ?_;rintro x w2 ⟨rfl,bj,ai⟩;have eW:=h_ bj;have cl:=h_ (cP.o.trans ai);clear bj ai H2 cI cP;go_wp2_with fail;refine(H3.o _ eW.o).mono ?_;rintro x w3 ⟨rfl,ei,aO⟩;have yu:=h_ ei;have gN:=h_ (cl.o.trans aO);clear ei aO H3 eW cl;go_wp2_with fail;refine(H4.o _ yu.o).mono ?_;rintro x w4 ⟨rfl,kS,aF⟩;have wP:=gN.o.trans aF;have bh:=h_ (Va5 ve.o wP.size);have Em:=h_ (show RV (w4.alloc (.cells #[.int .i64 (n1:Int),.int .i64 (n2:Int),.int .i64 (n3:Int),.int .i64 (n4:Int)] 96)) b t4 x4 from Bk.alloc kS _);have Eo:=h_ (Bk.new w4 96 #[.int .i64 (n1:Int),.int .i64 (n2:Int),.int .i64 (n3:Int),.int .i64 (n4:Int)]);have cE:=h_ (ZfY wP (.cells #[.int .i64 (n1:Int),.int .i64 (n2:Int),.int .i64 (n3:Int),.int .i64 (n4:Int)] 96));clear kS aF wP H4 yu gN;go_upto_region 2 with fail;obtain⟨Q,hQ⟩:∃Q,w4.heap.size=Q:=⟨_,rfl⟩;obtain⟨W4,By⟩:∃W,w4.alloc (.cells #[.int .i64 (n1:Int),.int .i64 (n2:Int),.int .i64 (n3:Int),.int .i64 (n4:Int)] 96)=W:=⟨_,rfl⟩;rw[hQ] at Eo bh⊢;rw[By] at Em Eo cE⊢;clear hQ By;go_wp2_with fail;refine(HL.o _ Em.o).mono ?_;rintro x w5 ⟨rfl,rfl⟩;go_wp2_with fail;refine(H5.o _ Em.o).mono ?_;rintro x w5 ⟨rfl,pq,rn⟩;have qn:=h_ (Eo.o.fr rn (by show ¬_=_;have:=bh.o;omega));have Ep:=h_ pq;have sr:=h_ (cE.o.trans rn);clear pq rn Em Eo cE H5 HL;go_wp2_with fail;refine(HE.o _ Ep.o).mono ?_;rintro x w6 ⟨rfl,rfl⟩;rcases aq.o with ⟨he,hr⟩|⟨he,y,t,hr,TO,MJ,nZ,fK⟩
  · have Hr:Hid (R=none):=h_ (by rw[gD.o,hr])
    have az:((x5:Int) !=0)=true:=(by rw[Va0];omega);clear hr he aq gD;go_wp2;go_ret2;exact YS Hr.o sr.o
  · subst he
    subst TO;subst MJ;have Hr:Hid (R=finC ⟨(n1:Int),(n2:Int),(n3:Int),(n4:Int)⟩ (decn y 4096) (decn t 4096)):=h_ (by rw[gD.o,hr]);have k0:=qn.o.cell 0;have k1:=qn.o.cell 1;have k2:=qn.o.cell 2;have k3:=qn.o.cell 3;simp at k0 k1 k2 k3;obtain⟨c,hc⟩:∃c:Clk,(⟨(n1:Int),(n2:Int),(n3:Int),(n4:Int)⟩:Clk)=c:=⟨_,rfl⟩;have eD:CV c=.agg #[.int .i64 (n1:Int),.int .i64 (n2:Int),.int .i64 (n3:Int),.int .i64 (n4:Int)]:=(by rw[<-hc];rfl);rw[hc] at Hr;have Ht:=h_ (Z2V c w5);rw[eD] at Ht;clear hr aq gD hc;go_wp2_with fail;refine(Ht.o).mono ?_;rintro x w7 Nr;obtain⟨vT,eT,rfl,eM,hT⟩:=ZiE Nr;have HT:=h_ hT;have II:=h_ (show RV w7 b (bs t) 0 from Bk.below Ep.o eM (Bk.lt Ep.o));have FR:=h_ (QI sr.o eM);have Hx:=h_ (λW=>ZP (w:=W) y (by omega) 4096);have Hy:=h_ (λW=>ZP (w:=W) t (by omega) 4096);have Er:=Xw y 4096;have Es:=Xw t 4096;obtain⟨⟨X,eX⟩,hX⟩:∃r,decn y 4096=r:=⟨_,rfl⟩;obtain⟨⟨Y,eY⟩,hY⟩:∃r,decn t 4096=r:=⟨_,rfl⟩;rw[hX] at Hx Hr Er;rw[hY] at Hy Hr Es;simp only at Er Es;have Bz:=h_ Er.2;have HY:=h_ Es.2;have AY:=Z0a t;have wQ:=h_ AY;have cZ:(bs t).size=t.length:=Z0 _;clear k0 k1 k2 k3 Nr hT eM hX hY Er Es Ht Ep sr qn AY HE;go_wp2_with fail;refine(Hx.o _).mono ?_;rintro x w8 kL;obtain⟨Ax,cx,rfl,ud,lN⟩:=Z26 kL;have yv:=h_ (show RV w8 b (bs t) 0 from Bk.below II.o lN (Bk.lt II.o));have Ns:=h_ (QI FR.o lN);have sL:=h_ lN;have yw:=h_ ud;clear kL lN ud Hx;simp only;have Et:=h_ (Zt yv.o (by rw[cZ];omega));go_wp2_with fail;refine(Et.o).mono ?_;rintro x w9 ⟨rfl,rfl⟩;have IJ:=h_ (Zu yv.o (by rw[cZ];omega) ((bs t).size:Int));rw[wQ.o] at IJ;go_wp2_with fail;refine(IJ.o).mono ?_;rintro x w9 ⟨rfl,qd,nX⟩;simp only;have uf:=h_ (Ns.o.trans nX);have Nt:=h_ (Bk.lt yv.o);have BA:=h_ (Zkv yw.o yv.o qd nX);have Nu:=h_ (λg (hg:Bk w7 g 3 (ica (ZE c)))=>Zkv ((Z7W hg).below sL.o) yv.o qd nX);clear qd Et IJ yv II wQ nX yw sL Ns;go_wp2_with fail;refine(Hy.o _).mono ?_;rintro x nA BD;obtain⟨Ay,cy,rfl,Nv,fy⟩:=Z26 BD;have qo:=h_ (QI uf.o fy);have BF:=h_ (BA.o.below fy);have BG:=h_ (show At nA Ay (ivs Y) from Nv);have sM:=h_ (λg (hg:Bk w7 g 3 (ica (ZE c)))=>(Nu.o g hg).below fy);clear BD Nv fy uf BA Nu Hy;simp only;have aP:finC c (X,eX) (Y,eY)=if vclk c=false\/eX≠0\/eY≠0 then none else match jnL X,jnL Y with|some m,some x=>some (rebL c m x)|_,_=>none:=rfl
    rcases HT.o with ⟨he,ow⟩|⟨he,ow,g,Nw,wk⟩
    · have fG:Hid (R=none):=h_ (by rw[Hr.o,aP,Vaf (.inl ow)])
      subst he;clear aP ow Hr HT;go_wp2;go_ret2;exact YS fG.o qo.o
    · subst he
      by_cases IK:eX=0
      · subst IK
        by_cases IL:eY=0
        · subst IL
          rw[Vad (by rw[ow];simp)] at aP;have bP:=Hr.o;rw[aP] at bP;have lS:=h_ bP;have BH:=h_ (sM.o g wk);obtain⟨aU,_⟩:=Yv.1 ow;have fR:=aU.1;have jz:=aU.2.1;have ry:∀i,i<c.n.toNat->(ZE c)[i]? =some (atC c i):=λi h=>(by simp[ZE,h]);have Bf:∀m,ZaH c m=Z2u c m c.n.toNat:=λm=>rfl;obtain⟨N,hN⟩:∃N,c.n.toNat=N:=⟨_,rfl⟩;rw[hN] at ry Nw Bf;have zR:N<=4096:=(by omega);have AM:=h_ ry;have Nx:=h_ Bf;subst Nw;clear aP bP Hr HT ow wk sM aU ry Bf hN fR jz;have dR:=Bz.o;have IM:=HY.o;have Ny:=h_ (Z0l BF.o X.length cx rfl (by omega));have Nz:=h_ (λW (hW:Below nA.heap.size nA W)=>Z0l (BG.o.below hW) Y.length cy rfl (by omega));clear dR IM;go_wp2_with fail;refine(Ny.o).mono ?_;rintro x E4 ⟨vm,Eu,rfl,lF,hm,gk⟩;have ku:=h_ gk;have Hm:=h_ hm;have jv:=h_ lF;clear gk hm Ny lF;go_wp2_with fail;refine(Nz.o _ ku.o).mono ?_;rintro x sN ⟨vf,IN,rfl,BI,hf,iz⟩;have wR:=h_ (QI (QI qo.o ku.o) iz);have BJ:=h_ ((BH.o.below ku.o).below iz);have qp:=h_ (λl h=>(Hm.o l h).bel iz);have BK:=h_ hf;have nP:=h_ BI;clear iz hf BI Nz Hm BH qo ku BF BG;obtain⟨jm,rh⟩:∃j,jnL X=j:=⟨_,rfl⟩;obtain⟨jf,IP⟩:∃j,jnL Y=j:=⟨_,rfl⟩;have NA:=h_ rh;have NB:=h_ IP;rw[rh] at jv qp lS;rw[IP] at nP BK lS;clear rh IP;cases jm with
          |none=>
            have fG:Hid (R=none):=h_ lS.o;have bH:Eu=false:=jv.o;subst bH;clear jv nP lS qp BK;go_wp2;go_ret2;exact YS fG.o wR.o
          |some m=>
            have bH:Eu=true:=jv.o;subst bH;cases jf with
            |none=>
              have fG:Hid (R=none):=h_ lS.o;have bH:IN=false:=nP.o;subst bH;clear jv nP lS qp BK;go_wp2;go_ret2;exact YS fG.o wR.o
            |some f=>
              have bH:IN=true:=nP.o;subst bH;have fG:Hid (R=some (rebL c m f)):=h_ lS.o;obtain⟨Am,cm,kT,cJ⟩:=X7 (qp.o m rfl);obtain⟨Af,cf,zx,BL⟩:=X7 (BK.o f rfl);subst kT;subst zx;obtain⟨mv,_⟩:=Z1D NA.o;obtain⟨fv,_⟩:=Z1D NB.o;obtain⟨m1,m2,m3⟩:=Z8.1 mv;obtain⟨f1,f2,f3⟩:=Z8.1 fv;have tK:=h_ m1;have qq:=h_ cJ;have IQ:=h_ BL;have gN:=h_ f3;have TP:=h_ m3;have ji:=λi=>Z9n c m i;have bK:=λi=>Z5l c m i;have cj:Z2u c m 0=[]:=rfl;have nu:=Nx.o m;obtain⟨kp,ra⟩:∃kp,Z2u c m=kp:=⟨_,rfl⟩;rw[ra] at ji bK cj nu;have NC:=h_ ji;have IR:=h_ bK;have dy:=h_ cj;have IS:=h_ nu;clear jv nP lS qp BK NA NB mv fv m1 m2 m3 f1 f2 f3 cJ BL ji bK cj nu ra Nx;go_upto_region 15 with fail;go_wp2;go_loopw [16,83] (λki IT wr=>∃i:Nat,i<=N/\IT=.int .i64 (i:Int)/\Hid (wr.ownsRow sN.heap.size 3 1 ki (kp i).length (ivs (kp i)))/\Hid (Below sN.heap.size sN wr)) (λ_ IT _=>(N-intOf IT).toNat);case atStart=>exact⟨0,Vat _,rfl,h_ (by rw[dy.o];exact Zk),h_ (Vae _ _)⟩
              case round=>
                obtain⟨i,hi,rfl,aa,ef⟩:=hrel;by_cases ab:i<N
                · have mV:=AM.o i ab
                  obtain⟨T,hT⟩:∃T,atC c i=T:=⟨_,rfl⟩;have ji:=NC.o i;rw[hT] at mV ji;have iH:(ivs (ZE c))[i]? =some (.int .i64 T):=(by unfold ivs;rw[Vbb,mV];rfl);obtain⟨b',o',hA,eQ,hc⟩:=(BJ.o.below ef.o).get i _ iH;injection hA with hA;injection hA with ll dM;subst ll;subst dM;rw[Vbo] at hc;have kK:=h_ (QQ (qq.o.below ef.o) m.length cm rfl (by have:=TP.o;omega) tK.o (i:Int));have dp:(i:Int)<(N:Int):=(by omega);have bK:=IR.o i;have IU:=h_ bK;cases fg:m.contains (i:Int) with
                  |true=>
                    rw[fg] at kK ji;rw[Vaf rfl] at ji;have wS:=h_ ji;clear mV hT ji iH eQ bK fg;go_wp2_with fail;refine(kK.o).mono ?_;rintro x w3 ⟨⟨p,rfl⟩,q,rfl⟩;go_wp2;refine⟨⟨i+1,ab,by go_num,h_ (by rw[wS.o];exact aa.o),h_ (bdN ef.o q)⟩,?_⟩;simp[intOf]<;>omega
                  |false=>
                    rw[fg] at kK ji;rw[Vad (by simp)] at ji;have wS:=h_ ji;clear mV hT ji iH eQ fg bK;go_wp2_with fail;refine(kK.o).mono ?_;rintro x w3 ⟨⟨p,rfl⟩,q,rfl⟩;have bK:=IU.o;obtain⟨v',Ev,ag,ah,aC,_⟩:=Yq (P:=Tryz.prog) 31 3 _ _ Tryz.underlying31 ZQ rfl (w:=wr.drewN q) aa.o (bdN ef.o q) ef.o.size (.int .i64 T) rfl (by unfold maxLen;omega) (by omega);have aq:=h_ ag
                    have aI:Hid (Ev.ownsRow sN.heap.size 3 1 v' (kp (i+1)).length (ivs (kp (i+1)))):=h_ (by
                      rw[wS.o,Vab,Qu];exact ah)
                    have IV:=h_ aC;clear ag ah aC aa ef bK
                    go_wp2_with (
                      at_builtin;refine Z3 (by with_reducible rfl) rfl _ _ _ rfl _ _ (by rfl) (by rfl) aq.o ?_)
                    refine⟨⟨i+1,ab,by go_num,aI,IV⟩,?_⟩;simp[intOf]<;>omega
                · have lp:i=N:=by omega
                  subst lp;have bK:=IR.o i;have IW:=gN.o;have mY:=IQ.o.below ef.o
                  obtain⟨v',Ev,ag,ah,dm,_⟩:=ZaA (P:=Tryz.prog) 31 3 _ _ Tryz.underlying31 ZQ rfl aa.o mY cf f.length (by simp[ivs]) (λhA=>by
                    subst hA;cases fD:f with
                    |nil=>rfl
                    |cons z r=>
                      rw[fD] at mY;obtain⟨_,_,h0,_⟩:=mY 0 (by simp[ivs]);cases h0) (λy hy=>by
                    obtain⟨z,_,rfl⟩:=Va6.1 hy;rfl) (by unfold maxLen;omega) (by omega) ef.o.size
                  have ug:Below sN.heap.size sN Ev:=ef.o.grown dm ef.o.size (λk hk=>(aa.o.lt k hk).1)
                  have aR:Ev.ownsRow sN.heap.size 3 1 v' ((kp i).length+f.length) (ivs (kp i++f)):=by
                    have e:ivs (kp i++f)=ivs (kp i)++ivs f:=(by simp[ivs]);rw[e];exact ah
                  have TQ:=h_ (ZcI aR (by simp) (by simp;omega) ug);have aq:=h_ ag;have aG:=h_ IS.o;clear bK IW mY ag ah dm ug aR aa ef IR NC AM
                  go_wp2_with (first
                    | (at_builtin
                       refine Z3 (by with_reducible rfl) rfl _ _ _ rfl _ _ (by rfl) (by rfl) aq.o ?_)
                    | (go_at_call 144
                       refine(TQ.o).mono ?_;rintro x w6 ⟨rfl,TR,bY⟩))
                  go_ret2
                  exact⟨_,_,rfl,by rw[fG.o];rfl,(λl hl=>by
                    rw[fG.o] at hl;injection hl with hl;rw[<-hl];have yx:rebL c m f=srt (kp i++f):=(by unfold rebL;rw[aG.o]);rw[yx];exact TR),QI wR.o bY⟩
        · have fG:Hid (R=none):=h_ (by rw[Hr.o,aP,Vaf (.inr (.inr IL))])
          have az:((eY:Int) !=0)=true:=(by rw[Va0];omega);clear aP ow Hr HT IL wk sM;go_wp2;go_ret2;exact YS fG.o qo.o
      · have fG:Hid (R=none):=h_ (by rw[Hr.o,aP,Vaf (.inr (.inl IK))])
        have az:((eX:Int) !=0)=true:=(by rw[Va0];omega);clear aP ow Hr HT IK wk sM;go_wp2;go_ret2;exact YS fG.o qo.o
theorem ZcN {w w':World} {x:Ending} {r:List ByteArray×Nat} (h:TRes w r x w'):∃A cap,x=.returned (.tuple #[.slice A r.1.length cap,.int .i64 (r.2:Int)])/\At w' A (svs r.1)/\Below w.heap.size w w':=by
 obtain⟨v,h1,⟨A,cap,rfl,h2⟩,h3⟩:=h;exact⟨A,cap,h1,h2,h3⟩
theorem Z27 {w w1 w2:World} {b:Nat} (h:Below w.heap.size w w1) (hf:Fr (only b) w1 w2) (hb:w.heap.size<=b):Below w.heap.size w w2:=h.trans (hf.toBelow' h.size (λj hj e=>by have:j=b:=e;omega))
theorem Z6E {w w1 w2:World} {b B:Nat} (h:Below B w w1) (hf:Fr (only b) w1 w2) (hb:B<=b) (hB:B<=w1.heap.size:=by omega):Below B w w2:=h.trans (hf.toBelow' hB (λj hj e=>by have:j=b:=e;omega))
theorem ZcO {w:World} {base size n:Nat} {e:TypeId} {v:Value} {xs:List Value} (h:w.ownsRow base e size v n xs):∀g,v.ownBlock=some g->g<w.heap.size:=λg hg=>(h.lt g hg).2
theorem ZcP {X l:List Int} (h:jnL X=some l):l.length<=4096:=(Z8.1 (Z1D h).1).2.2
theorem ZcQ {r:List UInt8} (h:(dec r 4096).2=0):(dec r 4096).1.length<=4096/\∀s∈(dec r 4096).1,s.size<=128:=by
 unfold dec at h⊢;match hr:YO r,h with
 |none,h=>cases h
 |some l,h=>
  obtain⟨g1,g2⟩:=Z0G hr;simp only at h⊢;split
  ·simp
  ·split
   ·simp
   ·exact⟨g2,g1⟩
theorem Z9p (s:ByteArray) (r:List ByteArray):XY (s::r)=match rnum (toL s) 1099511627776 with
  |some (g,[])=>(XY r).map ((g:Int)::·)
  |_=>none:=rfl
theorem ZcR (data : ByteArray) (hd : data.size <= 1000000000) (w : World) :
    Calls Tryz.prog 61 #[.string data] w λx w'=>JRes w (Qd (toL data)) x w':=by
  have iN:=h_ (ZN data w);have dH:=h_ (λW (h:RV W w.heap.size data 0)=>Zi h (by omega) 2);match h1:rnum (toL data) 2 with
  |none=>
    obtain⟨e,he,hn⟩:=Y1 h1;rw[Zc] at hn;have qs:numR data 0 2=(0,data,e):=hn;have hr:Qd (toL data)=none:=(by unfold Qd;rw[h1]);rw[hr];rw[qs] at dH;have az:((e:Int) !=0)=true:=(by rw[Va0];omega);clear h1 hn qs hr he;go_enter Tryz.func61,Tryz.ntmps61;go_wp2_with fail;refine(iN.o).mono ?_;rintro x w1 ⟨rfl,bk,a7⟩;have ao:=h_ a7;have qt:=h_ (dH.o _ bk);clear bk a7 dH iN;go_wp2_with fail;refine(qt.o).mono ?_;rintro x w2 ⟨rfl,bj,ai⟩;have an:=h_ (Z27 ao.o ai UZz);have He:=h_ (Za bj);clear bj ai qt;go_wp2_with fail;refine(He.o).mono ?_;rintro x w3 ⟨rfl,rfl⟩;go_wp2;go_ret2;exact X6 rfl an.o
  |some (c,r)=>
    obtain⟨hn,dI,dc⟩:=Zp h1;rw[Zc] at hn;have qs:numR data 0 2=(c,bs r,0):=hn;rw[qs] at dH
    have cG:Qd (toL data)=if c=0 then(if(decn r 4096).2≠0 then none else jnL (decn r 4096).1) else if c=1 then Z3V r else if(dec r 4096).2≠0 then none else match XY (dec r 4096).1 with|none=>none|some g=>jnL g:=by
      unfold Qd;rw[h1];rfl
    have TU:r.length<=1000000000:=(by rw[Z1] at dc;omega);have cZ:(bs r).size=r.length:=Z0 _;have wQ:=h_ (Z0a r);have fE:c=0\/c=1\/c=2:=(by omega);clear h1 hn qs dc dI;rcases fE with rfl|rfl|rfl
    · rw[Vaf rfl] at cG
      rw[cG];have Hx:=h_ (λW=>ZP (w:=W) r (by omega) 4096);have dR:=(Xw r 4096).2;obtain⟨⟨X,eX⟩,hX⟩:∃r',decn r 4096=r':=⟨_,rfl⟩;rw[hX] at Hx dR⊢;simp only at dR⊢;have Bz:=h_ dR;obtain⟨R,hR⟩:∃R,(if eX≠0 then none else jnL X)=R:=⟨_,rfl⟩;rw[hR];have HR:=h_ hR;clear cG hX dR hR;go_enter Tryz.func61,Tryz.ntmps61;go_wp2_with fail;refine(iN.o).mono ?_;rintro x w1 ⟨rfl,bk,a7⟩;have ao:=h_ a7;have qt:=h_ (dH.o _ bk);clear bk a7 dH iN;go_wp2_with fail;refine(qt.o).mono ?_;rintro x w2 ⟨rfl,bj,ai⟩;have an:=h_ (Z27 ao.o ai UZz);have He:=h_ (Za bj);have HL:=h_ (Zt bj (by show(bs r).size<=_;omega));have HK:=h_ (Zu bj (by show(bs r).size<=_;omega) ((bs r).size:Int));clear bj ai qt ao;rw[wQ.o] at HK;go_wp2_with fail;refine(He.o).mono ?_;rintro x w3 ⟨rfl,rfl⟩;go_wp2_with fail;refine(HL.o).mono ?_;rintro x w3 ⟨rfl,rfl⟩;go_wp2_with fail;refine(HK.o).mono ?_;rintro x w3 ⟨rfl,ei,aO⟩;have aJ:=h_ (Z27 an.o aO UZz);clear ei aO He HL HK an wQ;simp only;go_wp2_with fail;refine(Hx.o _).mono ?_;rintro x w4 eu;obtain⟨Ax,cx,rfl,ud,ax⟩:=Z26 eu;have bh:=h_ (aJ.o.trans (ax.mono aJ.o.size));have yw:=h_ (show At w4 Ax (ivs X) from ud);clear eu ud ax aJ Hx;simp only;by_cases he:eX=0
      · subst he
        have fQ:=HR.o;rw[Vad (by simp)] at fQ;have dR:=Bz.o;have HJ:=h_ (Z0l yw.o X.length cx rfl (by omega));rw[fQ] at HJ;clear dR fQ;go_wp2_with fail;refine(HJ.o).mono ?_;rintro x w5 ⟨vm,Eu,rfl,lF,hm,aH⟩;have jv:=h_ lF;have Hm:=h_ hm;clear lF hm;go_wp2;go_ret2;exact⟨_,_,rfl,jv.o,Hm.o,bh.o.trans (aH.mono bh.o.size)⟩
      · have jX:Hid (R=none):=h_ (by rw[<-HR.o,Vaf he])
        have az:((eX:Int) !=0)=true:=(by rw[Va0];omega);clear he HR;go_wp2;go_ret2;exact X6 jX.o bh.o
    · rw[Vad (by decide),Vaf rfl] at cG
      rw[cG];clear cG;go_enter Tryz.func61,Tryz.ntmps61;go_wp2_with fail;refine(iN.o).mono ?_;rintro x w1 ⟨rfl,bk,a7⟩;have ao:=h_ a7;have qt:=h_ (dH.o _ bk);clear bk a7 dH iN;go_wp2_with fail;refine(qt.o).mono ?_;rintro x w2 ⟨rfl,bj,ai⟩;have an:=h_ (Z27 ao.o ai UZz);have He:=h_ (Za bj);have HC:=h_ (Z9o bj TU);clear bj ai qt ao;go_wp2_with fail;refine(He.o).mono ?_;rintro x w3 ⟨rfl,rfl⟩;go_wp2_with fail;refine(HC.o).mono ?_;rintro x w3 ⟨v,ok,rfl,bH,fp,aO⟩;have u7:=h_ bH;have aG:=h_ fp;have aJ:=h_ (Z27 an.o aO UZz);clear bH fp aO;go_wp2;go_ret2;exact⟨_,_,rfl,u7.o,aG.o,aJ.o⟩
    · rw[Vad (by decide),Vad (by decide)] at cG
      rw[cG];have Hx:=h_ (λW=>Qv (w:=W) (bs r) (by omega) 4096);rw[Ze] at Hx;have iL:=λh=>ZcQ (r:=r) h;obtain⟨⟨L,eL⟩,hL⟩:∃r',dec r 4096=r':=⟨_,rfl⟩;rw[hL] at Hx iL⊢;simp only at iL⊢;have jG:=h_ iL;obtain⟨R,hR⟩:∃R,(if eL≠0 then none else match XY L with|none=>none|some g=>jnL g)=R:=⟨_,rfl⟩;rw[hR];have yy:=h_ hR;clear cG hL iL hR;go_enter Tryz.func61,Tryz.ntmps61;go_wp2_with fail;refine(iN.o).mono ?_;rintro x w1 ⟨rfl,bk,a7⟩;have ao:=h_ a7;have qt:=h_ (dH.o _ bk);clear bk a7 dH iN;go_wp2_with fail;refine(qt.o).mono ?_;rintro x w2 ⟨rfl,bj,ai⟩;have an:=h_ (Z27 ao.o ai UZz);have He:=h_ (Za bj);have HL:=h_ (Zt bj (by show(bs r).size<=_;omega));have HK:=h_ (Zu bj (by show(bs r).size<=_;omega) ((bs r).size:Int));clear bj ai qt ao;rw[wQ.o] at HK;go_wp2_with fail;refine(He.o).mono ?_;rintro x w3 ⟨rfl,rfl⟩;go_wp2_with fail;refine(HL.o).mono ?_;rintro x w3 ⟨rfl,rfl⟩;go_wp2_with fail;refine(HK.o).mono ?_;rintro x w3 ⟨rfl,ei,aO⟩;have aJ:=h_ (Z27 an.o aO UZz);clear ei aO He HL HK an wQ;simp only;go_wp2_with fail;refine(Hx.o _).mono ?_;rintro x w4 eu;obtain⟨Ax,cx,rfl,ud,ax⟩:=ZcN eu;have bh:=h_ (aJ.o.trans (ax.mono aJ.o.size));have yw:=h_ (show At w4 Ax (svs L) from ud);clear eu ud ax aJ Hx;simp only;by_cases he:eL=0
      · have uh:((eL:Int) !=0)=false:=by rw[he];rfl
        have hR:=yy.o;rw[Vad (by simp[he])] at hR;obtain⟨TV,ND⟩:=jG.o he;have Et:=h_ ND;obtain⟨N,hN⟩:∃N,L.length=N:=⟨_,rfl⟩;rw[hN] at TV;have HN:=h_ hN;have HR:Hid (R=match XY L with|none=>none|some g=>jnL g):=h_ hR.symm;clear ND jG hR yy he;go_upto_region 18 with fail;rw[hN];clear hN;go_wp2;go_loopw [6,55] (λs6 IX wr=>∃(i:Nat) (G:List Int),i<=N/\IX=.int .i64 (i:Int)/\Hid (XY L=(XY (L.drop i)).map (G++·))/\G.length=i/\Hid (wr.ownsRow w4.heap.size 3 1 s6 G.length (ivs G))/\Hid (Below w4.heap.size w4 wr)) (λ_ IX _=>(N-intOf IX).toNat);case atStart=>exact⟨0,[],Vat _,rfl,h_ (by simp),rfl,h_ Zk,h_ (Vae _ _)⟩
        case round=>
          obtain⟨i,G,hi,rfl,r9,NF,aa,ef⟩:=hrel;by_cases ab:i<N
          · have bu:i<L.length:=by rw[HN.o];exact ab
            have jS:L.drop i=L[i]::L.drop (i+1):=Va4 bu;have bm:(svs L)[i]? =some (.string L[i]):=Yr L i bu;have ad:=Et.o L[i] (Vak _);obtain⟨s,hs⟩:∃s,L[i]=s:=⟨_,rfl⟩;rw[hs] at jS bm ad;obtain⟨b',o',hA,eQ,hc⟩:=(yw.o.below ef.o).get i _ bm;subst hA;have gX:=r9.o;rw[jS,Z9p] at gX;have dp:(i:Int)<(N:Int):=(by omega);have iN:=h_ (ZN s wr);have dH:=h_ (λW (h:RV W wr.heap.size s 0)=>Zi h (by omega) 1099511627776);obtain⟨gn,tn,en,hq⟩:∃g t e,numR s 0 1099511627776=(g,t,e):=⟨_,_,_,rfl⟩;rw[hq] at dH;simp only at dH
            have BM:((endR tn en≠0)/\R=none)\/((endR tn en=0)/\XY L=(XY (L.drop (i+1))).map ((G++[(gn:Int)])++·)):=by
              match h1:rnum (toL s) 1099511627776 with
              |none=>
                obtain⟨e,he,hn⟩:=Y1 h1;rw[Zc] at hn;have qs:numR s 0 1099511627776=(0,s,e):=hn;rw[hq] at qs;injection qs with h3 h4;injection h4 with h4 h5;subst h3;subst h4;subst h5;left;rw[h1] at gX;refine⟨?_,by rw[HR.o,gX];rfl⟩;unfold endR;rw[Vad (λh=>he h.1)];exact he
              |some (g,u)=>
                obtain⟨hn,_,_⟩:=Zp h1;rw[Zc] at hn;have qs:numR s 0 1099511627776=(g,bs u,0):=hn;rw[hq] at qs;injection qs with h3 h4;injection h4 with h4 h5;subst h3;subst h4;subst h5;rw[h1] at gX;cases u with
                |nil=>
                  right;refine⟨rfl,?_⟩;simp only at gX;rw[gX,Option.map_map];congr 1;funext z;simp
                |cons z u=>
                  left;refine⟨?_,by rw[HR.o,gX];rfl⟩;unfold endR;rw[Vaf ⟨rfl,by rw[Z0];simp⟩];decide
            have sO:=h_ BM;clear bu jS bm hs eQ gX r9 hq BM;have TW:=h_ NF;go_wp2_with fail;refine(iN.o).mono ?_;rintro x w5 ⟨rfl,pq,aH⟩;have zq:=h_ (dH.o _ pq);have jE:=Zn aa.o (Fr.of_below (S:=nob) aH) (λg hg h=>h);have BN:=ef.o.trans (aH.mono ef.o.size);have fl:=h_ jE;have wT:=h_ BN;have BO:=ZcO aa.o;have vP:=ef.o.size;have BP:=h_ BO;have mz:=h_ vP;clear pq aH jE BN BO vP iN dH aa ef;go_wp2_with fail;refine(zq.o).mono ?_;rintro x w6 ⟨rfl,ub,qZ⟩;have gE:=Zn fl.o qZ (λg hg h=>by have h1:=BP.o g hg;have h2:g=wr.heap.size:=h;omega);have wU:=Z6E wT.o qZ mz.o wT.o.size;have gl:G.length<=4096:=(by omega);obtain⟨v',w7,ag,ah,aC,aD⟩:=Yq (P:=Tryz.prog) 31 3 _ _ Tryz.underlying31 ZQ rfl gE wU wU.size (.int .i64 (gn:Int)) rfl (by unfold maxLen;omega) (by omega);have IY:RV w7 wr.heap.size tn en:=aD _ _ _ ub (by decide);have aq:=h_ ag
            have aI:Hid (w7.ownsRow w4.heap.size 3 1 v' (G++[(gn:Int)]).length (ivs (G++[(gn:Int)]))):=h_ (by
              rw[Vab,Qu];exact ah)
            have cP:=h_ aC;have dT:=h_ (Z3s IY);have IZ:=h_ (λg hg=>ZcO ah g hg)
            have vb:Hid (∀g,v'.ownBlock=some g->g≠wr.heap.size):=h_ (λg hg he=>by
              subst he;exact absurd (Z2 ah IY (by decide)) (by rw[hg];simp))
            clear ag ah aC aD IY ub qZ gE wU gl zq fl wT BP;obtain⟨ee,NG⟩:∃e,endR tn en=e:=⟨_,rfl⟩;rw[NG] at dT sO;clear NG;rcases sO.o with ⟨dU,rA⟩|⟨dU,j0⟩
            · have J0:((ee:Int) !=0)=true:=by rw[Va0];omega
              have gY:=h_ rA;clear dU rA sO
              go_wp2_with (first
                | (at_builtin
                   refine Z3 (by with_reducible rfl) rfl _ _ _ rfl _ _ (by rfl) (by rfl) aq.o ?_)
                | (go_at_call 92
                   refine(dT.o).mono ?_;rintro x w8 ⟨rfl,su⟩))
              go_ret2;exact X6 gY.o (Z6E (bh.o.trans (cP.o.mono bh.o.size)) su (by have:=mz.o;have:=bh.o.size;omega) (by have:=cP.o.size;have:=bh.o.size;omega))
            · have J0:((ee:Int) !=0)=false:=by rw[dU];rfl
              have pL:=h_ j0;have NH:(G++[(gn:Int)]).length=i+1:=(by rw[Vab,TW.o];rfl);have TX:=h_ NH;clear dU j0 sO NH
              go_wp2_with (first
                | (at_builtin
                   refine Z3 (by with_reducible rfl) rfl _ _ _ rfl _ _ (by rfl) (by rfl) aq.o ?_)
                | (go_at_call 92
                   refine(dT.o).mono ?_;rintro x w8 ⟨rfl,su⟩))
              refine⟨⟨i+1,_,ab,by go_num,pL,TX.o,h_ (Zn aI.o su (λg hg h=>vb.o g hg h)),h_ (Z6E cP.o su mz.o cP.o.size)⟩,?_⟩;simp[intOf]<;>omega
          · have lp:i=N:=by omega
            subst lp;have gX:=r9.o;rw[Vbf (by rw[HN.o];exact UZz)] at gX;have BQ:XY L=some G:=(by rw[gX];simp[XY]);have bP:R=jnL G:=(by rw[HR.o,BQ]);obtain⟨A9,iF,qd,fx⟩:=Zl aa.o;subst qd;have HJ:=h_ (Z0l fx G.length iF rfl (by omega));have bE:=h_ (bh.o.trans (ef.o.mono bh.o.size));rw[<-bP] at HJ;clear r9 gX BQ bP fx aa ef NF HR;go_wp2_with fail;refine(HJ.o).mono ?_;rintro x w5 ⟨vm,Eu,rfl,lF,hm,aH⟩;have jv:=h_ lF;have Hm:=h_ hm;clear lF hm;go_wp2;go_ret2;exact⟨_,_,rfl,jv.o,Hm.o,bE.o.trans (aH.mono bE.o.size)⟩
      · have jX:Hid (R=none):=h_ (by rw[<-yy.o,Vaf he])
        have az:((eL:Int) !=0)=true:=(by rw[Va0];omega);clear he yy;go_wp2;go_ret2;exact X6 jX.o bh.o
theorem ZfZ {c:Clk} {X Y:List Int×Nat} {l:List Int} (h:finC c X Y=some l):l.length<=8192:=by
 unfold finC at h;split at h
 ·cases h
 ·rename_i hc
  have hv:vclk c=true:=by
   cases hv:vclk c with
   |true=>rfl
   |false=>exact absurd (.inl hv) hc
  match h1:jnL X.1,h2:jnL Y.1,h with
  |some m,some x,h=>
   injection h with h;subst h;have h3:=ZcP h2;have h4:=(Yv.1 hv).1.2.1;have h5:=Z5l c m c.n.toNat;have h6:ZaH c m=Z2u c m c.n.toNat:=rfl;unfold rebL;rw[Qx,Vab,h6];omega
theorem ZcS {data:List UInt8} {l:List Int} (h:Qd data=some l):l.length<=8192:=by
 unfold Qd at h;match h1:rnum data 2,h with
 |some (c,r),h=>
  simp only at h;split at h
  ·split at h
   ·cases h
   ·have:=ZcP h;omega
  ·split at h
   ·unfold Z3V at h;match h2:rclk r,h with
    |some (c,a,t),h=>exact ZfZ h
   ·split at h
    ·cases h
    ·match h2:XY (dec r 4096).1,h with
     |some g,h=>have:=ZcP h;omega
theorem Z28 {w:World} (data:ByteArray) (hd:data.size<=1000000000) (most:Int):
  Calls Tryz.prog 37 #[.string data,.int .i64 most] w λx w'=>LRes w x w' (decT (toL data) most):=by
 have H1:=h_ (ZcR data hd w);unfold decT;match hr:Qd (toL data) with
 |none=>
  rw[hr] at H1;simp only;clear hr hd;go_enter Tryz.func37,Tryz.ntmps37;go_wp2_with fail;refine(H1.o).mono ?_;rintro x w1 ⟨v,ok,rfl,bH,hs,hb⟩;have ju:ok=false:=bH;subst ju;clear hs bH;go_wp2;go_returns;exact XL 12 hb
 |some l=>
  rw[hr] at H1;simp only;have g2:=ZcS hr;have H2:=h_ (λW A cap (h:At W A (ivs l))=>Z22 h l.length cap rfl (by omega));obtain⟨⟨X,xe⟩,hX⟩:∃x,encT l=x:=⟨_,rfl⟩;rw[hX] at H2⊢;simp only;clear hr hd hX;by_cases au:xe≠0\/X≠toL data
  ·rw[Vaf au]
   have q:((xe:Int) !=0)=true\/(((xe:Int) !=0)=false/\(((bs X).toList !=data.toList)=true/\((bs X).toList==data.toList)=false)):=by
    by_cases hx:xe=0
    ·right;have az:X≠toL data:=au.resolve_left (λh=>h hx)
     have h3:((bs X).toList==data.toList)=false:=by
      rw[QG,Vbp];intro h;exact az (by rw[<-h,Ze])
     refine⟨by rw[hx];rfl,by rw[bne,h3];rfl,h3⟩
    ·left;rw[Va0];omega
   clear au;rcases q with q|⟨q,q2,q3⟩
   all_goals
    go_enter Tryz.func37,Tryz.ntmps37;go_wp2_with fail;refine(H1.o).mono ?_;rintro x w1 ⟨v,ok,rfl,bH,hs,hb⟩;have ju:ok=true:=bH;subst ju;obtain⟨A,cap,rfl,ak⟩:=hs l rfl;have H3:=h_ (H2.o _ _ cap ak);clear hs ak bH;go_wp2_with fail;refine(H3.o).mono ?_;rintro x w2 ⟨rfl,a8⟩;have aS:=hb.trans (a8.mono hb.size);go_wp2;go_returns;exact XL 12 aS
  ·rw[Vad au];have hx:xe=0:=(by omega)
   have kh:X=toL data:=by
    rcases Classical.em (X=toL data) with h|h
    ·exact h
    ·exact absurd (.inr h) au
   subst hx;subst kh;have q2:((bs (toL data)).toList !=data.toList)=false:=(by rw[Zc,Vb5]);have q3:((bs (toL data)).toList==data.toList)=true:=(by rw[Zc,beq_self_eq_true]);clear au;by_cases hm:most<(l.length:Int)
   ·rw[Vaf hm];go_enter Tryz.func37,Tryz.ntmps37;go_wp2_with fail;refine(H1.o).mono ?_;rintro x w1 ⟨v,ok,rfl,bH,hs,hb⟩;have ju:ok=true:=bH;subst ju;obtain⟨A,cap,rfl,ak⟩:=hs l rfl;have H3:=h_ (H2.o _ _ cap ak);clear hs ak bH;go_wp2_with fail;refine(H3.o).mono ?_;rintro x w2 ⟨rfl,a8⟩;have aS:=hb.trans (a8.mono hb.size);go_wp2;go_returns;exact XL 2 aS
   ·rw[Vad hm];go_enter Tryz.func37,Tryz.ntmps37;go_wp2_with fail;refine(H1.o).mono ?_;rintro x w1 ⟨v,ok,rfl,bH,hs,hb⟩;have ju:ok=true:=bH;subst ju;obtain⟨A,cap,rfl,ak⟩:=hs l rfl;have H3:=h_ (H2.o _ _ cap ak);have bD:=h_ ak;clear hs ak bH;go_wp2_with fail;refine(H3.o).mono ?_;rintro x w2 ⟨rfl,a8⟩;have aS:=hb.trans (a8.mono hb.size);have bL:=bD.o.below a8;go_wp2;go_returns;exact⟨_,rfl,⟨A,cap,rfl,bL⟩,aS⟩
end Go.Proofs.YtchokmkfobandaaGreatDoor
