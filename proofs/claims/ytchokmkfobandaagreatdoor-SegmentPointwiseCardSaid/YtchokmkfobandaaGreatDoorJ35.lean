import Derived.Test.YtchokmkfobandaaGreatDoorJ32
set_option linter.unusedVariables false
set_option linter.unusedSimpArgs false
set_option maxRecDepth 100000
set_option maxHeartbeats 8000000
namespace Go.Proofs.YtchokmkfobandaaGreatDoor
open Go.RowKit Go.Proofs Wv Wv.Vi Wv.Rc Wv.Mo Wv.Ru Wv.Tm
def Zo5 (w:World) (b:Nat) (r:Option (List Int)) (x:Ending) (w':World):Prop:=∃v ok,x=.returned (.tuple #[v,.bool ok])/\ok=r.isSome/\(∀l,r=some l->IRes w' v l)/\Fr (only b) w w'
theorem Z1O {w w':World} {b:Nat} {r:Option (List Int)} {v:Value} (h:r=none) (hb:Fr (only b) w w'):Zo5 w b r (.returned (.tuple #[v,.bool false])) w':=⟨_,_,rfl,by rw[h];rfl,(λl h2=>by rw[h] at h2;cases h2),hb⟩
theorem Z3H {w w1 w2:World} {b:Nat} (h:Fr (only b) w w1) (hb:Below w1.heap.size w1 w2):Fr (only b) w w2:=h.trans (Fr.of_below hb)
theorem ZjK {w w1:World} {b:Nat} (h:Fr (only b) w w1) (o:Obj):Fr (only b) w (w1.alloc o):=Z3H h ((Below.refl _ _).alloc (Nat.le_refl _) o)
def Z6p (c:Clk) (m:List Int) (i:Nat):List Int:=((List.range i).filter (λ(i:Nat)=> !m.contains (i:Int))).map (atC c)
theorem Zdj (c:Clk) (m:List Int) (i:Nat):Z6p c m (i+1)=if m.contains (i:Int)=true then Z6p c m i else Z6p c m i++[atC c i]:=by
 unfold Z6p;rw[List.range_succ,List.filter_append,List.map_append];by_cases h:m.contains (i:Int)=true
 ·rw[if_pos h,List.filter_cons,h];simp
 ·rw[if_neg h];simp only[Bool.not_eq_true] at h;rw[List.filter_cons,h];rfl
theorem Z9o (c:Clk) (m:List Int) (i:Nat):(Z6p c m i).length<=i:=by
 unfold Z6p;rw[List.length_map];have h1:=List.length_filter_le (λ(i:Nat)=> !m.contains (i:Int)) (List.range i);rw[List.length_range] at h1;exact h1
theorem Zmk {w w':World} {c:Clk} {x:Ending} (h:Z7W w c x w'):∃v e,x=.returned (.tuple #[v,.int .i64 ((e:Nat):Int)])/\Below w.heap.size w w'/\((e=1/\vclk c=false)\/(e=0/\vclk c=true/\∃g,v=.slice (some ⟨g,0,none⟩) c.n.toNat c.n.toNat/\Bk w' g 3 (ica (Z0E c)))):=by
 unfold Z7W at h;by_cases hv:vclk c=true
 ·rw[if_pos hv] at h;obtain⟨g,h1,h2,_,h3⟩:=h;exact⟨_,0,h1,h3,.inr ⟨rfl,hv,g,rfl,h2⟩⟩
 ·rw[if_neg hv] at h;exact⟨_,1,h.1,h.2,.inl ⟨rfl,by simpa using hv⟩⟩
theorem Zo6 {w w':World} {A:Option Addr} {l:List Int} {b e:Nat} {s s':ByteArray} (h:At w A (ivs l)) (hv:RV w b s e) (oe:RV w' b s' e) (hf:Fr (only b) w w'):At w' A (ivs l):=by
 intro i hi;obtain⟨b',o,hA,hb,hc⟩:=h i hi;refine⟨b',o,hA,Nat.lt_of_lt_of_le hb hf.size,?_⟩;by_cases aQ:b'=b
 ·subst aQ;have h1:=Bk.cell hv (o+i);have h2:=Bk.cell oe (o+i);rw[hc] at h1;rw[h2];match o+i,h1 with
  |0,h1=>simp[ivs,iv] at h1
  |1,h1=>simpa using h1.symm
  |k+2,h1=>simp at h1
 ·exact(hf.cell (p:=⟨b',_,none⟩) hb aQ).trans hc
theorem Z64 {w w':World} {x:Ending} {r:List Int×Nat} (h:LRes w x w' r):∃A cap,x=.returned (.tuple #[.slice A r.1.length cap,.int .i64 (r.2:Int)])/\At w' A (ivs r.1)/\Below w.heap.size w w':=by
 obtain⟨v,h1,⟨A,cap,rfl,h2⟩,h3⟩:=h;exact⟨A,cap,h1,h2,h3⟩
theorem Zdk {w : World} {b : Nat} {s : List UInt8} (h : RV w b (bs s) 0) (hs : s.length <= 1000000000) :
    Calls Tryz.prog 91 #[.pointer (some ⟨b,0,none⟩)] w λx w'=>Zo5 w b (Z7U s) x w':=by
  have ag:=Zjc s;obtain⟨z1,z2,z3,z4⟩:=Zm2 (bs s);have dp:(bs s).size=s.length:=Z00 _;rw[dp] at z1 z2 z3 z4;obtain⟨n1,t1,x1,h1⟩:∃n t e,q1 (bs s)=(n,t,e):=⟨_,_,_,rfl⟩;obtain⟨n2,t2,x2,h2⟩:∃n t e,q2 (bs s)=(n,t,e):=⟨_,_,_,rfl⟩;obtain⟨n3,t3,x3,h3⟩:∃n t e,q3 (bs s)=(n,t,e):=⟨_,_,_,rfl⟩;obtain⟨n4,t4,x4,h4⟩:∃n t e,q4 (bs s)=(n,t,e):=⟨_,_,_,rfl⟩;obtain⟨a5,t5,x5,h5⟩:∃n t e,q5 (bs s)=(n,t,e):=⟨_,_,_,rfl⟩;rw[h1] at z1 ag;rw[h2] at z2 ag;rw[h3] at z3 ag;rw[h4] at z4 ag;rw[h5] at ag;simp only at z1 z2 z3 z4 ag
  have H1:Hid (Calls Tryz.prog 86 #[.pointer (some ⟨b,0,none⟩),.int .i64 1099511627776] w λx w'=>x=.returned (.int .i64 (n1:Int))/\RV w' b t1 x1/\Fr (only b) w w'):=h_ (by
    have:=Z0h h (by omega) 1099511627776;rw[show numR (bs s) 0 1099511627776=(n1,t1,x1) from h1] at this;exact this)
  have H2:Hid (∀W,RV W b t1 x1->Calls Tryz.prog 86 #[.pointer (some ⟨b,0,none⟩),.int .i64 1099511627776] W λx w'=>x=.returned (.int .i64 (n2:Int))/\RV w' b t2 x2/\Fr (only b) W w'):=h_ (λW hW=>by
    have:=Z0h hW (by omega) 1099511627776;rw[show numR t1 x1 1099511627776=(n2,t2,x2) by rw[<-h2];unfold q2;rw[h1]] at this;exact this)
  have H3:Hid (∀W,RV W b t2 x2->Calls Tryz.prog 86 #[.pointer (some ⟨b,0,none⟩),.int .i64 1099511627776] W λx w'=>x=.returned (.int .i64 (n3:Int))/\RV w' b t3 x3/\Fr (only b) W w'):=h_ (λW hW=>by
    have:=Z0h hW (by omega) 1099511627776;rw[show numR t2 x2 1099511627776=(n3,t3,x3) by rw[<-h3];unfold q3;rw[h2]] at this;exact this)
  have H4:Hid (∀W,RV W b t3 x3->Calls Tryz.prog 86 #[.pointer (some ⟨b,0,none⟩),.int .i64 4096] W λx w'=>x=.returned (.int .i64 (n4:Int))/\RV w' b t4 x4/\Fr (only b) W w'):=h_ (λW hW=>by
    have:=Z0h hW (by omega) 4096;rw[show numR t3 x3 4096=(n4,t4,x4) by rw[<-h4];unfold q4;rw[h3]] at this;exact this)
  have HL:Hid (∀W,RV W b t4 x4->Calls Tryz.prog 90 #[.pointer (some ⟨b,0,none⟩)] W λx w'=>x=.returned (.int .i64 (t4.size:Int))/\W=w'):=h_ (λW hW=>Z0r hW (by omega))
  have H5:Hid (∀W,RV W b t4 x4->Calls Tryz.prog 137 #[.pointer (some ⟨b,0,none⟩),.int .i64 (t4.size:Int)] W λx w'=>x=.returned (.string a5)/\RV w' b t5 x5/\Fr (only b) W w'):=h_ (λW hW=>by
    have:=Z0P hW (by omega) (t4.size:Int);rw[show Z0S t4 x4 (t4.size:Int)=(a5,t5,x5) by rw[<-h5];unfold q5;rw[h4]] at this;exact this)
  have HE:Hid (∀W,RV W b t5 x5->Calls Tryz.prog 87 #[.pointer (some ⟨b,0,none⟩)] W λx w'=>x=.returned (.int .i64 (x5:Int))/\W=w'):=h_ (λW hW=>Z0a hW);have uv:=h_ h.lt;have jo:Z7U s=match rclk s with|none=>none|some (c,a,t)=>finC c (decn a 4096) (decn t 4096):=rfl
  obtain⟨R,hR⟩:∃R,Z7U s=R:=⟨_,rfl⟩;rw[hR] at jo⊢;have gl:=h_ jo;have ao:=h_ ag;have UV:t4.size<=1000000000:=(by omega);clear h1 h2 h3 h4 h5 jo ag h z1 z2 z3 z4 dp hR;go_enter Tryz.func91,Tryz.ntmps91;go_wp2_with fail;refine(H1.o).mono ?_;rintro x w1 ⟨rfl,aW,aB⟩;have cC:=h_ aW;have cG:=h_ aB;clear aW aB H1;go_wp2_with fail;refine(H2.o _ cC.o).mono ?_;rintro x w2 ⟨rfl,bj,ah⟩;have eK:=h_ bj;have bW:=h_ (cG.o.trans ah);clear bj ah H2 cC cG;go_wp2_with fail;refine(H3.o _ eK.o).mono ?_;rintro x w3 ⟨rfl,dX,aL⟩;have xN:=h_ dX;have gz:=h_ (bW.o.trans aL);clear dX aL H3 eK bW;go_wp2_with fail;refine(H4.o _ xN.o).mono ?_;rintro x w4 ⟨rfl,ku,aG⟩;have vL:=gz.o.trans aG;have bo:=h_ (Nat.lt_of_lt_of_le uv.o vL.size);have DH:=h_ (show RV (w4.alloc (.cells #[.int .i64 (n1:Int),.int .i64 (n2:Int),.int .i64 (n3:Int),.int .i64 (n4:Int)] 96)) b t4 x4 from Bk.alloc ku _);have DI:=h_ (Bk.new w4 96 #[.int .i64 (n1:Int),.int .i64 (n2:Int),.int .i64 (n3:Int),.int .i64 (n4:Int)]);have cQ:=h_ (ZjK vL (.cells #[.int .i64 (n1:Int),.int .i64 (n2:Int),.int .i64 (n3:Int),.int .i64 (n4:Int)] 96));clear ku aG vL H4 xN gz;go_upto_region 2 with fail;obtain⟨Q,hQ⟩:∃Q,w4.heap.size=Q:=⟨_,rfl⟩;obtain⟨W4,Bd⟩:∃W,w4.alloc (.cells #[.int .i64 (n1:Int),.int .i64 (n2:Int),.int .i64 (n3:Int),.int .i64 (n4:Int)] 96)=W:=⟨_,rfl⟩;rw[hQ] at DI bo⊢;rw[Bd] at DH DI cQ⊢;clear hQ Bd;go_wp2_with fail;refine(HL.o _ DH.o).mono ?_;rintro x w5 ⟨rfl,rfl⟩;go_wp2_with fail;refine(H5.o _ DH.o).mono ?_;rintro x w5 ⟨rfl,oU,qN⟩;have pZ:=h_ (DI.o.fr qN (by show ¬_=_;have:=bo.o;omega));have DJ:=h_ oU;have rM:=h_ (cQ.o.trans qN);clear oU qN DH DI cQ H5 HL;go_wp2_with fail;refine(HE.o _ DJ.o).mono ?_;rintro x w6 ⟨rfl,rfl⟩;rcases ao.o with ⟨he,hr⟩|⟨he,y,t,hr,RZ,Mp,nL,fw⟩
  · have Hr:Hid (R=none):=h_ (by rw[gl.o,hr])
    have ay:((x5:Int) !=0)=true:=(by rw[bne_iff_ne];omega);clear hr he ao gl;go_wp2;go_ret2;exact Z1O Hr.o rM.o
  · subst he
    subst RZ;subst Mp;have Hr:Hid (R=finC ⟨(n1:Int),(n2:Int),(n3:Int),(n4:Int)⟩ (decn y 4096) (decn t 4096)):=h_ (by rw[gl.o,hr]);have k0:=pZ.o.cell 0;have k1:=pZ.o.cell 1;have k2:=pZ.o.cell 2;have k3:=pZ.o.cell 3;simp at k0 k1 k2 k3;obtain⟨c,hc⟩:∃c:Clk,(⟨(n1:Int),(n2:Int),(n3:Int),(n4:Int)⟩:Clk)=c:=⟨_,rfl⟩;have ew:CV c=.agg #[.int .i64 (n1:Int),.int .i64 (n2:Int),.int .i64 (n3:Int),.int .i64 (n4:Int)]:=(by rw[<-hc];rfl);rw[hc] at Hr;have Ht:=h_ (Z6P c w5);rw[ew] at Ht;clear hr ao gl hc;go_wp2_with fail;refine(Ht.o).mono ?_;rintro x w7 Nn;obtain⟨vT,eT,rfl,fx,hT⟩:=Zmk Nn;have HT:=h_ hT;have Ij:=h_ (show RV w7 b (bs t) 0 from Bk.below DJ.o fx (Bk.lt DJ.o));have F7:=h_ (Z3H rM.o fx);have Hx:=h_ (λW=>Z0Q (w:=W) y (by omega) 4096);have Hy:=h_ (λW=>Z0Q (w:=W) t (by omega) 4096);have DK:=Z2w y 4096;have DL:=Z2w t 4096;obtain⟨⟨X,eX⟩,hX⟩:∃r,decn y 4096=r:=⟨_,rfl⟩;obtain⟨⟨Y,eY⟩,hY⟩:∃r,decn t 4096=r:=⟨_,rfl⟩;rw[hX] at Hx Hr DK;rw[hY] at Hy Hr DL;simp only at DK DL;have B0:=h_ DK.2;have Gn:=h_ DL.2;have Ab:=Z49 t;have vM:=h_ Ab;have cR:(bs t).size=t.length:=Z00 _;clear k0 k1 k2 k3 Nn hT fx hX hY DK DL Ht DJ rM pZ Ab HE;go_wp2_with fail;refine(Hx.o _).mono ?_;rintro x w8 kh;obtain⟨Ax,cx,rfl,tC,mM⟩:=Z64 kh;have xO:=h_ (show RV w8 b (bs t) 0 from Bk.below Ij.o mM (Bk.lt Ij.o));have No:=h_ (Z3H F7.o mM);have xP:=h_ mM;have xQ:=h_ tC;clear kh mM tC Hx;simp only;have DM:=h_ (Z0r xO.o (by rw[cR];omega));go_wp2_with fail;refine(DM.o).mono ?_;rintro x w9 ⟨rfl,rfl⟩;have Ik:=h_ (Z0s xO.o (by rw[cR];omega) ((bs t).size:Int));rw[vM.o] at Ik;go_wp2_with fail;refine(Ik.o).mono ?_;rintro x w9 ⟨rfl,pK,nJ⟩;simp only;have tD:=h_ (No.o.trans nJ);have Np:=h_ (Bk.lt xO.o);have Be:=h_ (Zo6 xQ.o xO.o pK nJ);have Nq:=h_ (λg (hg:Bk w7 g 3 (ica (Z0E c)))=>Zo6 ((ZbS hg).below xP.o) xO.o pK nJ);clear pK DM Ik xO Ij vM nJ xQ xP No;go_wp2_with fail;refine(Hy.o _).mono ?_;rintro x na Bf;obtain⟨Ay,cy,rfl,Nr,ja⟩:=Z64 Bf;have q7:=h_ (Z3H tD.o ja);have Bg:=h_ (Be.o.below ja);have Bh:=h_ (show At na Ay (ivs Y) from Nr);have so:=h_ (λg (hg:Bk w7 g 3 (ica (Z0E c)))=>(Nq.o g hg).below ja);clear Bf Nr ja tD Be Nq Hy;simp only;have bq:finC c (X,eX) (Y,eY)=if vclk c=false\/eX≠0\/eY≠0 then none else match jnL X,jnL Y with|some m,some x=>some (rebL c m x)|_,_=>none:=rfl
    rcases HT.o with ⟨he,nZ⟩|⟨he,nZ,g,Ns,vy⟩
    · have fp:Hid (R=none):=h_ (by rw[Hr.o,bq,if_pos (.inl nZ)])
      subst he;clear bq nZ Hr HT;go_wp2;go_ret2;exact Z1O fp.o q7.o
    · subst he
      by_cases Il:eX=0
      · subst Il
        by_cases Im:eY=0
        · subst Im
          rw[if_neg (by rw[nZ];simp)] at bq;have bQ:=Hr.o;rw[bq] at bQ;have lu:=h_ bQ;have Bi:=h_ (so.o g vy);obtain⟨aX,_⟩:=Z1r.1 nZ;have fF:=aX.1;have jj:=aX.2.1;have qT:∀i,i<c.n.toNat->(Z0E c)[i]? =some (atC c i):=λi h=>(by simp[Z0E,h]);have Az:∀m,ZeB c m=Z6p c m c.n.toNat:=λm=>rfl;obtain⟨N,hN⟩:∃N,c.n.toNat=N:=⟨_,rfl⟩;rw[hN] at qT Ns Az;have ze:N<=4096:=(by omega);have zU:=h_ qT;have Nt:=h_ Az;subst Ns;clear bq bQ Hr HT nZ vy so aX qT Az hN fF jj;have dM:=B0.o;have Io:=Gn.o;have Nu:=h_ (Z4l Bg.o X.length cx rfl (by omega));have Nv:=h_ (λW (hW:Below na.heap.size na W)=>Z4l (Bh.o.below hW) Y.length cy rfl (by omega));clear dM Io;go_wp2_with fail;refine(Nu.o).mono ?_;rintro x Mi ⟨vm,DN,rfl,kX,hm,jN⟩;have nA:=h_ jN;have Hm:=h_ hm;have jd:=h_ kX;clear jN hm Nu kX;go_wp2_with fail;refine(Nv.o _ nA.o).mono ?_;rintro x tE ⟨vf,Ip,rfl,Bj,hf,kA⟩;have vN:=h_ (Z3H (Z3H q7.o nA.o) kA);have Bl:=h_ ((Bi.o.below nA.o).below kA);have q8:=h_ (λl h=>(Hm.o l h).bel kA);have Bm:=h_ hf;have nB:=h_ Bj;clear kA hf Bj Nv Hm Bi q7 nA Bg Bh;obtain⟨jm,yY⟩:∃j,jnL X=j:=⟨_,rfl⟩;obtain⟨jf,Iq⟩:∃j,jnL Y=j:=⟨_,rfl⟩;have Nw:=h_ yY;have Nx:=h_ Iq;rw[yY] at jd q8 lu;rw[Iq] at nB Bm lu;clear yY Iq;cases jm with
          |none=>
            have fp:Hid (R=none):=h_ lu.o;have bG:DN=false:=jd.o;subst bG;clear jd nB lu q8 Bm;go_wp2;go_ret2;exact Z1O fp.o vN.o
          |some m=>
            have bG:DN=true:=jd.o;subst bG;cases jf with
            |none=>
              have fp:Hid (R=none):=h_ lu.o;have bG:Ip=false:=nB.o;subst bG;clear jd nB lu q8 Bm;go_wp2;go_ret2;exact Z1O fp.o vN.o
            |some f=>
              have bG:Ip=true:=nB.o;subst bG;have fp:Hid (R=some (rebL c m f)):=h_ lu.o;obtain⟨Am,cm,mW,kY⟩:=Z23 (q8.o m rfl);obtain⟨Af,cf,yM,Bn⟩:=Z23 (Bm.o f rfl);subst mW;subst yM;obtain⟨mv,_⟩:=Z5A Nw.o;obtain⟨fv,_⟩:=Z5A Nx.o;obtain⟨m1,m2,m3⟩:=Z08.1 mv;obtain⟨f1,f2,f3⟩:=Z08.1 fv;have sT:=h_ m1;have Ir:=h_ kY;have Is:=h_ Bn;have gz:=h_ f3;have S8:=h_ m3;have iT:=λi=>Zdj c m i;have bD:=λi=>Z9o c m i;have bU:Z6p c m 0=[]:=rfl;have mY:=Nt.o m;obtain⟨kp,qI⟩:∃kp,Z6p c m=kp:=⟨_,rfl⟩;rw[qI] at iT bD bU mY;have Ny:=h_ iT;have It:=h_ bD;have dw:=h_ bU;have Iu:=h_ mY;clear jd nB lu q8 Bm Nw Nx mv fv m1 m2 m3 f1 f2 f3 kY Bn iT bD bU mY qI Nt;go_upto_region 15 with fail;go_wp2;go_loopw [16,83] (λiz Iv wr=>∃i:Nat,i<=N/\Iv=.int .i64 (i:Int)/\Hid (wr.ownsRow tE.heap.size 3 1 iz (kp i).length (ivs (kp i)))/\Hid (Below tE.heap.size tE wr)) (λ_ Iv _=>(N-intOf Iv).toNat);case atStart=>exact⟨0,Nat.zero_le _,rfl,h_ (by rw[dw.o];exact Z0p),h_ (Below.refl _ _)⟩
              case round=>
                obtain⟨i,hi,rfl,aa,dV⟩:=hrel;by_cases ab:i<N
                · have mB:=zU.o i ab
                  obtain⟨T,hT⟩:∃T,atC c i=T:=⟨_,rfl⟩;have iT:=Ny.o i;rw[hT] at mB iT;have iA:(ivs (Z0E c))[i]? =some (.int .i64 T):=(by unfold ivs;rw[List.getElem?_map,mB];rfl);obtain⟨b',o',hA,eH,hc⟩:=(Bl.o.below dV.o).get i _ iA;injection hA with hA;injection hA with kH eh;subst kH;subst eh;rw[Nat.zero_add] at hc;have ki:=h_ (Z3Q (Ir.o.below dV.o) m.length cm rfl (by have:=S8.o;omega) sT.o (i:Int));have di:(i:Int)<(N:Int):=(by omega);have bD:=It.o i;have Iw:=h_ bD;cases eR:m.contains (i:Int) with
                  |true=>
                    rw[eR] at ki iT;rw[if_pos rfl] at iT;have vO:=h_ iT;clear mB hT iT iA eH bD eR;go_wp2_with fail;refine(ki.o).mono ?_;rintro x w3 ⟨⟨p,rfl⟩,q,rfl⟩;go_wp2;refine⟨⟨i+1,ab,by go_num,h_ (by rw[vO.o];exact aa.o),h_ (bdN dV.o q)⟩,?_⟩;simp[intOf]<;>omega
                  |false=>
                    rw[eR] at ki iT;rw[if_neg (by simp)] at iT;have vO:=h_ iT;clear mB hT iT iA eH eR bD;go_wp2_with fail;refine(ki.o).mono ?_;rintro x w3 ⟨⟨p,rfl⟩,q,rfl⟩;have bD:=Iw.o;obtain⟨v',DO,ag,ai,aB,_⟩:=Z1X (P:=Tryz.prog) 31 3 _ _ Tryz.underlying31 Z0R rfl (w:=wr.drewN q) aa.o (bdN dV.o q) dV.o.size (.int .i64 T) rfl (by unfold maxLen;omega) (by omega);have ao:=h_ ag
                    have aE:Hid (DO.ownsRow tE.heap.size 3 1 v' (kp (i+1)).length (ivs (kp (i+1)))):=h_ (by
                      rw[vO.o,List.length_append,Z3t];exact ai)
                    have Ix:=h_ aB;clear ag ai aB aa dV bD
                    go_wp2_with (
                      at_builtin;refine Z04 (by with_reducible rfl) rfl _ _ _ rfl _ _ (by rfl) (by rfl) ao.o ?_)
                    refine⟨⟨i+1,ab,by go_num,aE,Ix⟩,?_⟩;simp[intOf]<;>omega
                · have kI:i=N:=by omega
                  subst kI;have bD:=It.o i;have Iy:=gz.o;have mF:=Is.o.below dV.o
                  obtain⟨v',DO,ag,ai,df,_⟩:=Zeu (P:=Tryz.prog) 31 3 _ _ Tryz.underlying31 Z0R rfl aa.o mF cf f.length (by simp[ivs]) (λhA=>by
                    subst hA;cases fk:f with
                    |nil=>rfl
                    |cons z r=>
                      rw[fk] at mF;obtain⟨_,_,h0,_⟩:=mF 0 (by simp[ivs]);cases h0) (λy hy=>by
                    obtain⟨z,_,rfl⟩:=List.mem_map.1 hy;rfl) (by unfold maxLen;omega) (by omega) dV.o.size
                  have tF:Below tE.heap.size tE DO:=dV.o.grown df dV.o.size (λk hk=>(aa.o.lt k hk).1)
                  have aO:DO.ownsRow tE.heap.size 3 1 v' ((kp i).length+f.length) (ivs (kp i++f)):=by
                    have e:ivs (kp i++f)=ivs (kp i)++ivs f:=(by simp[ivs]);rw[e];exact ai
                  have S9:=h_ (ZgD aO (by simp) (by simp;omega) tF);have ao:=h_ ag;have aD:=h_ Iu.o;clear bD Iy mF ag ai df tF aO aa dV It Ny zU
                  go_wp2_with (first
                    | (at_builtin
                       refine Z04 (by with_reducible rfl) rfl _ _ _ rfl _ _ (by rfl) (by rfl) ao.o ?_)
                    | (go_at_call 144
                       refine(S9.o).mono ?_;rintro x w6 ⟨rfl,Sa,dq⟩))
                  go_ret2
                  exact⟨_,_,rfl,by rw[fp.o];rfl,(λl hl=>by
                    rw[fp.o] at hl;injection hl with hl;rw[<-hl];have xR:rebL c m f=srt (kp i++f):=(by unfold rebL;rw[aD.o]);rw[xR];exact Sa),Z3H vN.o dq⟩
        · have fp:Hid (R=none):=h_ (by rw[Hr.o,bq,if_pos (.inr (.inr Im))])
          have ay:((eY:Int) !=0)=true:=(by rw[bne_iff_ne];omega);clear bq nZ Hr HT Im vy so;go_wp2;go_ret2;exact Z1O fp.o q7.o
      · have fp:Hid (R=none):=h_ (by rw[Hr.o,bq,if_pos (.inr (.inl Il))])
        have ay:((eX:Int) !=0)=true:=(by rw[bne_iff_ne];omega);clear bq nZ Hr HT Il vy so;go_wp2;go_ret2;exact Z1O fp.o q7.o
theorem ZgN {w w':World} {x:Ending} {r:List ByteArray×Nat} (h:TRes w r x w'):∃A cap,x=.returned (.tuple #[.slice A r.1.length cap,.int .i64 (r.2:Int)])/\At w' A (svs r.1)/\Below w.heap.size w w':=by
 obtain⟨v,h1,⟨A,cap,rfl,h2⟩,h3⟩:=h;exact⟨A,cap,h1,h2,h3⟩
theorem Z65 {w w1 w2:World} {b:Nat} (h:Below w.heap.size w w1) (hf:Fr (only b) w1 w2) (hb:w.heap.size<=b):Below w.heap.size w w2:=h.trans (hf.toBelow' h.size (λj hj e=>by have:j=b:=e;omega))
theorem ZaB {w w1 w2:World} {b B:Nat} (h:Below B w w1) (hf:Fr (only b) w1 w2) (hb:B<=b) (hB:B<=w1.heap.size:=by omega):Below B w w2:=h.trans (hf.toBelow' hB (λj hj e=>by have:j=b:=e;omega))
theorem ZgO {w:World} {base size n:Nat} {e:TypeId} {v:Value} {xs:List Value} (h:w.ownsRow base e size v n xs):∀g,v.ownBlock=some g->g<w.heap.size:=λg hg=>(h.lt g hg).2
theorem ZgP {X l:List Int} (h:jnL X=some l):l.length<=4096:=(Z08.1 (Z5A h).1).2.2
theorem ZgQ {r:List UInt8} (h:(dec r 4096).2=0):(dec r 4096).1.length<=4096/\∀s∈(dec r 4096).1,s.size<=128:=by
 unfold dec at h⊢;match hr:Z1J r,h with
 |none,h=>cases h
 |some l,h=>
  obtain⟨g1,g2⟩:=Z4G hr;simp only at h⊢;split
  ·simp
  ·split
   ·simp
   ·exact⟨g2,g1⟩
theorem Zdl (s:ByteArray) (r:List ByteArray):Z30 (s::r)=match rnum (toL s) 1099511627776 with
  |some (g,[])=>(Z30 r).map ((g:Int)::·)
  |_=>none:=rfl
theorem ZgR (data : ByteArray) (hd : data.size <= 1000000000) (w : World) :
    Calls Tryz.prog 61 #[.string data] w λx w'=>JRes w (Z3c (toL data)) x w':=by
  have iE:=h_ (Z0M data w);have dE:=h_ (λW (h:RV W w.heap.size data 0)=>Z0h h (by omega) 2);match h1:rnum (toL data) 2 with
  |none=>
    obtain⟨e,he,hn⟩:=Z11 h1;rw[Z09] at hn;have qa:numR data 0 2=(0,data,e):=hn;have hr:Z3c (toL data)=none:=(by unfold Z3c;rw[h1]);rw[hr];rw[qa] at dE;have ay:((e:Int) !=0)=true:=(by rw[bne_iff_ne];omega);clear h1 hn qa hr he;go_enter Tryz.func61,Tryz.ntmps61;go_wp2_with fail;refine(iE.o).mono ?_;rintro x w1 ⟨rfl,aW,a7⟩;have an:=h_ a7;have qc:=h_ (dE.o _ aW);clear aW a7 dE iE;go_wp2_with fail;refine(qc.o).mono ?_;rintro x w2 ⟨rfl,bj,ah⟩;have al:=h_ (Z65 an.o ah (Nat.le_refl _));have He:=h_ (Z0a bj);clear bj ah qc;go_wp2_with fail;refine(He.o).mono ?_;rintro x w3 ⟨rfl,rfl⟩;go_wp2;go_ret2;exact Z22 rfl al.o
  |some (c,r)=>
    obtain⟨hn,dF,cT⟩:=Z0l h1;rw[Z09] at hn;have qa:numR data 0 2=(c,bs r,0):=hn;rw[qa] at dE
    have cB:Z3c (toL data)=if c=0 then(if(decn r 4096).2≠0 then none else jnL (decn r 4096).1) else if c=1 then Z7U r else if(dec r 4096).2≠0 then none else match Z30 (dec r 4096).1 with|none=>none|some g=>jnL g:=by
      unfold Z3c;rw[h1];rfl
    have Sb:r.length<=1000000000:=(by rw[Z01] at cT;omega);have cR:(bs r).size=r.length:=Z00 _;have vM:=h_ (Z49 r);have fl:c=0\/c=1\/c=2:=(by omega);clear h1 hn qa cT dF;rcases fl with rfl|rfl|rfl
    · rw[if_pos rfl] at cB
      rw[cB];have Hx:=h_ (λW=>Z0Q (w:=W) r (by omega) 4096);have dM:=(Z2w r 4096).2;obtain⟨⟨X,eX⟩,hX⟩:∃r',decn r 4096=r':=⟨_,rfl⟩;rw[hX] at Hx dM⊢;simp only at dM⊢;have B0:=h_ dM;obtain⟨R,hR⟩:∃R,(if eX≠0 then none else jnL X)=R:=⟨_,rfl⟩;rw[hR];have HR:=h_ hR;clear cB hX dM hR;go_enter Tryz.func61,Tryz.ntmps61;go_wp2_with fail;refine(iE.o).mono ?_;rintro x w1 ⟨rfl,aW,a7⟩;have an:=h_ a7;have qc:=h_ (dE.o _ aW);clear aW a7 dE iE;go_wp2_with fail;refine(qc.o).mono ?_;rintro x w2 ⟨rfl,bj,ah⟩;have al:=h_ (Z65 an.o ah (Nat.le_refl _));have He:=h_ (Z0a bj);have HL:=h_ (Z0r bj (by show(bs r).size<=_;omega));have HK:=h_ (Z0s bj (by show(bs r).size<=_;omega) ((bs r).size:Int));clear bj ah qc an;rw[vM.o] at HK;go_wp2_with fail;refine(He.o).mono ?_;rintro x w3 ⟨rfl,rfl⟩;go_wp2_with fail;refine(HL.o).mono ?_;rintro x w3 ⟨rfl,rfl⟩;go_wp2_with fail;refine(HK.o).mono ?_;rintro x w3 ⟨rfl,dX,aL⟩;have aF:=h_ (Z65 al.o aL (Nat.le_refl _));clear dX aL He HL HK al vM;simp only;go_wp2_with fail;refine(Hx.o _).mono ?_;rintro x w4 fV;obtain⟨Ax,cx,rfl,tC,aw⟩:=Z64 fV;have bo:=h_ (aF.o.trans (aw.mono aF.o.size));have xQ:=h_ (show At w4 Ax (ivs X) from tC);clear fV tC aw aF Hx;simp only;by_cases he:eX=0
      · subst he
        have fE:=HR.o;rw[if_neg (by simp)] at fE;have dM:=B0.o;have HJ:=h_ (Z4l xQ.o X.length cx rfl (by omega));rw[fE] at HJ;clear dM fE;go_wp2_with fail;refine(HJ.o).mono ?_;rintro x w5 ⟨vm,DN,rfl,kX,hm,aM⟩;have jd:=h_ kX;have Hm:=h_ hm;clear kX hm;go_wp2;go_ret2;exact⟨_,_,rfl,jd.o,Hm.o,bo.o.trans (aM.mono bo.o.size)⟩
      · have jJ:Hid (R=none):=h_ (by rw[<-HR.o,if_pos he])
        have ay:((eX:Int) !=0)=true:=(by rw[bne_iff_ne];omega);clear he HR;go_wp2;go_ret2;exact Z22 jJ.o bo.o
    · rw[if_neg (by decide),if_pos rfl] at cB
      rw[cB];clear cB;go_enter Tryz.func61,Tryz.ntmps61;go_wp2_with fail;refine(iE.o).mono ?_;rintro x w1 ⟨rfl,aW,a7⟩;have an:=h_ a7;have qc:=h_ (dE.o _ aW);clear aW a7 dE iE;go_wp2_with fail;refine(qc.o).mono ?_;rintro x w2 ⟨rfl,bj,ah⟩;have al:=h_ (Z65 an.o ah (Nat.le_refl _));have He:=h_ (Z0a bj);have HC:=h_ (Zdk bj Sb);clear bj ah qc an;go_wp2_with fail;refine(He.o).mono ?_;rintro x w3 ⟨rfl,rfl⟩;go_wp2_with fail;refine(HC.o).mono ?_;rintro x w3 ⟨v,ok,rfl,bG,fa,aL⟩;have tw:=h_ bG;have aD:=h_ fa;have aF:=h_ (Z65 al.o aL (Nat.le_refl _));clear bG fa aL;go_wp2;go_ret2;exact⟨_,_,rfl,tw.o,aD.o,aF.o⟩
    · rw[if_neg (by decide),if_neg (by decide)] at cB
      rw[cB];have Hx:=h_ (λW=>Z3u (w:=W) (bs r) (by omega) 4096);rw[Z0d] at Hx;have iC:=λh=>ZgQ (r:=r) h;obtain⟨⟨L,eL⟩,hL⟩:∃r',dec r 4096=r':=⟨_,rfl⟩;rw[hL] at Hx iC⊢;simp only at iC⊢;have js:=h_ iC;obtain⟨R,hR⟩:∃R,(if eL≠0 then none else match Z30 L with|none=>none|some g=>jnL g)=R:=⟨_,rfl⟩;rw[hR];have xS:=h_ hR;clear cB hL iC hR;go_enter Tryz.func61,Tryz.ntmps61;go_wp2_with fail;refine(iE.o).mono ?_;rintro x w1 ⟨rfl,aW,a7⟩;have an:=h_ a7;have qc:=h_ (dE.o _ aW);clear aW a7 dE iE;go_wp2_with fail;refine(qc.o).mono ?_;rintro x w2 ⟨rfl,bj,ah⟩;have al:=h_ (Z65 an.o ah (Nat.le_refl _));have He:=h_ (Z0a bj);have HL:=h_ (Z0r bj (by show(bs r).size<=_;omega));have HK:=h_ (Z0s bj (by show(bs r).size<=_;omega) ((bs r).size:Int));clear bj ah qc an;rw[vM.o] at HK;go_wp2_with fail;refine(He.o).mono ?_;rintro x w3 ⟨rfl,rfl⟩;go_wp2_with fail;refine(HL.o).mono ?_;rintro x w3 ⟨rfl,rfl⟩;go_wp2_with fail;refine(HK.o).mono ?_;rintro x w3 ⟨rfl,dX,aL⟩;have aF:=h_ (Z65 al.o aL (Nat.le_refl _));clear dX aL He HL HK al vM;simp only;go_wp2_with fail;refine(Hx.o _).mono ?_;rintro x w4 fV;obtain⟨Ax,cx,rfl,tC,aw⟩:=ZgN fV;have bo:=h_ (aF.o.trans (aw.mono aF.o.size));have xQ:=h_ (show At w4 Ax (svs L) from tC);clear fV tC aw aF Hx;simp only;by_cases he:eL=0
      · have vB:((eL:Int) !=0)=false:=by rw[he];rfl
        have hR:=xS.o;rw[if_neg (by simp[he])] at hR;obtain⟨Sc,Nz⟩:=js.o he;have DM:=h_ Nz;obtain⟨N,hN⟩:∃N,L.length=N:=⟨_,rfl⟩;rw[hN] at Sc;have HN:=h_ hN;have HR:Hid (R=match Z30 L with|none=>none|some g=>jnL g):=h_ hR.symm;clear Nz js hR xS he;go_upto_region 18 with fail;rw[hN];clear hN;go_wp2;go_loopw [6,55] (λs6 Iz wr=>∃(i:Nat) (G:List Int),i<=N/\Iz=.int .i64 (i:Int)/\Hid (Z30 L=(Z30 (L.drop i)).map (G++·))/\G.length=i/\Hid (wr.ownsRow w4.heap.size 3 1 s6 G.length (ivs G))/\Hid (Below w4.heap.size w4 wr)) (λ_ Iz _=>(N-intOf Iz).toNat);case atStart=>exact⟨0,[],Nat.zero_le _,rfl,h_ (by simp),rfl,h_ Z0p,h_ (Below.refl _ _)⟩
        case round=>
          obtain⟨i,G,hi,rfl,qH,NA,aa,dV⟩:=hrel;by_cases ab:i<N
          · have bz:i<L.length:=by rw[HN.o];exact ab
            have jE:L.drop i=L[i]::L.drop (i+1):=List.drop_eq_getElem_cons bz;have aY:(svs L)[i]? =some (.string L[i]):=Z1p L i bz;have ad:=DM.o L[i] (List.getElem_mem _);obtain⟨s,hs⟩:∃s,L[i]=s:=⟨_,rfl⟩;rw[hs] at jE aY ad;obtain⟨b',o',hA,eH,hc⟩:=(xQ.o.below dV.o).get i _ aY;subst hA;have gM:=qH.o;rw[jE,Zdl] at gM;have di:(i:Int)<(N:Int):=(by omega);have iE:=h_ (Z0M s wr);have dE:=h_ (λW (h:RV W wr.heap.size s 0)=>Z0h h (by omega) 1099511627776);obtain⟨gn,tn,en,hq⟩:∃g t e,numR s 0 1099511627776=(g,t,e):=⟨_,_,_,rfl⟩;rw[hq] at dE;simp only at dE
            have Bo:((endR tn en≠0)/\R=none)\/((endR tn en=0)/\Z30 L=(Z30 (L.drop (i+1))).map ((G++[(gn:Int)])++·)):=by
              match h1:rnum (toL s) 1099511627776 with
              |none=>
                obtain⟨e,he,hn⟩:=Z11 h1;rw[Z09] at hn;have qa:numR s 0 1099511627776=(0,s,e):=hn;rw[hq] at qa;injection qa with h3 h4;injection h4 with h4 h5;subst h3;subst h4;subst h5;left;rw[h1] at gM;refine⟨?_,by rw[HR.o,gM];rfl⟩;unfold endR;rw[if_neg (λh=>he h.1)];exact he
              |some (g,u)=>
                obtain⟨hn,_,_⟩:=Z0l h1;rw[Z09] at hn;have qa:numR s 0 1099511627776=(g,bs u,0):=hn;rw[hq] at qa;injection qa with h3 h4;injection h4 with h4 h5;subst h3;subst h4;subst h5;rw[h1] at gM;cases u with
                |nil=>
                  right;refine⟨rfl,?_⟩;simp only at gM;rw[gM,Option.map_map];congr 1;funext z;simp
                |cons z u=>
                  left;refine⟨?_,by rw[HR.o,gM];rfl⟩;unfold endR;rw[if_pos ⟨rfl,by rw[Z00];simp⟩];decide
            have sq:=h_ Bo;clear bz jE aY hs eH gM qH hq Bo;have Sd:=h_ NA;go_wp2_with fail;refine(iE.o).mono ?_;rintro x w5 ⟨rfl,oU,aM⟩;have yH:=h_ (dE.o _ oU);have jq:=Z0v aa.o (Fr.of_below (S:=nob) aM) (λg hg h=>h);have Bp:=dV.o.trans (aM.mono dV.o.size);have eZ:=h_ jq;have vP:=h_ Bp;have Bq:=ZgO aa.o;have va:=dV.o.size;have Br:=h_ Bq;have lY:=h_ va;clear oU aM jq Bp Bq va iE dE aa dV;go_wp2_with fail;refine(yH.o).mono ?_;rintro x w6 ⟨rfl,tB,qE⟩;have kV:=Z0v eZ.o qE (λg hg h=>by have h1:=Br.o g hg;have h2:g=wr.heap.size:=h;omega);have vQ:=ZaB vP.o qE lY.o vP.o.size;have fW:G.length<=4096:=(by omega);obtain⟨v',w7,ag,ai,aB,aC⟩:=Z1X (P:=Tryz.prog) 31 3 _ _ Tryz.underlying31 Z0R rfl kV vQ vQ.size (.int .i64 (gn:Int)) rfl (by unfold maxLen;omega) (by omega);have IA:RV w7 wr.heap.size tn en:=aC _ _ _ tB (by decide);have ao:=h_ ag
            have aE:Hid (w7.ownsRow w4.heap.size 3 1 v' (G++[(gn:Int)]).length (ivs (G++[(gn:Int)]))):=h_ (by
              rw[List.length_append,Z3t];exact ai)
            have cG:=h_ aB;have dP:=h_ (Z7q IA);have IB:=h_ (λg hg=>ZgO ai g hg)
            have uu:Hid (∀g,v'.ownBlock=some g->g≠wr.heap.size):=h_ (λg hg he=>by
              subst he;exact absurd (Z02 ai IA (by decide)) (by rw[hg];simp))
            clear ag ai aB aC IA tB qE kV vQ fW yH eZ vP Br;obtain⟨ee,NB⟩:∃e,endR tn en=e:=⟨_,rfl⟩;rw[NB] at dP sq;clear NB;rcases sq.o with ⟨eB,DP⟩|⟨eB,iL⟩
            · have IC:((ee:Int) !=0)=true:=by rw[bne_iff_ne];omega
              have gN:=h_ DP;clear eB DP sq
              go_wp2_with (first
                | (at_builtin
                   refine Z04 (by with_reducible rfl) rfl _ _ _ rfl _ _ (by rfl) (by rfl) ao.o ?_)
                | (go_at_call 92
                   refine(dP.o).mono ?_;rintro x w8 ⟨rfl,rO⟩))
              go_ret2;exact Z22 gN.o (ZaB (bo.o.trans (cG.o.mono bo.o.size)) rO (by have:=lY.o;have:=bo.o.size;omega) (by have:=cG.o.size;have:=bo.o.size;omega))
            · have IC:((ee:Int) !=0)=false:=by rw[eB];rfl
              have pj:=h_ iL;have NC:(G++[(gn:Int)]).length=i+1:=(by rw[List.length_append,Sd.o];rfl);have Se:=h_ NC;clear eB iL sq NC
              go_wp2_with (first
                | (at_builtin
                   refine Z04 (by with_reducible rfl) rfl _ _ _ rfl _ _ (by rfl) (by rfl) ao.o ?_)
                | (go_at_call 92
                   refine(dP.o).mono ?_;rintro x w8 ⟨rfl,rO⟩))
              refine⟨⟨i+1,_,ab,by go_num,pj,Se.o,h_ (Z0v aE.o rO (λg hg h=>uu.o g hg h)),h_ (ZaB cG.o rO lY.o cG.o.size)⟩,?_⟩;simp[intOf]<;>omega
          · have kI:i=N:=by omega
            subst kI;have gM:=qH.o;rw[List.drop_eq_nil_of_le (by rw[HN.o];exact Nat.le_refl _)] at gM;have Bs:Z30 L=some G:=(by rw[gM];simp[Z30]);have bQ:R=jnL G:=(by rw[HR.o,Bs]);obtain⟨A9,iw,pK,fg⟩:=Z0q aa.o;subst pK;have HJ:=h_ (Z4l fg G.length iw rfl (by omega));have bO:=h_ (bo.o.trans (dV.o.mono bo.o.size));rw[<-bQ] at HJ;clear qH gM Bs bQ fg aa dV NA HR;go_wp2_with fail;refine(HJ.o).mono ?_;rintro x w5 ⟨vm,DN,rfl,kX,hm,aM⟩;have jd:=h_ kX;have Hm:=h_ hm;clear kX hm;go_wp2;go_ret2;exact⟨_,_,rfl,jd.o,Hm.o,bO.o.trans (aM.mono bO.o.size)⟩
      · have jJ:Hid (R=none):=h_ (by rw[<-xS.o,if_pos he])
        have ay:((eL:Int) !=0)=true:=(by rw[bne_iff_ne];omega);clear he xS;go_wp2;go_ret2;exact Z22 jJ.o bo.o
theorem ZjL {c:Clk} {X Y:List Int×Nat} {l:List Int} (h:finC c X Y=some l):l.length<=8192:=by
 unfold finC at h;split at h
 ·cases h
 ·rename_i hc
  have hv:vclk c=true:=by
   cases hv:vclk c with
   |true=>rfl
   |false=>exact absurd (.inl hv) hc
  match h1:jnL X.1,h2:jnL Y.1,h with
  |some m,some x,h=>
   injection h with h;subst h;have h3:=ZgP h2;have h4:=(Z1r.1 hv).1.2.1;have h5:=Z9o c m c.n.toNat;have h6:ZeB c m=Z6p c m c.n.toNat:=rfl;unfold rebL;rw[Z3v,List.length_append,h6];omega
theorem ZgS {data:List UInt8} {l:List Int} (h:Z3c data=some l):l.length<=8192:=by
 unfold Z3c at h;match h1:rnum data 2,h with
 |some (c,r),h=>
  simp only at h;split at h
  ·split at h
   ·cases h
   ·have:=ZgP h;omega
  ·split at h
   ·unfold Z7U at h;match h2:rclk r,h with
    |some (c,a,t),h=>exact ZjL h
   ·split at h
    ·cases h
    ·match h2:Z30 (dec r 4096).1,h with
     |some g,h=>have:=ZgP h;omega
theorem Z66 {w:World} (data:ByteArray) (hd:data.size<=1000000000) (most:Int):
  Calls Tryz.prog 37 #[.string data,.int .i64 most] w λx w'=>LRes w x w' (decT (toL data) most):=by
 have H1:=h_ (ZgR data hd w);unfold decT;match hr:Z3c (toL data) with
 |none=>
  rw[hr] at H1;simp only;clear hr hd;go_enter Tryz.func37,Tryz.ntmps37;go_wp2_with fail;refine(H1.o).mono ?_;rintro x w1 ⟨v,ok,rfl,bG,hs,hb⟩;have jb:ok=false:=bG;subst jb;clear hs bG;go_wp2;go_returns;exact Z2M 12 hb
 |some l=>
  rw[hr] at H1;simp only;have g2:=ZgS hr;have H2:=h_ (λW A cap (h:At W A (ivs l))=>Z62 h l.length cap rfl (by omega));obtain⟨⟨X,xe⟩,hX⟩:∃x,encT l=x:=⟨_,rfl⟩;rw[hX] at H2⊢;simp only;clear hr hd hX;by_cases aZ:xe≠0\/X≠toL data
  ·rw[if_pos aZ]
   have q:((xe:Int) !=0)=true\/(((xe:Int) !=0)=false/\(((bs X).toList !=data.toList)=true/\((bs X).toList==data.toList)=false)):=by
    by_cases hx:xe=0
    ·right;have ay:X≠toL data:=aZ.resolve_left (λh=>h hx)
     have h3:((bs X).toList==data.toList)=false:=by
      rw[Z3F,decide_eq_false_iff_not];intro h;exact ay (by rw[<-h,Z0d])
     refine⟨by rw[hx];rfl,by rw[bne,h3];rfl,h3⟩
    ·left;rw[bne_iff_ne];omega
   clear aZ;rcases q with q|⟨q,q2,q3⟩
   all_goals
    go_enter Tryz.func37,Tryz.ntmps37;go_wp2_with fail;refine(H1.o).mono ?_;rintro x w1 ⟨v,ok,rfl,bG,hs,hb⟩;have jb:ok=true:=bG;subst jb;obtain⟨A,cap,rfl,ak⟩:=hs l rfl;have H3:=h_ (H2.o _ _ cap ak);clear hs ak bG;go_wp2_with fail;refine(H3.o).mono ?_;rintro x w2 ⟨rfl,a8⟩;have aQ:=hb.trans (a8.mono hb.size);go_wp2;go_returns;exact Z2M 12 aQ
  ·rw[if_neg aZ];have hx:xe=0:=(by omega)
   have vh:X=toL data:=by
    rcases Classical.em (X=toL data) with h|h
    ·exact h
    ·exact absurd (.inr h) aZ
   subst hx;subst vh;have q2:((bs (toL data)).toList !=data.toList)=false:=(by rw[Z09,bne_self_eq_false]);have q3:((bs (toL data)).toList==data.toList)=true:=(by rw[Z09,beq_self_eq_true]);clear aZ;by_cases hm:most<(l.length:Int)
   ·rw[if_pos hm];go_enter Tryz.func37,Tryz.ntmps37;go_wp2_with fail;refine(H1.o).mono ?_;rintro x w1 ⟨v,ok,rfl,bG,hs,hb⟩;have jb:ok=true:=bG;subst jb;obtain⟨A,cap,rfl,ak⟩:=hs l rfl;have H3:=h_ (H2.o _ _ cap ak);clear hs ak bG;go_wp2_with fail;refine(H3.o).mono ?_;rintro x w2 ⟨rfl,a8⟩;have aQ:=hb.trans (a8.mono hb.size);go_wp2;go_returns;exact Z2M 2 aQ
   ·rw[if_neg hm];go_enter Tryz.func37,Tryz.ntmps37;go_wp2_with fail;refine(H1.o).mono ?_;rintro x w1 ⟨v,ok,rfl,bG,hs,hb⟩;have jb:ok=true:=bG;subst jb;obtain⟨A,cap,rfl,ak⟩:=hs l rfl;have H3:=h_ (H2.o _ _ cap ak);have bd:=h_ ak;clear hs ak bG;go_wp2_with fail;refine(H3.o).mono ?_;rintro x w2 ⟨rfl,a8⟩;have aQ:=hb.trans (a8.mono hb.size);have bL:=bd.o.below a8;go_wp2;go_returns;exact⟨_,rfl,⟨A,cap,rfl,bL⟩,aQ⟩
end Go.Proofs.YtchokmkfobandaaGreatDoor
