import Derived.Test.YtchokmkfobandaaGreatDoorJ16
set_option linter.unusedVariables false
set_option linter.unusedSimpArgs false
set_option maxRecDepth 100000
set_option maxHeartbeats 8000000
namespace Go.Proofs.YtchokmkfobandaaGreatDoor
open Go.RowKit Go.Proofs Wv Wv.Vi Wv.Rc Wv.Mo Wv.Ru
def YK (c:Nat) (D:List ByteArray) (k:Nat):List UInt8:=num c++num D.length++(D.take k).flatMap text
theorem Z0E (c:Nat) (D:List ByteArray) (k:Nat) (h:∀s∈D,s.size<=128) (hl:D.length<=4096):(YK c D k).length<=600000:=by
 unfold YK;have h1:=kof9 c;have h2:=kof9 D.length;have h3:=Zf5 (D.take k) (λs hs=>h s (Vcd hs));have h4:(D.take k).length<=4096:=(by rw[Vau];omega);rw[Vab,Vab];omega
theorem Z6h (c:Nat) (D:List ByteArray) (k:Nat) (h:k<D.length):YK c D (k+1)=YK c D k++text D[k]:=by
 unfold YK;rw[ZbJ D k h,Vay,Vay,Vay]
def inx (R:List (Nat×Nat)):List Int:=R.map λx=>(x.1:Int)
def cnx (R:List (Nat×Nat)):List Int:=R.map λx=>(x.2:Int)-1
theorem Z1P (R:List (Nat×Nat)):(Yf R).length=R.length:=by simp[Yf]
theorem Zc6 (R:List (Nat×Nat)) (k:Nat) (h:k<R.length):(Yf R)[k]'(by rw[Z1P];exact h)=((R[k].1:Int),(R[k].2:Int)):=by simp[Yf]
theorem Zfj (R:List (Nat×Nat)) (k:Nat) (h:k<R.length):inx (R.take (k+1))=inx (R.take k)++[(R[k].1:Int)]:=by
 unfold inx;rw[Vac h,Vbk];rfl
theorem Zfk (R:List (Nat×Nat)) (k:Nat) (h:k<R.length):cnx (R.take (k+1))=cnx (R.take k)++[(R[k].2:Int)-1]:=by
 unfold cnx;rw[Vac h,Vbk];rfl
theorem Qu (l:List Int) (x:Int):ivs (l++[x])=ivs l++[.int .i64 x]:=by simp[ivs,iv]
theorem Z3T (l:List Int):(ivs l).length=l.length:=by simp[ivs]
structure Gath (wb w:World) (B:Nat) (v1 v2:Value) (I C:List Int):Prop where
 two:TwoSt wb B 3 v1 (ivs I) v2 (ivs C) w
theorem Z6i {w:World} {A:Option Addr} {l:List ByteArray} (c:Nat) (hc:c<=1) (ha:At w A (svs l)) (kQ:∀s∈l,s.size<=128) (n cap:Nat) (hn:n=l.length) (hm:n<=4096):
  Calls Tryz.prog 58 #[.int .i64 (c:Int),.slice A n cap] w λx w'=>ERes w (encB c l,0) x w':=by
 have hL:=Z7B ha (λs hs=>by have:=kQ s hs;omega) n cap hn hm;have hl:Z67 l=false:=Vai (by rintro⟨s,h1,h2⟩;have:=kQ s h1;omega);rw[hl] at hL;have HL:=h_ hL;have Hd:=h_ (Z2r ha n cap hn hm);have Ha:=h_ ha;have Hn:=h_ hn;obtain⟨D,hD⟩:∃D,dict l=D:=⟨_,rfl⟩;have tN:=Yl l;have pI:=Z1v kQ;rw[hD] at tN pI;have LI:D.length<=4096:=(by omega);have H1:=λw=>Zh (c:Int) (by omega) (by omega) w;have H2:=λw=>Zh (D.length:Int) (by omega) (by omega) w;simp only[Vav] at H1 H2;have k1:=kof9 c;have k2:=kof9 D.length;rw[<-Z0] at k1 k2;have zW:bs (num c)++bs (num D.length)=bs (YK c D 0):=(by rw[Zg];unfold YK;simp);rw[hD] at Hd;have HD:=h_ hD;have pJ:=h_ pI;have zX:=h_ zW;generalize bs (num c)=s1 at*;generalize bs (num D.length)=s2 at*;have H1:=h_ H1;have H2:=h_ H2;have Lt:¬(4096:Int)<(n:Int):=(by omega)
 have jA:(((c:Int) !=0)&&((c:Int) !=1))=false:=by
  have:c=0\/c=1:=(by omega);rcases this with rfl|rfl<;>rfl
 have pK:((c:Int) !=0)=false\/(((c:Int) !=0)=true/\((c:Int) !=1)=false):=by
  have:c=0\/c=1:=(by omega);rcases this with rfl|rfl
  ·exact .inl rfl
  ·exact .inr ⟨rfl,rfl⟩
 clear ha hn hL hl hD pI zW kQ tN jA;go_enter Tryz.func58,Tryz.ntmps58;go_upto_region 1 with fail;go_cut [23] (λRG wx=>RG=.bool false/\w=wx)
 case first=>
  rcases pK with g0|⟨g0,g1⟩
  ·go_wp2;go_meet;case rel=>exact⟨rfl,rfl⟩
  ·go_wp2;go_meet;case rel=>exact⟨rfl,rfl⟩
 case rest=>
  obtain⟨rfl,rfl⟩:=hcut;clear pK;go_wp2_with fail;refine(HL.o).mono ?_;rintro x w1 ⟨rfl,rfl⟩;go_wp2_with fail;refine(Hd.o).mono ?_;rintro x w1 ⟨v6,rfl,⟨AD,RH,rfl,zY⟩,a7⟩;go_wp2_with fail;refine(H1.o _).mono ?_;rintro x w2 ⟨rfl,a8⟩;go_wp2_with fail;refine(H2.o _).mono ?_;rintro x w3 ⟨rfl,af⟩;have vD:=a8.trans (af.mono a8.size);have tQ:=zY.below vD;have fu:=a7.trans (vD.mono a7.size);clear a7 a8 af vD zY;go_wp2;rw[zX.o];go_loopw [7,9,41] (λout _ i wr=>∃k:Nat,k<=D.length/\i=.int .i64 k/\out=.string (bs (YK c D k))/\At wr AD (svs D)/\Below w.heap.size w wr) (λ_ _ i _=>(D.length-intOf i).toNat);case atStart=>exact⟨0,by omega,rfl,rfl,tQ,fu⟩
  case round=>
   clear tQ fu HL Hd H1 H2 zX;obtain⟨k,hk,rfl,rfl,ak,hf⟩:=hrel;have fD:=Z0E c D k pJ.o LI;rw[<-Z0] at fD;by_cases ab:k<D.length
   ·obtain⟨s,hs⟩:∃s,D[k]=s:=⟨_,rfl⟩;have tR:=pJ.o s (hs▸Vak _);obtain⟨bA,oA,hA,ez,kR⟩:=ak.get k (.string s) (by rw[Yr D k ab,hs]);subst hA;have Ht:=λw=>XJ s (by omega) w;have fK:=Z7G s tR;rw[<-Z0] at fK;have j0:bs (YK c D k)++bs (text s)=bs (YK c D (k+1)):=(by rw[Zg,Z6h c D k ab,hs]);have bD:=h_ ak;generalize bs (YK c D k)=S1 at*;generalize bs (text s)=S2 at*;have pL:=h_ j0;have Ht:=h_ Ht;clear j0 hs ak tR;go_wp2_with fail;refine(Ht.o _).mono ?_;rintro x w4 ⟨rfl,ax⟩;have dV:=bD.o.below ax;have aF:=hf.trans (ax.mono hf.size);clear ax;go_wp2;go_roundw;case rel=>exact⟨k+1,by omega,by go_num,by rw[pL.o],dV,aF⟩
    case measure=>simp[intOf]<;>omega
   ·have RI:k=D.length:=(by omega);subst RI;have pM:=Ha.o.below hf;have Hr:=Zf4 pM n cap Hn.o hm;obtain⟨R,hR⟩:∃R,runs (dict l) l=R:=⟨_,rfl⟩;have pN:=Ym (dict l) l;have Gy:=Qm (dict l) l;rw[hR] at Hr pN Gy;have HR:=h_ hR;have LJ:=h_ Gy;have Gz:R.length<=4096:=(by rw[<-Hn.o] at pN;omega);have Hr:=h_ Hr;clear hR Gy pN;have Hf:=h_ hf;clear ak pM hf ab;go_wp2_with fail;refine(Hr.o).mono ?_;rintro x w4 ⟨AR,RJ,rfl,zZ,ax⟩;have aF:=Hf.o.trans (ax.mono Hf.o.size);clear ax;simp only[Z1P];have bD:=h_ zZ;have cE:=h_ aF;clear zZ aF;go_wp2;go_loopw [10,11,13,53] (λv10 v11 _ i wr=>∃k:Nat,k<=R.length/\i=.int .i64 k/\TwoSt w4 w4.heap.size 3 v10 (ivs (inx (R.take k))) v11 (ivs (cnx (R.take k))) wr) (λ_ _ _ i _=>(R.length-intOf i).toNat);case atStart=>exact⟨0,by omega,rfl,⟨Zk,Zk,by simp[Value.ownBlock],Vae _ _,UZz⟩⟩
    case round=>
     obtain⟨q,hq,rfl,rk⟩:=hrel;by_cases bQ:q<R.length
     ·have hI:=Zfj R q bQ;have hC:=Zfk R q bQ;obtain⟨⟨ri,rc⟩,hrq⟩:∃x,R[q]=x:=⟨_,rfl⟩;have uX:=LJ.o R[q] (Vak _);have eZ:=Z7s (Yf R) q (by rw[Z1P];exact bQ);rw[Zc6 R q bQ] at eZ;rw[hrq] at hI hC uX eZ;simp only at hI hC uX eZ;have RK:(ivs (inx (R.take q))).length<=4096:=(by rw[Z3T];unfold inx;rw[Vag,Vau];omega);have RM:(ivs (cnx (R.take q))).length<=4096:=(by rw[Z3T];unfold cnx;rw[Vag,Vau];omega);have vE:=bD.o.below rk.bel;obtain⟨bB,oB,hB,Lr,nt⟩:=vE.get (q*2) _ eZ.1;obtain⟨Rp,Rq,og,_,jV⟩:=vE.get (q*2+1) _ eZ.2;rw[hB] at og;injection og with og
      injection og with xY vu;subst xY;subst vu;subst hB;unfold iv at nt jV;have pt:wr.cell? ⟨bB,oB+q*2+1,none⟩=some (.int .i64 (rc:Int)):=jV;have VO:rc<=4096:=(by have:=Hn.o;omega);have i2:IntKind.i64.wrap ((rc:Int)-1)=(rc:Int)-1:=(by rw[IntWalk.i64_in _ (by omega)]);obtain⟨X,hX⟩:∃X,ivs (inx (R.take q))=X:=⟨_,rfl⟩;obtain⟨Y,hY⟩:∃Y,ivs (cnx (R.take q))=Y:=⟨_,rfl⟩;rw[hX] at rk RK;rw[hY] at rk RM;have HI:Hid (ivs (inx (R.take (q+1)))=X++[.int .i64 (ri:Int)]):=h_ (by rw[hI,Qu,hX]);have HC:Hid (ivs (cnx (R.take (q+1)))=Y++[.int .i64 ((rc:Int)-1)]):=h_ (by rw[hC,Qu,hY]);have hW:=rk.alloc (.cells #[.int .i64 (ri:Int),.int .i64 (rc:Int)] 134);have DM:=Bk.new wr 134 #[.int .i64 (ri:Int),.int .i64 (rc:Int)];obtain⟨t1,t2,t3⟩:=Z7h (P:=Tryz.prog) 31 3 _ 8 Tryz.underlying31 ZQ rfl hW (.int .i64 (ri:Int)) (.int .i64 ((rc:Int)-1)) (by rfl) (by rfl) (by unfold maxLen;omega) (by omega) (by unfold maxLen;omega) (by omega) _ _ _ DM (by decide);obtain⟨t4,t5,t6⟩:=Z7h (P:=Tryz.prog) 31 3 _ 8 Tryz.underlying31 ZQ rfl hW.swap (.int .i64 ((rc:Int)-1)) (.int .i64 (ri:Int)) (by rfl) (by rfl) (by unfold maxLen;omega) (by omega) (by unfold maxLen;omega) (by omega) _ _ _ DM (by decide);simp only[World.size_alloc] at t1 t2 t3 t4 t5 t6;clear hI hC eZ hrq vE hX hY rk hW uX jV;obtain⟨VP,LK,VQ,LL,LM,LN,GA,GB,GC⟩:=t1;have DN:=h_ LM;have DO:=h_ LN;have RN:=h_ GA;have RO:LK.cell? ⟨wr.heap.size,0,none⟩=some (.int .i64 (ri:Int)):=GB.cell 0;have RP:LK.cell? ⟨wr.heap.size,1,none⟩=some (.int .i64 (rc:Int)):=GB.cell 1;have RQ:LL.cell? ⟨wr.heap.size,0,none⟩=some (.int .i64 (ri:Int)):=GC.cell 0;have RR:LL.cell? ⟨wr.heap.size,1,none⟩=some (.int .i64 (rc:Int)):=GC.cell 1;clear LM LN GA GB GC;obtain⟨VR,LO,VS,LP,LQ,LR,GD,GE,GF⟩:=t2;have DP:=h_ LQ;have DQ:=h_ LR;have RT:=h_ GD;have RU:LO.cell? ⟨wr.heap.size,0,none⟩=some (.int .i64 (ri:Int)):=GE.cell 0;have RW:LO.cell? ⟨wr.heap.size,1,none⟩=some (.int .i64 (rc:Int)):=GE.cell 1;have RX:LP.cell? ⟨wr.heap.size,0,none⟩=some (.int .i64 (ri:Int)):=GF.cell 0;have RY:LP.cell? ⟨wr.heap.size,1,none⟩=some (.int .i64 (rc:Int)):=GF.cell 1;clear LQ LR GD GE GF;obtain⟨VT,LU,VU,LV,LW,LX,LY,GH,GI⟩:=t3;have DS:=h_ LW;have DT:=h_ LX;have RZ:=h_ LY;have S8:LU.cell? ⟨wr.heap.size,0,none⟩=some (.int .i64 (ri:Int)):=GH.cell 0;have S9:LU.cell? ⟨wr.heap.size,1,none⟩=some (.int .i64 (rc:Int)):=GH.cell 1;have Sa:LV.cell? ⟨wr.heap.size,0,none⟩=some (.int .i64 (ri:Int)):=GI.cell 0;have Sb:LV.cell? ⟨wr.heap.size,1,none⟩=some (.int .i64 (rc:Int)):=GI.cell 1;clear LW LX LY GH GI;obtain⟨VV,LZ,VW,yb,M0,M4,M7,GJ,GK⟩:=t4;have DU:=h_ M0;have DW:=h_ M4;have Sc:=h_ M7;have Sd:LZ.cell? ⟨wr.heap.size,0,none⟩=some (.int .i64 (ri:Int)):=GJ.cell 0;have Se:LZ.cell? ⟨wr.heap.size,1,none⟩=some (.int .i64 (rc:Int)):=GJ.cell 1;have Sf:yb.cell? ⟨wr.heap.size,0,none⟩=some (.int .i64 (ri:Int)):=GK.cell 0;have Sh:yb.cell? ⟨wr.heap.size,1,none⟩=some (.int .i64 (rc:Int)):=GK.cell 1;clear M0 M4 M7 GJ GK;obtain⟨VX,Ma,VY,Mb,Mc,Md,Me,GL,GN⟩:=t5;have DX:=h_ Mc;have DY:=h_ Md;have Si:=h_ Me;have Sj:Ma.cell? ⟨wr.heap.size,0,none⟩=some (.int .i64 (ri:Int)):=GL.cell 0;have Sk:Ma.cell? ⟨wr.heap.size,1,none⟩=some (.int .i64 (rc:Int)):=GL.cell 1;have Sl:Mb.cell? ⟨wr.heap.size,0,none⟩=some (.int .i64 (ri:Int)):=GN.cell 0;have Sm:Mb.cell? ⟨wr.heap.size,1,none⟩=some (.int .i64 (rc:Int)):=GN.cell 1;clear Mc Md Me GL GN;obtain⟨VZ,Mf,W3,Mg,Mh,Mi,Mj,GO,GP⟩:=t6;have DZ:=h_ Mh;have E1:=h_ Mi;have So:=h_ Mj;have Sp:Mf.cell? ⟨wr.heap.size,0,none⟩=some (.int .i64 (ri:Int)):=GO.cell 0;have Sq:Mf.cell? ⟨wr.heap.size,1,none⟩=some (.int .i64 (rc:Int)):=GO.cell 1;have Sr:Mg.cell? ⟨wr.heap.size,0,none⟩=some (.int .i64 (ri:Int)):=GP.cell 0;have Ss:Mg.cell? ⟨wr.heap.size,1,none⟩=some (.int .i64 (rc:Int)):=GP.cell 1;clear Mh Mi Mj GO GP;have x0:(wr.alloc (.cells #[.int .i64 (ri:Int),.int .i64 (rc:Int)] 134)).cell? ⟨wr.heap.size,0,none⟩=some (.int .i64 (ri:Int)):=DM.cell 0;have x1:(wr.alloc (.cells #[.int .i64 (ri:Int),.int .i64 (rc:Int)] 134)).cell? ⟨wr.heap.size,1,none⟩=some (.int .i64 (rc:Int)):=DM.cell 1;have n0:=World.new_ne _ _ x0;have n1:=World.new_ne _ _ x1;go_upto_region 16 with fail
      go_region_held3 (λW=>W.cell? ⟨wr.heap.size,0,none⟩=some (.int .i64 (ri:Int))/\W.cell? ⟨wr.heap.size,1,none⟩=some (.int .i64 (rc:Int))) (first|go_keep)
       ((first|refine Z5 (by with_reducible rfl) (by rfl) _ _ _ (by rfl) _ _ (by rfl) (by rfl) DN.out ?_|refine Z5 (by with_reducible rfl) (by rfl) _ _ _ (by rfl) _ _ (by rfl) (by rfl) DO.out ?_|refine Z5 (by with_reducible rfl) (by rfl) _ _ _ (by rfl) _ _ (by rfl) (by rfl) DP.out ?_|refine Z5 (by with_reducible rfl) (by rfl) _ _ _ (by rfl) _ _ (by rfl) (by rfl) DQ.out ?_|refine Z5 (by with_reducible rfl) (by rfl) _ _ _ (by rfl) _ _ (by rfl) (by rfl) DS.out ?_|refine Z5 (by with_reducible rfl) (by rfl) _ _ _ (by rfl) _ _ (by rfl) (by rfl) DT.out ?_|refine Z5 (by with_reducible rfl) (by rfl) _ _ _ (by rfl) _ _ (by rfl) (by rfl) DU.out ?_|refine Z5 (by with_reducible rfl) (by rfl) _ _ _ (by rfl) _ _ (by rfl) (by rfl) DW.out ?_|refine Z5 (by with_reducible rfl) (by rfl) _ _ _ (by rfl) _ _ (by rfl) (by rfl) DX.out ?_|refine Z5 (by with_reducible rfl) (by rfl) _ _ _ (by rfl) _ _ (by rfl) (by rfl) DY.out ?_|refine Z5 (by with_reducible rfl) (by rfl) _ _ _ (by rfl) _ _ (by rfl) (by rfl) DZ.out ?_|refine Z5 (by with_reducible rfl) (by rfl) _ _ _ (by rfl) _ _ (by rfl) (by rfl) E1.out ?_))
      all_goals
       go_wp2;go_roundw
       case rel=>
        refine⟨q+1,by omega,by go_num,?_⟩;rw[HI.o,HC.o];first|exact RN.out|exact RT.out|exact RZ.out|exact Sc.out.swap|exact Si.out.swap|exact So.out.swap
       case measure=>simp[intOf]<;>omega
     ·have Su:q=R.length:=(by omega);subst Su;rw[Vbx] at rk
      have hI:inx R=(idxs l).map Int.ofNat:=by
       unfold inx idxs;rw[HR.o,Vb8];rfl
      have hC:cnx R=(cnts l).map Int.ofNat:=by
       unfold cnx cnts;rw[HR.o,Vb8];refine List.map_congr_left λx hx=> ?_;have:=(LJ.o x hx).2.1;show(x.2:Int)-1=((x.2-1:Nat):Int);omega
      have cC:(ivs (inx R)).length=R.length:=(by rw[Z3T];simp[inx]);have dt:(ivs (cnx R)).length=R.length:=(by rw[Z3T];simp[cnx]);obtain⟨A1,c1,rfl,cQ⟩:=Zl rk.own1;obtain⟨A2,c2,rfl,bL⟩:=Zl rk.own2;have fI:l.length<=4096:=(by rw[<-Hn.o];exact hm);have GQ:(idxs l).length=R.length:=(by rw[XG,HR.o]);have GR:(cnts l).length=R.length:=(by rw[XH,HR.o]);have GS:(Ya c l).length=R.length:=(by rw[YB,HR.o]);rw[hI] at cQ;rw[hC] at bL;have dq:=cE.o.trans (rk.bel.mono cE.o.size);have fw:=h_ cQ;have kU:=h_ bL;have Aa:=h_ dq
      have pO:front ((idxs l).map Int.ofNat)=(Y7 r0 (idxs l),0):=by
       unfold front
       rw[Vaf (Z1u (by rw[Vag,GQ];exact Gz) (λn hn=>by
        obtain⟨m,hm,rfl⟩:=Va6.1 hn;have:=Z3g l fI m hm;exact⟨by simp,by simp;omega⟩)),YY]
      have HF:=h_ (Z8Q cQ R.length c1 (by rw[Vag,GQ]) (by omega));rw[pO] at HF;have Sv:=h_ (QZ c l fI);have Sw:=h_ (Z1w l fI);have Ab:=XN (Ya c l) (λv hv=>by have:=QZ c l fI v hv;omega);have Ac:=XN (cnts l) (λv hv=>by have:=Z1w l fI v hv;omega);rw[GS] at Ab;rw[GR] at Ac;have fD:=Z0E c D D.length pJ.o LI;have Mk:encA c l=encn (Ya c l):=rfl
      have gS:(text (bs (encn (Ya c l)))).length<=600000:=by
       unfold text;rw[Vab,Ze];have:=kof9 (bs (encn (Ya c l))).size;omega
      have mn:Hid (bs (YK c D D.length)++bs (text (bs (encn (Ya c l))))++bs (encn (cnts l))=bs (encB c l)):=h_ (by
       rw[Zg,Zg];unfold YK encB text;rw[Vbx,HD.o,Mk,Ze,Z0])
      have GT:=h_ GS;have Ml:=h_ GR;have Mm:(bs (encn (Ya c l))).size<=1099511627776:=(by rw[Z0];omega);have Ht:=λw=>XJ (bs (encn (Ya c l))) Mm w;have pP:c=0\/c=1:=(by omega);have H0:Hid (c=0->Ya c l=idxs l):=h_ (λh=>by subst h;rfl);have H1:Hid (c=1->Ya c l=Y7 r0 (idxs l)):=h_ (λh=>by subst h;rfl);rw[<-Z0] at fD Ac gS;generalize bs (YK c D D.length)=S1 at*;generalize bs (text (bs (encn (Ya c l))))=S2 at*;have Ht:=h_ Ht;clear bQ hq rk cQ bL dq hI hC GQ GR GS pO Mk Ab Mm;rw[cC,dt];go_upto_if 70 with fail;go_cut [10] (λlh wx=>∃A cap,lh=.slice A R.length cap/\At wx A (ivs ((Ya c l).map Int.ofNat))/\Below wr.heap.size wr wx)
      case first=>
       rcases pP with bO|bO
       ·have g0:¬((c:Int)=1):=(by omega);have Ad:=h_ (H0.o bO);clear H0 H1 bO;go_wp2;go_meet;case rel=>exact⟨A1,c1,rfl,by rw[Ad.o];exact fw.o,Vae _ _⟩
       ·have g0:((c:Int)==1)=true:=(by rw[beq_iff_eq];omega);have yc:=h_ (H1.o bO);have GU:Hid ((Y7 r0 (idxs l)).length=R.length):=h_ (by rw[<-yc.o,GT.o]);clear H0 H1 bO hc;go_wp2_with fail;refine(HF.o).mono ?_;rintro x w5 ⟨v5,rfl,⟨A5,aY,rfl,bS⟩,aH⟩;go_wp2;go_meet;case rel=>exact⟨A5,aY,by rw[GU.o],by rw[yc.o];exact bS,aH⟩
      case rest=>
       obtain⟨A5,aY,rfl,bS,aH⟩:=hcut;clear HF H0 H1 pP;have rl:=h_ (Yw bS R.length aY GT.o.symm (by rw[GT.o];exact Gz) (λv hv=>by have:=Sv.o v hv;omega));have gT:=Aa.o.trans (aH.mono Aa.o.size);have tS:=kU.o.below aH;clear bS aH;go_wp2_with fail;refine(rl.o).mono ?_;rintro x w6 ⟨rfl,bY⟩;have ka:=h_ (Yw (tS.below bY) R.length c2 Ml.o.symm (by rw[Ml.o];exact Gz) (λv hv=>by have:=Sw.o v hv;omega));have vF:=gT.trans (bY.mono gT.size);clear tS bY gT;go_wp2_with fail;refine(ka.o).mono ?_;rintro x w7 ⟨rfl,eM⟩;have vG:=vF.trans (eM.mono vF.size);generalize bs (encn (Ya c l))=S3 at*;generalize bs (encn (cnts l))=S4 at*;clear eM vF;go_wp2_with fail;refine(Ht.o _).mono ?_;rintro x w8 ⟨rfl,lN⟩;have GV:=vG.trans (lN.mono vG.size);clear lN vG;go_wp2;go_returns;exact⟨by rw[mn.o];rfl,GV⟩
theorem Z53 {w:World} {A:Option Addr} {l:List ByteArray} (c:Int) (ha:At w A (svs l)) (ad:∀s∈l,s.size<=9223372036854775807) (n cap:Nat) (hn:n=l.length) (hm:n<=9223372036854775807):
  Calls Tryz.prog 58 #[.int .i64 c,.slice A n cap] w λx w'=>ERes w (Zhp c l) x w':=by
 unfold Zhp;by_cases hc:c≠0/\c≠1
 ·rw[Vaf hc];exact ZbI c hc.1 hc.2 A n cap
 ·rw[Vad hc];have pP:c=0\/c=1:=(by omega);obtain⟨c,rfl⟩:=Int.eq_ofNat_of_zero_le (show 0<=c by omega);by_cases hb:4096<l.length\/∃s∈l,128<s.size
  ·rw[Vaf hb];exact Z69 c (by omega) ha ad n cap hn hm hb
  ·rw[Vad hb,Vav]
   exact Z6i c (by omega) ha (λs hs=>by
    rcases Nat.lt_or_ge 128 s.size with h|h
    ·exact absurd (.inr ⟨s,hs,h⟩) hb
    ·exact h) n cap hn (by omega)
theorem Ys {w:World} {A:Option Addr} {l:List ByteArray} (ha:At w A (svs l)) (ad:∀s∈l,s.size<=9223372036854775807) (n cap:Nat) (hn:n=l.length) (hm:n<=9223372036854775807):
  Calls Tryz.prog 34 #[.slice A n cap] w λx w'=>ERes w (enc l) x w':=by
 have H0:=h_ (Z53 0 ha ad n cap hn hm);have H1:=h_ (λw' (h:Below w.heap.size w w')=>Z53 1 (ha.below h) ad n cap hn hm);clear ha hn;unfold enc;unfold Zhp at H0 H1;rw[Vad (by decide)] at H0;simp only[show ¬((1:Int)≠0/\(1:Int)≠1) from by decide,if_false] at H1;by_cases hb:4096<l.length\/∃s∈l,128<s.size
 ·simp only[hb,if_true] at H0⊢;clear H1 hb ad;go_enter Tryz.func34,Tryz.ntmps34;go_wp2_with fail;refine(H0.o).mono ?_;rintro x w1 ⟨rfl,a7⟩;go_wp2;go_returns;exact Z0c 9 a7
 ·simp only[hb,if_false,show(0:Int).toNat=0 from rfl,show(1:Int).toNat=1 from rfl] at H0 H1⊢;clear hb ad;have ig:=Z0 (encB 0 l);have cC:=Z0 (encB 1 l);by_cases ab:(encB 1 l).length<(encB 0 l).length
  ·rw[Vaf ab];have bQ:((bs (encB 1 l)).size:Int)<((bs (encB 0 l)).size:Int):=(by rw[ig,cC];exact Int.ofNat_lt.2 ab);clear ab ig cC;obtain⟨S0,oj⟩:∃S,bs (encB 0 l)=S:=⟨_,rfl⟩;have Ad:Hid (Calls Tryz.prog 58 #[.int .i64 0,.slice A n cap] w λx w'=>x=.returned (.tuple #[.string S0,.int .i64 0])/\Below w.heap.size w w'):=h_ (by rw[<-oj];exact H0.o);obtain⟨S1,mo⟩:∃S,bs (encB 1 l)=S:=⟨_,rfl⟩;have yc:Hid (∀w',Below w.heap.size w w'->Calls Tryz.prog 58 #[.int .i64 1,.slice A n cap] w' λx w2=>x=.returned (.tuple #[.string S1,.int .i64 0])/\Below w'.heap.size w' w2):=h_ (by rw[<-mo];exact H1.o);rw[oj,mo] at bQ;have Hr:Hid (∀w',Below w.heap.size w w'->ERes w (encB 1 l,0) (.returned (.tuple #[.string S1,.int .i64 0])) w'):=h_ (λw' h=>by rw[<-mo];exact⟨rfl,h⟩);clear H0 H1 oj mo;go_enter Tryz.func34,Tryz.ntmps34;go_wp2_with fail;refine(Ad.o).mono ?_;rintro x w1 ⟨rfl,a7⟩;go_wp2_with fail;refine(yc.o _ a7).mono ?_;rintro x w2 ⟨rfl,a8⟩;have hb:=a7.trans (a8.mono a7.size);go_wp2;go_returns;exact Hr.o _ hb
  ·rw[Vad ab];have bQ:¬((bs (encB 1 l)).size:Int)<((bs (encB 0 l)).size:Int):=(by rw[ig,cC];omega);clear ab ig cC;obtain⟨S0,oj⟩:∃S,bs (encB 0 l)=S:=⟨_,rfl⟩;have Ad:Hid (Calls Tryz.prog 58 #[.int .i64 0,.slice A n cap] w λx w'=>x=.returned (.tuple #[.string S0,.int .i64 0])/\Below w.heap.size w w'):=h_ (by rw[<-oj];exact H0.o);obtain⟨S1,mo⟩:∃S,bs (encB 1 l)=S:=⟨_,rfl⟩;have yc:Hid (∀w',Below w.heap.size w w'->Calls Tryz.prog 58 #[.int .i64 1,.slice A n cap] w' λx w2=>x=.returned (.tuple #[.string S1,.int .i64 0])/\Below w'.heap.size w' w2):=h_ (by rw[<-mo];exact H1.o);rw[oj,mo] at bQ;have Hr:Hid (∀w',Below w.heap.size w w'->ERes w (encB 0 l,0) (.returned (.tuple #[.string S0,.int .i64 0])) w'):=h_ (λw' h=>by rw[<-oj];exact⟨rfl,h⟩);clear H0 H1 oj mo;go_enter Tryz.func34,Tryz.ntmps34;go_wp2_with fail;refine(Ad.o).mono ?_;rintro x w1 ⟨rfl,a7⟩;go_wp2_with fail;refine(yc.o _ a7).mono ?_;rintro x w2 ⟨rfl,a8⟩;have hb:=a7.trans (a8.mono a7.size);go_wp2;go_returns;exact Hr.o _ hb
theorem Xm {s:ByteArray} {e:Nat} (he:e≠0) (most:Int):numR s e most=(0,s,e):=by unfold numR;rw[Vad he]
theorem Z1Q {s:ByteArray} {e:Nat} (he:e≠0) (n:Int):ZC s e n=(bs [],s,e):=by unfold ZC;rw[Vad he]
theorem Zp {s t:List UInt8} {n most:Nat} (h:rnum s most=some (n,t)):numR (bs s) 0 (most:Int)=(n,bs t,0)/\n<=most/\t.length<=s.length:=by
 unfold rnum at h;match hr:rd s with
 |none=>rw[hr] at h;cases h
 |some (m,z)=>
  rw[hr] at h;simp only at h;by_cases hm:most<m
  ·rw[Vaf hm] at h;cases h
  ·rw[Vad hm] at h;injection h with h;injection h with h1 h2;subst h1;subst h2;exact⟨Z3J hr (by omega),by omega,by rw[Va2];omega⟩
theorem Y1 {s:List UInt8} {most:Nat} (h:rnum s most=none):∃e,e≠0/\numR (bs s) 0 (most:Int)=(0,bs s,e):=by
 unfold rnum at h;match hr:rd s with
 |none=>exact⟨12,by decide,Z4L hr⟩
 |some (m,z)=>
  rw[hr] at h;simp only at h;by_cases hm:most<m
  ·exact⟨2,by decide,Z7x hr (by omega)⟩
  ·rw[Vad hm] at h;cases h
theorem YF {s:ByteArray} {e:Nat} (he:e≠0) (most:Int):ZR s e most=(bs [],s,e):=by
 unfold ZR;rw[Xm he];simp only;rw[Z1Q he];simp only;rw[Vad he]
theorem Z0F {s t a:List UInt8} {most:Nat} (h:ZH s most=some (a,t)):ZR (bs s) 0 (most:Int)=(bs a,bs t,0)/\a.length<=s.length/\t.length<=s.length/\a.length<=most:=by
 unfold ZH at h;match hr:rnum s most with
 |none=>rw[hr] at h;cases h
 |some (n,u)=>
  rw[hr] at h;simp only at h;obtain⟨h1,h2,h3⟩:=Zp hr;by_cases hm:u.length<n
  ·rw[Vaf hm] at h;cases h
  ·rw[Vad hm] at h;injection h with h;injection h with h4 h5;subst h4;subst h5
   have ht:ZC (bs u) 0 (n:Int)=(bs (u.take n),bs (u.drop n),0):=by
    unfold ZC;rw[Vaf rfl,Vad (by omega),Vad (by rw[Z0];omega),Vav,Ze]
   refine⟨?_,by rw[Vau];omega,by rw[Va2];omega,by rw[Vau];omega⟩;unfold ZR;rw[h1];simp only;rw[ht];simp only[if_true]
theorem Z54 {s:List UInt8} {most:Nat} (h:ZH s most=none):∃e,e≠0/\ZR (bs s) 0 (most:Int)=(bs [],bs s,e):=by
 unfold ZH at h;match hr:rnum s most with
 |none=>
  obtain⟨e,h1,h2⟩:=Y1 hr;refine⟨e,h1,?_⟩;unfold ZR;rw[h2];simp only;rw[Z1Q h1];simp only;rw[Vad h1]
 |some (n,u)=>
  rw[hr] at h;simp only at h;obtain⟨h1,h2,h3⟩:=Zp hr;by_cases hm:u.length<n
  ·have ht:ZC (bs u) 0 (n:Int)=(bs [],bs u,12):=by
    unfold ZC;rw[Vaf rfl,Vad (by omega),Vaf (by rw[Z0];omega)]
   refine⟨12,by decide,?_⟩;unfold ZR;rw[h1];simp only;rw[ht];simp only;rw[Vad (by decide)]
  ·rw[Vad hm] at h;cases h
theorem Z55 {n:Nat} {s t a:List UInt8} (h:ZH s 128=some (a,t)):Y8 (n+1) s=(Y8 n t).map λx=>(bs a::x.1,x.2):=by
 rw[Y8,h];simp only;cases Y8 n t<;>rfl
theorem Z56 {n:Nat} {s:List UInt8} (h:ZH s 128=none):Y8 (n+1) s=none:=by rw[Y8,h]
theorem Xw (s:List UInt8) (most:Int):(∀v∈(decn s most).1,0<=v)/\(decn s most).1.length<=4096:=by
 unfold decn;match rd s with
 |none=>simp
 |some (n,z)=>
  simp only;split
  ·simp
  ·split
   ·simp
   ·split
    ·simp
    ·split
     ·rename_i h;refine⟨h.2,?_⟩;rw[(Z4K n t0 (d0 (s.drop z))).1,Z0B];omega
     ·simp
theorem Zfl {α:Type} (L:List α) (n:Nat) (v z:α) (h:L.length<n):(L++List.replicate (n-L.length) z).set L.length v=(L++[v])++List.replicate (n-(L.length+1)) z:=by
 rw[Va8 _ _ UZz,Va7,show n-L.length=(n-(L.length+1))+1 from by omega,Vbg,List.set_cons_zero];simp
def pcs (l:List (Int×Int)):Array Value:=(pv l).toArray
theorem Zkm (l:List (Int×Int)):∀(k:Nat) (x:Int×Int),k<l.length->((pv l).set (k*2) (iv x.1)).set (k*2+1) (iv x.2)=pv (l.set k x):=by
 induction l with
 |nil=>intro k x h;simp at h
 |cons c D ih=>
  intro k x h;have e:pv (c::D)=iv c.1::iv c.2::pv D:=rfl;match k,h with
  |0,_=>rfl
  |k+1,h=>
   have h':k<D.length:=(by rw[Vaz] at h;omega);have:=ih k x h';rw[e,show(k+1)*2=k*2+1+1 from by omega,List.set_cons_succ,List.set_cons_succ,List.set_cons_succ,List.set_cons_succ,this];rfl
theorem Zik (l:List (Int×Int)) (k:Nat) (x:Int×Int) (h:k<l.length):((pcs l).setIfInBounds (k*2) (.int .i64 x.1)).setIfInBounds (k*2+1) (.int .i64 x.2)=pcs (l.set k x):=by
 apply Vbj.1;have:=Zkm l k x h;unfold iv at this;simpa [pcs] using this
theorem Zil (l:List (Int×Int)) (k:Nat) (h:k<l.length):(pcs l)[k*2]? =some (.int .i64 l[k].1)/\(pcs l)[k*2+1]? =some (.int .i64 l[k].2):=by
 have:=Z7s l k h;unfold iv at this;simpa [pcs] using this
theorem Zim (n:Nat):∀i,i<n*2->(pv (List.replicate n (0,0)))[i]? =some (.int .i64 0):=by
 induction n with
 |zero=>intro i h;omega
 |succ n ih=>
  intro i h;have e:pv (List.replicate (n+1) (0,0))=iv 0::iv 0::pv (List.replicate n (0,0)):=rfl;rw[e];match i,h with
  |0,_=>rfl
  |1,_=>rfl
  |i+2,h=>rw[List.getElem?_cons_succ,List.getElem?_cons_succ];exact ih i (by omega)
theorem Zfm {P:Program} (t e:TypeId) (ht:P.underlying t=some (.slice e)) (aK:(P.info? e).map (λi=>(i.zero,i.size,i.bytes))=some (some (.agg #[.int .i64 0,.int .i64 0]),2,16))
  (m:Int) (n:Nat) (hm:m=n) (hb:n<=4096) (w:World):
  (Instr.makeSlice t (.int .i64 m) (.int .i64 m)).run P w=.ok (.slice (some ⟨w.heap.size,0,none⟩) n n) (w.alloc (.cells (pcs (List.replicate n (0,0))) e)):=by
 obtain⟨i,hi,hz,hs,dj⟩:=info_parts aK;subst hm;have hr:=run_make (P:=P) w t e i _ ht hi hz .i64 .i64 (n:Int) (n:Int) (by omega) (by omega) (by rw[dj];omega) (by omega);rw[hr,Vav,hs];congr 3;apply Array.ext
 ·simp[madeCells,pcs,Z1G]
 ·intro j h1 h2;have h3:j<n*2:=(by simpa [madeCells] using h1);have h4:=Zim n j h3;have h5:(pcs (List.replicate n (0,0)))[j]? =some (.int .i64 0):=(by simpa [pcs] using h4);rw[Array.getElem?_eq_getElem h2] at h5;injection h5 with h5;rw[h5];have hj:j % 2=0\/j % 2=1:=(by omega);rcases hj with hj|hj<;>simp[madeCells,Value.cells,hj]
def Z2l (w:World) (r:Option (List ByteArray)) (x:Ending) (w':World):Prop:=∃v,x=.returned (.tuple #[v,.bool r.isSome])/\(∀l,r=some l->SRes w' v l)/\Below w.heap.size w w'
theorem XO {w w':World} {v:Value} (hb:Below w.heap.size w w'):Z2l w none (.returned (.tuple #[v,.bool false])) w':=⟨v,rfl,(λl h=>by cases h),hb⟩
theorem Z7R {w:World} (data:ByteArray) (hd:data.size<=1099511627776) (c:Nat) (S1:ByteArray) (e1:Nat) (S:ByteArray) (e:Nat) (h1:numR data 0 1=(c,S1,e1)) (h2:numR S1 e1 4096=(0,S,e)) (he:e≠0) (aM:S1.size<=data.size):
  Calls Tryz.prog 111 #[.string data] w λx w'=>Z2l w none x w':=by
 have H0:=h_ (ZN data w)
 have H1:=h_ (λW (h:RV W w.heap.size data 0)=>by
  have:=Zi h hd 1;rw[h1] at this;exact this)
 have Ae:S.size<=S1.size:=by
  have:=X1 (s:=S1) (e:=e1) (most:=4096);rw[h2] at this;exact this
 have H2:=h_ (λW (h:RV W w.heap.size S1 e1)=>by
  have:=Zi h (Vaq aM hd) 4096;rw[h2] at this;exact this)
 have H3:=h_ (λW (h:RV W w.heap.size S e)=>by
  have:=ZO h (by omega) (data.size:Int);rw[YF he] at this;exact this)
 have az:((e:Int) !=0)=true:=(by rw[Va0];omega);clear h1 h2 he Ae aM hd;go_enter Tryz.func111,Tryz.ntmps111;go_wp2_with fail;refine(H0.o).mono ?_;rintro x w1 ⟨rfl,cF,a7⟩;go_wp2_with fail;refine(H1.o _ cF).mono ?_;rintro x w2 ⟨rfl,bP,ai⟩;have a8:=Zb a7 UZz ai;clear cF a7 ai;go_wp2_with fail;refine(H2.o _ bP).mono ?_;rintro x w3 ⟨rfl,eU,aO⟩;have af:=Zb a8 UZz aO;have lS:=h_ eU;clear bP a8 aO eU H0 H1 H2;go_wp2;go_loopw [7,23] (λv7 i wr=>v7=.slice none 0 0/\i=.int .i64 0/\wr=w3) (λ_ i _=>0);case atStart=>exact⟨rfl,rfl,rfl⟩
 case round=>
  obtain⟨rfl,rfl,rfl⟩:=hrel;go_wp2_with fail;refine(H3.o _ lS.o).mono ?_;rintro x w4 ⟨rfl,gO,aF⟩;have H4:=h_ (Za gO);have ax:=Zb af UZz aF;clear gO aF af;go_wp2_with fail;refine(H4.o).mono ?_;rintro x w5 ⟨rfl,rfl⟩;go_wp2;go_returns;exact XO ax
theorem X4 (sk:List UInt8) (most:Nat):∃t S e,ZR (bs sk) 0 (most:Int)=(t,S,e)/\((e=0/\∃a u,ZH sk most=some (a,u)/\t=bs a/\S=bs u/\u.length<=sk.length/\a.length<=sk.length/\a.length<=most)\/(e≠0/\ZH sk most=none)):=by
 match h:ZH sk most with
 |none=>
  obtain⟨e,h1,h2⟩:=Z54 h;exact⟨_,_,e,h2,.inr ⟨h1,rfl⟩⟩
 |some (a,u)=>
  obtain⟨h1,h2,h3,h4⟩:=Z0F h;exact⟨_,_,0,h1,.inl ⟨rfl,a,u,rfl,rfl,rfl,h3,h2,h4⟩⟩
theorem Zfn (l:List ByteArray) (s:ByteArray):svs (l++[s])=svs l++[.string s]:=by simp[svs,sv]
theorem Zc7 {w w':World} {A:Option Addr} {l:List Int} {b e:Nat} {s s':ByteArray} (ha:At w A (ivs l)) (h:RV w b s e) (h':RV w' b s' e) (hf:Fr (only b) w w'):At w' A (ivs l):=by
 intro i hi;obtain⟨b',o,hA,hb,hc⟩:=ha i hi;refine⟨b',o,hA,Va5 hb hf.size,?_⟩;by_cases e1:b'=b
 ·subst e1;have h1:=Bk.cell h (o+i);have h2:=Bk.cell h' (o+i);rw[h2];rw[hc] at h1;rw[h1];have hv:(ivs l)[i]=.int .i64 (l[i]'(by simpa [ivs] using hi)):=(by simp[ivs,iv]);rw[hv] at h1;match o+i,h1 with
  |0,h1=>simp at h1
  |1,h1=>rfl
  |k+2,h1=>simp at h1
 ·exact(hf.cell (p:=⟨b',_,none⟩) hb (λe2=>e1 e2)).trans hc
theorem Zc8 {w:World} (data:ByteArray) (hd:data.size<=1000000000) (c n:Nat) (s1 s2:List UInt8) (h1:rnum (toL data) 1=some (c,s1)) (h2:rnum s1 4096=some (n,s2)):
  Calls Tryz.prog 111 #[.string data] w λx w'=>Z2l w (YO (toL data)) x w':=by
 have jD:YO (toL data)=match Y8 n s2 with
   |none=>none
   |some (ws,s3)=>
    match ZH s3 data.size with
    |none=>none
    |some (a,s4)=>fin c ws (decn a 4096) (decn s4 4096):=by
  unfold YO;rw[h1];simp only;rw[h2];rfl
 have gD:=h_ jD;obtain⟨n1,cq,cC⟩:=Zp h1;obtain⟨n2,bo,dt⟩:=Zp h2;have Mn:numR data 0 1=(c,bs s1,0):=n1;have Mp:numR (bs s1) 0 4096=(n,bs s2,0):=n2;rw[Z1] at cC;have H0:=h_ (ZN data w)
 have H1:=h_ (λW (h:RV W w.heap.size data 0)=>by
  have:=Zi h (by omega) 1;rw[Mn] at this;exact this)
 have H2:=h_ (λW (h:RV W w.heap.size (bs s1) 0)=>by
  have:=Zi h (by rw[Z0];omega) 4096;rw[Mp] at this;exact this)
 obtain⟨i0,hi,du,bN,eB⟩:=info_parts YC;have mh:=h_ (And.intro hi (And.intro du (And.intro bN eB)));have hl:s2.length<=data.size:=(by omega);clear h1 h2 jD n1 n2 Mn Mp cC dt hi du bN eB;go_enter Tryz.func111,Tryz.ntmps111;go_wp2_with fail;refine(H0.o).mono ?_;rintro x w1 ⟨rfl,cF,a7⟩;go_wp2_with fail;refine(H1.o _ cF).mono ?_;rintro x w2 ⟨rfl,bP,ai⟩;have a8:=Zb a7 UZz ai;clear cF a7 ai;go_wp2_with fail;refine(H2.o _ bP).mono ?_;rintro x w3 ⟨rfl,eU,aO⟩;have af:=Zb a8 UZz aO;clear bP a8 aO H0 H1 H2;go_wp2;go_loopw [7,23] (λv7 i wr=>∃(ws:List ByteArray) (sk:List UInt8),ws.length<=n/\i=.int .i64 (ws.length:Nat)/\wr.ownsRow w.heap.size 9 1 v7 ws.length (svs ws)/\RV wr w.heap.size (bs sk) 0/\sk.length<=data.size/\Hid (Y8 n s2=(Y8 (n-ws.length) sk).map (λx=>(ws++x.1,x.2)))/\Below w.heap.size w wr) (λ_ i _=>(n-intOf i).toNat);case atStart=>exact⟨[],s2,by simp,rfl,Zk,eU,hl,h_ (by simp),af⟩
 case round=>
  clear eU af;obtain⟨ws,sk,hk,rfl,aa,Ah,rj,vw,hf⟩:=hrel;obtain⟨A5,aY,pq,_⟩:=Zl aa;subst pq;have cA:=h_ aa;have Mq:=h_ Ah;by_cases ab:ws.length<n
  ·obtain⟨t,S,e,gS,bz⟩:=X4 sk 128;have H3:=h_ (ZO Ah (by rw[Z0];omega) 128);have Ai:ZR (bs sk) 0 128=(t,S,e):=gS;rw[Ai] at H3;have nr:n-ws.length=(n-(ws.length+1))+1:=(by omega);have dh:=h_ bz;have xZ:=h_ vw.o;rw[nr] at xZ;have Hf:=h_ hf;have so:=h_ rj;clear bz gS Ai vw aa Ah hf nr rj;go_wp2_with fail;refine(H3.o).mono ?_;rintro x w4 ⟨rfl,gO,aF⟩;have Aj:=Zn cA.o aF (λg hg (e:g=w.heap.size)=>Z2 cA.o Mq.o (by decide) (e▸hg));have ax:=Zb Hf.o UZz aF;have mi:=h_ gO;have vH:=h_ Aj;have bh:=h_ ax;have bx:=ax.size;have dB:ws.length+1<=maxLen:=(by unfold maxLen;omega);have eA:(ws.length+1)*16<=140737488355328:=(by omega);clear gO Aj ax aF;obtain⟨hi,du,bN,eB⟩:=mh.o
   go_wp2_with (
    at_builtin;refine wpList_append_own_at _ rfl (.tmp 25) (.tmp 28) _ rfl w.heap.size 9 i0 (.string ByteArray.empty) 1 16 Tryz.underlying64 hi du bN eB rfl (by omega) (.slice A5 ws.length aY) ws.length (svs ws) (by rfl) (vH.o.alloc _) ⟨_,0,none⟩ 1 1 [.string t] (by rfl) rfl (XC _ _ _) (by simp[Value.oneCell']) dB eA (Vaq bx (by simp)) ?_;intro v' w5 ah dm _ cQ;have aI:=h_ ah;have gA:=h_ dm;clear ah dm cQ)
   have yd:RV w5 w.heap.size S e:=Bk.grown (Bk.alloc mi.o (.cells #[.string t] 9)) gA.o (λe=>Z2 vH.o mi.o (by decide) e.symm);have rn:Below w.heap.size w w5:=(bh.o.alloc bx (.cells #[.string t] 9)).grown gA.o (Vaq bx (by simp)) (λj hj=>(vH.o.lt j hj).1)
   have Mr:w5.ownsRow w.heap.size 9 1 v' (ws++[t]).length (svs (ws++[t])):=by
    have:=aI.o;rw[Vab,Zfn];exact this
   have H4:=h_ (Za yd);have sq:=h_ yd;have sr:=h_ rn;have Sx:=h_ Mr;clear yd rn Mr aI gA vH mi bh dB eA bx hi du bN eB;go_wp2_with fail;refine(H4.o).mono ?_;rintro x w6 ⟨rfl,rfl⟩;rcases dh.o with ⟨he,a,u,pQ,rfl,rfl,pz,_⟩|⟨he,pQ⟩
   ·subst he;have hm:=xZ.o;rw[Z55 pQ] at hm
    have Hm:Hid (Y8 n s2=(Y8 (n-(ws++[bs a]).length) u).map (λx=>(ws++[bs a]++x.1,x.2))):=h_ (by
     rw[hm,Vab,Option.map_map];simp[Function.comp_def])
    have hlen:(ws++[bs a]).length=ws.length+1:=(by simp);clear hm pQ;go_wp2;go_roundw;case rel=>exact⟨ws++[bs a],u,by omega,by rw[hlen];go_num,Sx.o,sq.o,Vaq pz so.o,Hm,sr.o⟩
    case measure=>simp[intOf]<;>omega
   ·have hm:=xZ.o;rw[Z56 pQ] at hm
    have hr:YO (toL data)=none:=by
     rw[gD.o,hm];rfl
    have Hr:=h_ hr;have az:((e:Int) !=0)=true:=(by rw[Va0];omega);clear hm pQ hr he;go_wp2;go_returns;rw[Hr.o];exact XO sr.o
  ·have cL:n-ws.length=0:=(by omega);have ss:=vw.o;rw[cL,Y8] at ss;simp only[Vch,Va3] at ss;have cG:=gD.o;rw[ss] at cG;simp only at cG;have lO:=h_ cG;obtain⟨t,S,e,gS,bz⟩:=X4 sk data.size;have H3:=h_ (ZO Ah (by rw[Z0];omega) (data.size:Int));rw[gS] at H3;have dh:=h_ bz;have Hf:=h_ hf;have SH:ws.length=n:=(by omega);clear bz gS vw Ah hf cL ss cG gD aa;go_wp2_with fail;refine(H3.o).mono ?_;rintro x w4 ⟨rfl,gO,aF⟩;have Aj:=Zn cA.o aF (λg hg (e:g=w.heap.size)=>Z2 cA.o Mq.o (by decide) (e▸hg));have ax:=Zb Hf.o UZz aF;have H4:=h_ (Za gO);have mi:=h_ gO;have bh:=h_ ax;have vH:=h_ Aj;clear gO Aj ax aF H3 cA Hf;go_wp2_with fail;refine(H4.o).mono ?_;rintro x w6 ⟨rfl,rfl⟩;clear H4;rcases dh.o with ⟨he,a,u,pQ,rfl,rfl,pz,kG,W7⟩|⟨he,pQ⟩
   ·subst he;have cG:=lO.o;rw[pQ] at cG;simp only at cG;have Ak:=h_ (λW=>ZP (w:=W) a (by omega) 4096);have vI:=h_ (λW=>ZP (w:=W) u (by omega) 4096);obtain⟨g1,k1⟩:=Xw a 4096;obtain⟨g2,k2⟩:=Xw u 4096;have HL:=h_ (λW (h:RV W w.heap.size (bs u) 0)=>Zt h (by rw[Z0];omega))
    have HT:=h_ (λW (h:RV W w.heap.size (bs u) 0)=>by
     have:=Zu h (by rw[Z0];omega) ((bs u).size:Int);rw[Z0a] at this;exact this)
    generalize decn a 4096=DA at*;generalize decn u 4096=DB at*;obtain⟨LA,ea⟩:=DA;obtain⟨LB,eb⟩:=DB;simp only at g1 k1 g2 k2;have fO:=h_ cG;have G2:=h_ g2;clear cG pQ dh lO pz g1 g2;generalize bs a=SA at*;generalize bs u=SU at*;go_wp2_with fail;refine(Ak.o _).mono ?_;rintro x w7 ⟨v7,rfl,⟨A7,c7,rfl,lq⟩,eM⟩;have vJ:=Bk.lt mi.o;have E2:RV w7 w.heap.size SU 0:=Bk.below mi.o eM vJ;have Al:=bh.o.trans (eM.mono bh.o.size);have Mt:=Zn vH.o (Fr.of_below (S:=nob) eM) (λg hg h=>h);have Mu:=h_ (HL.o _ E2);have Mv:=h_ (HT.o _ E2);have An:=h_ lq;have GW:=h_ Mt;have Ao:=h_ Al;have GY:=h_ E2;clear HL HT E2 lq Mt Al eM vJ vH mi bh Ak;go_wp2_with fail;refine(Mu.o).mono ?_;rintro x w8 ⟨rfl,rfl⟩;go_wp2_with fail;refine(Mv.o).mono ?_;rintro x w8 ⟨rfl,Mw,su⟩;have Ap:=Zb Ao.o UZz su;have pR:=Zc7 An.o GY.o Mw su;have Aq:=Zn GW.o su (λg hg (e:g=w.heap.size)=>Z2 GW.o GY.o (by decide) (e▸hg));have sw:=h_ pR;have Mx:=h_ Aq;have vK:=h_ Ap;clear Mw su pR Aq Ap Mu Mv An GW Ao GY;go_wp2_with fail;refine(vI.o _).mono ?_;rintro x w9 ⟨v9,rfl,⟨B9,c9,rfl,fx⟩,bZ⟩;simp only at fx;have pM:=sw.o.below bZ;have Ar:=Zn Mx.o (Fr.of_below (S:=nob) bZ) (λg hg h=>h);have As:=vK.o.trans (bZ.mono vK.o.size);obtain⟨AW,cW,SJ,pS⟩:=Zl Ar;injection SJ with bk bj ei;subst bk;subst ei;have vL:=h_ pM;have Au:=h_ fx;have Av:=h_ pS;have nz:=h_ As;clear pM fx pS As Ar bZ sw Mx vK vI bj;have aP:=fO.o;unfold fin at aP;simp only at aP;by_cases c1:ea≠0\/eb≠0\/LA.length≠LB.length
    ·rw[Vaf c1] at aP;have Hr:=h_ aP
     have q1:((ea:Int) !=0)=true\/(((ea:Int) !=0)=false/\((eb:Int) !=0)=true)\/(((ea:Int) !=0)=false/\((eb:Int) !=0)=false/\((LA.length:Int) !=(LB.length:Int))=true):=by
      by_cases d1:ea=0
      ·by_cases d2:eb=0
       ·right;right;refine⟨by rw[d1];rfl,by rw[d2];rfl,by rw[Va0];omega⟩
       ·right;left;refine⟨by rw[d1];rfl,by rw[Va0];omega⟩
      ·left;rw[Va0];omega
     clear c1 aP;rcases q1 with q1|⟨q1,q2⟩|⟨q1,q2,q3⟩
     all_goals
      go_wp2;go_returns;rw[Hr.o];exact XO nz.o
    ·rw[Vad c1] at aP;have d1:ea=0:=(by omega);have d2:eb=0:=(by omega);have d3:LA.length=LB.length:=(by omega);subst d1;subst d2;have q3:((LA.length:Int) !=(LB.length:Int))=false:=(by rw[bne_eq_false_iff_eq];omega);have q1:(((0:Nat):Int) !=0)=false:=rfl;have HU:=h_ (Z4O vL.o LA.length c7 rfl (by omega))
     have ye:(ZL LA).2=0->(ZL LA).1.length=LA.length:=by
      unfold ZL;split
      ·intro _;simp[YX]
      ·rename_i h;intro h2;exact absurd h2 h
     have bR:=h_ aP;have D3:=h_ d3;clear c1 aP d3 k2;have pP:c=1\/c≠1:=(by omega);go_upto_if 68 with fail
     go_cut [9] (λs9 wx=>∃(I:List Int) (A9:Option Addr) (iF:Nat),s9=.slice A9 LA.length iF/\I.length=LA.length/\At wx A9 (ivs I)/\Below w9.heap.size w9 wx/\
      Hid (YO (toL data)=if ∃v∈LB,4096<=v then none else if(ZD ws (I.zip (LB.map (· +1))) []).2=0 then some (ZD ws (I.zip (LB.map (· +1))) []).1 else none))
     case first=>
      rcases pP with h1|h1
      ·have g0:((c:Int)==1)=true:=(by rw[beq_iff_eq];omega);have ai:=bR.o;simp only[h1,if_true,true_and] at ai;clear h1 bR cq;obtain⟨U,My⟩:∃U,ZL LA=U:=⟨_,rfl⟩;rw[My] at HU ye ai;clear My;obtain⟨UL,ue⟩:=U;simp only at ye ai;have cl:=h_ ai;have GZ:=h_ ye;clear ai ye;go_wp2_with fail;refine(HU.o).mono ?_;rintro x nA ⟨v10,rfl,⟨SK,SO,rfl,pT⟩,fy⟩;simp only at pT;have Aw:=h_ pT;clear pT HU;simp only[Vag];by_cases H9:ue=0
       ·subst H9;have hl:=GZ.o rfl;have aO:=cl.o;simp only[ne_eq,not_true,if_false] at aO;have gN:=h_ aO;rw[hl];clear aO cl GZ;go_wp2;go_meet;case rel=>exact⟨UL.map Int.ofNat,SK,SO,rfl,by rw[Vag,hl],Aw.o,fy,gN⟩
       ·have aO:=cl.o;rw[Vaf H9] at aO;have Hr:=h_ aO;have aS:=nz.o.trans (fy.mono nz.o.size);have q5:((ue:Int) !=0)=true:=(by rw[Va0];omega);clear aO cl GZ H9;go_wp2;go_returns;rw[Hr.o];exact XO aS
      ·have g0:((c:Int)==1)=false:=(by rw[Vam];omega);have ai:=bR.o;simp only[h1,if_false,false_and] at ai;have cl:=h_ ai;clear h1 bR cq ye HU ai;go_wp2;go_meet;case rel=>exact⟨LA,A7,c7,rfl,rfl,vL.o,Vae _ _,cl⟩
     case rest=>
      clear HU ye bR;obtain⟨I,A9,iF,rfl,Mz,nB,Az,tT⟩:=hcut;obtain⟨Z,hZ⟩:∃Z,I.zip (LB.map (· +1))=Z:=⟨_,rfl⟩;have HH:Z.length=LA.length:=(by rw[<-hZ,List.length_zip,Vag,<-D3.out,Mz,Nat.min_self]);have pU:=tT.o;rw[hZ] at pU;have vM:=h_ pU;have HZ:=h_ hZ;have bG:=Zfm (P:=Tryz.prog) 131 134 Tryz.underlying131 ZgR (LA.length:Int) LA.length rfl k1 wc;have pV:=h_ (Au.o.below Az);have pW:=h_ (Av.o.below Az);have vN:=h_ nB;have pX:=h_ (nz.o.trans (Az.mono nz.o.size));clear tT pU hZ nB Az Au Av vL nz;go_wp2;go_loopw [14,81] (λ_ i wr=>∃k:Nat,k<=LA.length/\i=.int .i64 k/\Bk wr wc.heap.size 134 (pcs (Z.take k++List.replicate (LA.length-k) (0,0)))/\Hid (∀v∈LB.take k,v<4096)/\Below wc.heap.size wc wr) (λ_ i _=>(LA.length-intOf i).toNat);case atStart=>exact⟨0,by omega,rfl,Bk.new _ _ _,h_ (by simp),(Vae _ _).alloc UZz _⟩
      case round=>
       obtain⟨k,hk,rfl,aD,ar,hf⟩:=hrel;by_cases ab:k<LA.length
       ·have MA:k<LB.length:=(by rw[<-D3.out];exact ab);have AA:k<I.length:=(by rw[Mz];exact ab);have SP:k<Z.length:=(by rw[HH];exact ab);obtain⟨v,hv⟩:∃v,LB[k]=v:=⟨_,rfl⟩;obtain⟨y,hy⟩:∃y,I[k]=y:=⟨_,rfl⟩
        have E3:Z[k]=(y,v+1):=by
         simp only[<-HZ.o,List.getElem_zip,Vcg,hy,hv]
        have qV:=G2.out v (hv▸Vak _);have vO:=pV.o.below hf;have nB:=vN.o.below hf;obtain⟨bB,oB,hB,Lr,W9⟩:=vO.get k (.int .i64 v) (by rw[<-hv];simp[ivs,iv,MA]);obtain⟨bI,oI,hI,Az,Wa⟩:=nB.get k (.int .i64 y) (by rw[<-hy];simp[ivs,iv,AA]);subst hB;subst hI;by_cases ff:(4096:Int)<=v
        ·have hr:=vM.o;rw[Vaf ⟨v,hv▸Vak _,ff⟩] at hr;have Hr:=h_ hr;have aS:=pX.o.trans (hf.mono pX.o.size);clear hr vM hv hy E3 vO nB aD bG;go_wp2;go_returns;rw[Hr.o];exact XO aS
        ·have hlen:(Z.take k).length=k:=(by rw[Vau];omega);have sx:=Zfl (Z.take k) LA.length (y,v+1) (0,0) (by omega);rw[hlen,<-E3,<-Vac SP] at sx;have zD:(Z.take k++List.replicate (LA.length-k) ((0,0):Int×Int)).length=LA.length:=(by rw[Vab,hlen,Vaw];omega);obtain⟨W,hW⟩:∃W,Z.take k++List.replicate (LA.length-k) ((0,0):Int×Int)=W:=⟨_,rfl⟩;rw[hW] at sx zD aD;obtain⟨MB,MD⟩:=Zil W k (by omega);obtain⟨m0,bO⟩:∃m:Int,wr.cell? ⟨wc.heap.size,k*2,none⟩=some (.int .i64 m):=⟨_,(aD.cell _).trans MB⟩;obtain⟨m1,cq⟩:∃m:Int,wr.cell? ⟨wc.heap.size,k*2+1,none⟩=some (.int .i64 m):=⟨_,(aD.cell _).trans MD⟩;have SQ:=aD.frozen (k*2);have SV:=aD.frozen (k*2+1);have aj:=(aD.put (k*2) (.int .i64 y)).put (k*2+1) (.int .i64 (v+1));have oP:=Zik W k (y,v+1) (by omega);simp only at oP;rw[oP,<-E3,sx] at aj;have aA:=h_ aj
         have df:Hid (∀u∈LB.take (k+1),u<4096):=h_ (by
          intro u hu;rw[Vac MA,hv] at hu;rcases Va9.1 hu with h|h
          ·exact ar.o u h
          ·rw[Vax] at h;omega)
         have i2:IntKind.i64.wrap (v+1)=v+1:=(by rw[IntWalk.i64_in _ (by omega)]);have eH:(0:Int)<=(k:Int):=(by omega);have nu:(k:Int)<(LA.length:Int):=(by omega);have SW:(k:Int)<(LB.length:Int):=(by omega);have Hf:=h_ hf;clear aj oP sx ar vO nB aD bG hv hy E3 MB MD hW zD hlen vM HZ pV pW vN G2 hf;go_upto_region 28 with fail;go_region;go_wp2;go_roundw;case rel=>exact⟨k+1,by omega,by go_num,aA.o,df,((Hf.o.setCell (p:=⟨wc.heap.size,k*2,none⟩) UZz _).setCell (p:=⟨wc.heap.size,k*2+1,none⟩) UZz _).drew⟩
         case measure=>simp[intOf]<;>omega
       ·have eH:k=LA.length:=(by omega);subst eH;rw[Va7,List.replicate_zero,Va3,<-HH,Vbx] at aD
        have df:¬∃v∈LB,(4096:Int)<=v:=by
         rintro⟨v,hv,h4⟩;have:=ar.o v (by rw[D3.out,Vbx];exact hv);omega
        have hr:=vM.o;rw[Vad df] at hr;have AB:At wr (some ⟨wc.heap.size,0,none⟩) (pv Z):=aD.at_;have pS:=pW.o.below hf;have aS:=pX.o.trans (hf.mono pX.o.size);have HE:=h_ (Z8R pS AB n aY LA.length LA.length SH.symm HH.symm (by omega) (by omega));obtain⟨⟨X,xe⟩,hX⟩:∃x,ZD ws Z []=x:=⟨_,rfl⟩;rw[hX] at hr HE;simp only at hr;have Hr:=h_ hr;have sy:=h_ aS;clear hX hr aS AB pS df ar aD bG hf vM HZ pV pW vN pX;go_wp2_with fail;refine(HE.o).mono ?_;rintro x E4 ⟨v11,rfl,sA,gk⟩;simp only at sA;have aS:=sy.o.trans (gk.mono sy.o.size);by_cases mR:xe=0
        ·subst mR;have fG:Hid (YO (toL data)=some X):=h_ (by rw[Hr.o,Vaf rfl]);have Hs:=h_ sA;clear Hr sA gk;go_wp2;go_returns;rw[fG.o];exact⟨v11,rfl,(λl h=>by injection h with h;subst h;exact Hs.o),aS⟩
        ·have fG:Hid (YO (toL data)=none):=h_ (by rw[Hr.o,Vad mR]);have q9:((xe:Int)==0)=false:=(by rw[Vam];omega);clear Hr sA gk mR;go_wp2;go_returns;rw[fG.o];exact XO aS
   ·have hr:YO (toL data)=none:=by
     rw[lO.o,pQ]
    have Hr:=h_ hr;have az:((e:Int) !=0)=true:=(by rw[Va0];omega);clear pQ hr he lO dh;go_wp2;go_returns;rw[Hr.o];exact XO bh.o
end Go.Proofs.YtchokmkfobandaaGreatDoor
