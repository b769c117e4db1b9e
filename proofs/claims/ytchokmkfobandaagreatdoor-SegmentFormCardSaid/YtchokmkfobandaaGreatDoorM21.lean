import Derived.Test.YtchokmkfobandaaGreatDoorM16
set_option linter.unusedVariables false
set_option linter.unusedSimpArgs false
set_option maxRecDepth 100000
set_option maxHeartbeats 8000000
namespace Go.Proofs.YtchokmkfobandaaGreatDoor
open Go.RowKit Go.Proofs Wv Wv.Vi Wv.Rc Wv.Mo Wv.Ru
def YJ (c:Nat) (D:List ByteArray) (k:Nat):List UInt8:=num c++num D.length++(D.take k).flatMap text
theorem Z0G (c:Nat) (D:List ByteArray) (k:Nat) (h:∀s∈D,s.size<=128) (hl:D.length<=4096):(YJ c D k).length<=600000:=by
 unfold YJ;have h1:=kof9 c;have h2:=kof9 D.length;have h3:=Zfa (D.take k) (λs hs=>h s (Vcd hs));have h4:(D.take k).length<=4096:=(by rw[Vau];omega);rw[Vab,Vab];omega
theorem Z6l (c:Nat) (D:List ByteArray) (k:Nat) (h:k<D.length):YJ c D (k+1)=YJ c D k++text D[k]:=by
 unfold YJ;rw[ZbK D k h,Vay,Vay,Vay]
def inx (R:List (Nat×Nat)):List Int:=R.map λx=>(x.1:Int)
def cnx (R:List (Nat×Nat)):List Int:=R.map λx=>(x.2:Int)-1
theorem Z1V (R:List (Nat×Nat)):(Yh R).length=R.length:=by simp[Yh]
theorem Zc6 (R:List (Nat×Nat)) (k:Nat) (h:k<R.length):(Yh R)[k]'(by rw[Z1V];exact h)=((R[k].1:Int),(R[k].2:Int)):=by simp[Yh]
theorem Zfo (R:List (Nat×Nat)) (k:Nat) (h:k<R.length):inx (R.take (k+1))=inx (R.take k)++[(R[k].1:Int)]:=by
 unfold inx;rw[Vac h,Vbk];rfl
theorem Zfp (R:List (Nat×Nat)) (k:Nat) (h:k<R.length):cnx (R.take (k+1))=cnx (R.take k)++[(R[k].2:Int)-1]:=by
 unfold cnx;rw[Vac h,Vbk];rfl
theorem Qw (l:List Int) (x:Int):ivs (l++[x])=ivs l++[.int .i64 x]:=by simp[ivs,iv]
theorem Z40 (l:List Int):(ivs l).length=l.length:=by simp[ivs]
structure Gath (wb w:World) (B:Nat) (v1 v2:Value) (I C:List Int):Prop where
 two:TwoSt wb B 3 v1 (ivs I) v2 (ivs C) w
theorem Z6m {w:World} {A:Option Addr} {l:List ByteArray} (c:Nat) (hc:c<=1) (ha:At w A (svs l)) (kP:∀s∈l,s.size<=128) (n cap:Nat) (hn:n=l.length) (hm:n<=4096):
  Calls Tryz.prog 58 #[.int .i64 (c:Int),.slice A n cap] w λx w'=>ERes w (encB c l,0) x w':=by
 have hL:=Z7B ha (λs hs=>by have:=kP s hs;omega) n cap hn hm;have hl:Z6b l=false:=Vah (by rintro⟨s,h1,h2⟩;have:=kP s h1;omega);rw[hl] at hL;have HL:=h_ hL;have Hd:=h_ (Z2y ha n cap hn hm);have Ha:=h_ ha;have Hn:=h_ hn;obtain⟨D,hD⟩:∃D,dict l=D:=⟨_,rfl⟩;have tO:=Ym l;have pM:=Z1A kP;rw[hD] at tO pM;have LD:D.length<=4096:=(by omega);have H1:=λw=>Zh (c:Int) (by omega) (by omega) w;have H2:=λw=>Zh (D.length:Int) (by omega) (by omega) w;simp only[Vav] at H1 H2;have k1:=kof9 c;have k2:=kof9 D.length;rw[<-Z0] at k1 k2;have Ac:bs (num c)++bs (num D.length)=bs (YJ c D 0):=(by rw[Zf];unfold YJ;simp);rw[hD] at Hd;have HD:=h_ hD;have pN:=h_ pM;have Ad:=h_ Ac;generalize bs (num c)=s1 at*;generalize bs (num D.length)=s2 at*;have H1:=h_ H1;have H2:=h_ H2;have Lo:¬(4096:Int)<(n:Int):=(by omega)
 have ju:(((c:Int) !=0)&&((c:Int) !=1))=false:=by
  have:c=0\/c=1:=(by omega);rcases this with rfl|rfl<;>rfl
 have pO:((c:Int) !=0)=false\/(((c:Int) !=0)=true/\((c:Int) !=1)=false):=by
  have:c=0\/c=1:=(by omega);rcases this with rfl|rfl
  ·exact .inl rfl
  ·exact .inr ⟨rfl,rfl⟩
 clear ha hn hL hl hD pM Ac kP tO ju;go_enter Tryz.func58,Tryz.ntmps58;go_upto_region 1 with fail;go_cut [23] (λRv wx=>Rv=.bool false/\w=wx)
 case first=>
  rcases pO with g0|⟨g0,g1⟩
  ·go_wp2;go_meet;case rel=>exact⟨rfl,rfl⟩
  ·go_wp2;go_meet;case rel=>exact⟨rfl,rfl⟩
 case rest=>
  obtain⟨rfl,rfl⟩:=hcut;clear pO;go_wp2_with fail;refine(HL.o).mono ?_;rintro x w1 ⟨rfl,rfl⟩;go_wp2_with fail;refine(Hd.o).mono ?_;rintro x w1 ⟨v6,rfl,⟨AD,Rw,rfl,Ae⟩,a7⟩;go_wp2_with fail;refine(H1.o _).mono ?_;rintro x w2 ⟨rfl,a8⟩;go_wp2_with fail;refine(H2.o _).mono ?_;rintro x w3 ⟨rfl,af⟩;have vB:=a8.trans (af.mono a8.size);have tR:=Ae.below vB;have fx:=a7.trans (vB.mono a7.size);clear a7 a8 af vB Ae;go_wp2;rw[Ad.o];go_loopw [7,9,41] (λout _ i wr=>∃k:Nat,k<=D.length/\i=.int .i64 k/\out=.string (bs (YJ c D k))/\At wr AD (svs D)/\Below w.heap.size w wr) (λ_ _ i _=>(D.length-intOf i).toNat);case atStart=>exact⟨0,by omega,rfl,rfl,tR,fx⟩
  case round=>
   clear tR fx HL Hd H1 H2 Ad;obtain⟨k,hk,rfl,rfl,an,hf⟩:=hrel;have fD:=Z0G c D k pN.o LD;rw[<-Z0] at fD;by_cases ab:k<D.length
   ·obtain⟨s,hs⟩:∃s,D[k]=s:=⟨_,rfl⟩;have tS:=pN.o s (hs▸Vaj _);obtain⟨bA,oA,hA,eD,kQ⟩:=an.get k (.string s) (by rw[Ys D k ab,hs]);subst hA;have Ht:=λw=>XI s (by omega) w;have eZ:=Z7G s tS;rw[<-Z0] at eZ;have iT:bs (YJ c D k)++bs (text s)=bs (YJ c D (k+1)):=(by rw[Zf,Z6l c D k ab,hs]);have bJ:=h_ an;generalize bs (YJ c D k)=S1 at*;generalize bs (text s)=S2 at*;have pP:=h_ iT;have Ht:=h_ Ht;clear iT hs an tS;go_wp2_with fail;refine(Ht.o _).mono ?_;rintro x w4 ⟨rfl,au⟩;have dZ:=bJ.o.below au;have aG:=hf.trans (au.mono hf.size);clear au;go_wp2;go_roundw;case rel=>exact⟨k+1,by omega,by go_num,by rw[pP.o],dZ,aG⟩
    case measure=>simp[intOf]<;>omega
   ·have Rx:k=D.length:=(by omega);subst Rx;have pQ:=Ha.o.below hf;have Hr:=Zf9 pQ n cap Hn.o hm;obtain⟨R,hR⟩:∃R,runs (dict l) l=R:=⟨_,rfl⟩;have pR:=Yn (dict l) l;have Gy:=Qo (dict l) l;rw[hR] at Hr pR Gy;have HR:=h_ hR;have LF:=h_ Gy;have Gz:R.length<=4096:=(by rw[<-Hn.o] at pR;omega);have Hr:=h_ Hr;clear hR Gy pR;have Hf:=h_ hf;clear an pQ hf ab;go_wp2_with fail;refine(Hr.o).mono ?_;rintro x w4 ⟨AR,Ry,rfl,Ah,au⟩;have aG:=Hf.o.trans (au.mono Hf.o.size);clear au;simp only[Z1V];have bJ:=h_ Ah;have cH:=h_ aG;clear Ah aG;go_wp2;go_loopw [10,11,13,53] (λv10 v11 _ i wr=>∃k:Nat,k<=R.length/\i=.int .i64 k/\TwoSt w4 w4.heap.size 3 v10 (ivs (inx (R.take k))) v11 (ivs (cnx (R.take k))) wr) (λ_ _ _ i _=>(R.length-intOf i).toNat);case atStart=>exact⟨0,by omega,rfl,⟨Zk,Zk,by simp[Value.ownBlock],Vae _ _,UZz⟩⟩
    case round=>
     obtain⟨q,hq,rfl,rp⟩:=hrel;by_cases bS:q<R.length
     ·have hI:=Zfo R q bS;have hC:=Zfp R q bS;obtain⟨⟨ri,rc⟩,hrq⟩:∃x,R[q]=x:=⟨_,rfl⟩;have uX:=LF.o R[q] (Vaj _);have fb:=Z7s (Yh R) q (by rw[Z1V];exact bS);rw[Zc6 R q bS] at fb;rw[hrq] at hI hC uX fb;simp only at hI hC uX fb;have Rz:(ivs (inx (R.take q))).length<=4096:=(by rw[Z40];unfold inx;rw[Vag,Vau];omega);have RA:(ivs (cnx (R.take q))).length<=4096:=(by rw[Z40];unfold cnx;rw[Vag,Vau];omega);have vC:=bJ.o.below rp.bel;obtain⟨bB,oB,hB,Lm,nA⟩:=vC.get (q*2) _ fb.1;obtain⟨Rf,Rg,oj,_,jO⟩:=vC.get (q*2+1) _ fb.2;rw[hB] at oj;injection oj with oj
      injection oj with yb vt;subst yb;subst vt;subst hB;unfold iv at nA jO;have pB:wr.cell? ⟨bB,oB+q*2+1,none⟩=some (.int .i64 (rc:Int)):=jO;have Vq:rc<=4096:=(by have:=Hn.o;omega);have i2:IntKind.i64.wrap ((rc:Int)-1)=(rc:Int)-1:=(by rw[IntWalk.i64_in _ (by omega)]);obtain⟨X,hX⟩:∃X,ivs (inx (R.take q))=X:=⟨_,rfl⟩;obtain⟨Y,hY⟩:∃Y,ivs (cnx (R.take q))=Y:=⟨_,rfl⟩;rw[hX] at rp Rz;rw[hY] at rp RA;have HI:Hid (ivs (inx (R.take (q+1)))=X++[.int .i64 (ri:Int)]):=h_ (by rw[hI,Qw,hX]);have HC:Hid (ivs (cnx (R.take (q+1)))=Y++[.int .i64 ((rc:Int)-1)]):=h_ (by rw[hC,Qw,hY]);have hW:=rp.alloc (.cells #[.int .i64 (ri:Int),.int .i64 (rc:Int)] 134);have DN:=Bk.new wr 134 #[.int .i64 (ri:Int),.int .i64 (rc:Int)];obtain⟨t1,t2,t3⟩:=Z7h (P:=Tryz.prog) 31 3 _ 8 Tryz.underlying31 ZS rfl hW (.int .i64 (ri:Int)) (.int .i64 ((rc:Int)-1)) (by rfl) (by rfl) (by unfold maxLen;omega) (by omega) (by unfold maxLen;omega) (by omega) _ _ _ DN (by decide);obtain⟨t4,t5,t6⟩:=Z7h (P:=Tryz.prog) 31 3 _ 8 Tryz.underlying31 ZS rfl hW.swap (.int .i64 ((rc:Int)-1)) (.int .i64 (ri:Int)) (by rfl) (by rfl) (by unfold maxLen;omega) (by omega) (by unfold maxLen;omega) (by omega) _ _ _ DN (by decide);simp only[World.size_alloc] at t1 t2 t3 t4 t5 t6;clear hI hC fb hrq vC hX hY rp hW uX jO;obtain⟨Vr,LG,Vt,LH,LI,LJ,GA,GB,GC⟩:=t1;have DO:=h_ LI;have DP:=h_ LJ;have RB:=h_ GA;have RC:LG.cell? ⟨wr.heap.size,0,none⟩=some (.int .i64 (ri:Int)):=GB.cell 0;have RE:LG.cell? ⟨wr.heap.size,1,none⟩=some (.int .i64 (rc:Int)):=GB.cell 1;have RF:LH.cell? ⟨wr.heap.size,0,none⟩=some (.int .i64 (ri:Int)):=GC.cell 0;have RG:LH.cell? ⟨wr.heap.size,1,none⟩=some (.int .i64 (rc:Int)):=GC.cell 1;clear LI LJ GA GB GC;obtain⟨Vu,LK,Vv,LL,LM,LN,GD,GE,GF⟩:=t2;have DQ:=h_ LM;have DS:=h_ LN;have RH:=h_ GD;have RI:LK.cell? ⟨wr.heap.size,0,none⟩=some (.int .i64 (ri:Int)):=GE.cell 0;have RJ:LK.cell? ⟨wr.heap.size,1,none⟩=some (.int .i64 (rc:Int)):=GE.cell 1;have RK:LL.cell? ⟨wr.heap.size,0,none⟩=some (.int .i64 (ri:Int)):=GF.cell 0;have RM:LL.cell? ⟨wr.heap.size,1,none⟩=some (.int .i64 (rc:Int)):=GF.cell 1;clear LM LN GD GE GF;obtain⟨Vw,LO,Vx,LP,LQ,LR,LU,GH,GI⟩:=t3;have DT:=h_ LQ;have DU:=h_ LR;have RN:=h_ LU;have RO:LO.cell? ⟨wr.heap.size,0,none⟩=some (.int .i64 (ri:Int)):=GH.cell 0;have RP:LO.cell? ⟨wr.heap.size,1,none⟩=some (.int .i64 (rc:Int)):=GH.cell 1;have RQ:LP.cell? ⟨wr.heap.size,0,none⟩=some (.int .i64 (ri:Int)):=GI.cell 0;have RR:LP.cell? ⟨wr.heap.size,1,none⟩=some (.int .i64 (rc:Int)):=GI.cell 1;clear LQ LR LU GH GI;obtain⟨Vy,LV,Vz,LW,LX,LY,LZ,GJ,GK⟩:=t4;have DW:=h_ LX;have DX:=h_ LY;have RT:=h_ LZ;have RU:LV.cell? ⟨wr.heap.size,0,none⟩=some (.int .i64 (ri:Int)):=GJ.cell 0;have RW:LV.cell? ⟨wr.heap.size,1,none⟩=some (.int .i64 (rc:Int)):=GJ.cell 1;have RX:LW.cell? ⟨wr.heap.size,0,none⟩=some (.int .i64 (ri:Int)):=GK.cell 0;have RY:LW.cell? ⟨wr.heap.size,1,none⟩=some (.int .i64 (rc:Int)):=GK.cell 1;clear LX LY LZ GJ GK;obtain⟨VA,M0,VB,M4,M7,Ma,Mb,GL,GN⟩:=t5;have DY:=h_ M7;have DZ:=h_ Ma;have RZ:=h_ Mb;have S8:M0.cell? ⟨wr.heap.size,0,none⟩=some (.int .i64 (ri:Int)):=GL.cell 0;have S9:M0.cell? ⟨wr.heap.size,1,none⟩=some (.int .i64 (rc:Int)):=GL.cell 1;have Sa:M4.cell? ⟨wr.heap.size,0,none⟩=some (.int .i64 (ri:Int)):=GN.cell 0;have Sb:M4.cell? ⟨wr.heap.size,1,none⟩=some (.int .i64 (rc:Int)):=GN.cell 1;clear M7 Ma Mb GL GN;obtain⟨VC,Mc,VD,Md,Me,Mf,Mg,GO,GP⟩:=t6;have E1:=h_ Me;have E2:=h_ Mf;have Sc:=h_ Mg;have Sd:Mc.cell? ⟨wr.heap.size,0,none⟩=some (.int .i64 (ri:Int)):=GO.cell 0;have Se:Mc.cell? ⟨wr.heap.size,1,none⟩=some (.int .i64 (rc:Int)):=GO.cell 1;have Sf:Md.cell? ⟨wr.heap.size,0,none⟩=some (.int .i64 (ri:Int)):=GP.cell 0;have Sh:Md.cell? ⟨wr.heap.size,1,none⟩=some (.int .i64 (rc:Int)):=GP.cell 1;clear Me Mf Mg GO GP;have x0:(wr.alloc (.cells #[.int .i64 (ri:Int),.int .i64 (rc:Int)] 134)).cell? ⟨wr.heap.size,0,none⟩=some (.int .i64 (ri:Int)):=DN.cell 0;have x1:(wr.alloc (.cells #[.int .i64 (ri:Int),.int .i64 (rc:Int)] 134)).cell? ⟨wr.heap.size,1,none⟩=some (.int .i64 (rc:Int)):=DN.cell 1;have n0:=World.new_ne _ _ x0;have n1:=World.new_ne _ _ x1;go_upto_region 16 with fail
      go_region_held3 (λW=>W.cell? ⟨wr.heap.size,0,none⟩=some (.int .i64 (ri:Int))/\W.cell? ⟨wr.heap.size,1,none⟩=some (.int .i64 (rc:Int))) (first|go_keep)
       ((first|refine Z5 (by with_reducible rfl) (by rfl) _ _ _ (by rfl) _ _ (by rfl) (by rfl) DO.out ?_|refine Z5 (by with_reducible rfl) (by rfl) _ _ _ (by rfl) _ _ (by rfl) (by rfl) DP.out ?_|refine Z5 (by with_reducible rfl) (by rfl) _ _ _ (by rfl) _ _ (by rfl) (by rfl) DQ.out ?_|refine Z5 (by with_reducible rfl) (by rfl) _ _ _ (by rfl) _ _ (by rfl) (by rfl) DS.out ?_|refine Z5 (by with_reducible rfl) (by rfl) _ _ _ (by rfl) _ _ (by rfl) (by rfl) DT.out ?_|refine Z5 (by with_reducible rfl) (by rfl) _ _ _ (by rfl) _ _ (by rfl) (by rfl) DU.out ?_|refine Z5 (by with_reducible rfl) (by rfl) _ _ _ (by rfl) _ _ (by rfl) (by rfl) DW.out ?_|refine Z5 (by with_reducible rfl) (by rfl) _ _ _ (by rfl) _ _ (by rfl) (by rfl) DX.out ?_|refine Z5 (by with_reducible rfl) (by rfl) _ _ _ (by rfl) _ _ (by rfl) (by rfl) DY.out ?_|refine Z5 (by with_reducible rfl) (by rfl) _ _ _ (by rfl) _ _ (by rfl) (by rfl) DZ.out ?_|refine Z5 (by with_reducible rfl) (by rfl) _ _ _ (by rfl) _ _ (by rfl) (by rfl) E1.out ?_|refine Z5 (by with_reducible rfl) (by rfl) _ _ _ (by rfl) _ _ (by rfl) (by rfl) E2.out ?_))
      all_goals
       go_wp2;go_roundw
       case rel=>
        refine⟨q+1,by omega,by go_num,?_⟩;rw[HI.o,HC.o];first|exact RB.out|exact RH.out|exact RN.out|exact RT.out.swap|exact RZ.out.swap|exact Sc.out.swap
       case measure=>simp[intOf]<;>omega
     ·have Si:q=R.length:=(by omega);subst Si;rw[Vbx] at rp
      have hI:inx R=(idxs l).map Int.ofNat:=by
       unfold inx idxs;rw[HR.o,Vb7];rfl
      have hC:cnx R=(cnts l).map Int.ofNat:=by
       unfold cnx cnts;rw[HR.o,Vb7];refine List.map_congr_left λx hx=> ?_;have:=(LF.o x hx).2.1;show(x.2:Int)-1=((x.2-1:Nat):Int);omega
      have bW:(ivs (inx R)).length=R.length:=(by rw[Z40];simp[inx]);have dz:(ivs (cnx R)).length=R.length:=(by rw[Z40];simp[cnx]);obtain⟨A1,c1,rfl,cT⟩:=Zm rp.own1;obtain⟨A2,c2,rfl,bL⟩:=Zm rp.own2;have fJ:l.length<=4096:=(by rw[<-Hn.o];exact hm);have GQ:(idxs l).length=R.length:=(by rw[XF,HR.o]);have GR:(cnts l).length=R.length:=(by rw[XG,HR.o]);have GS:(Ye c l).length=R.length:=(by rw[YB,HR.o]);rw[hI] at cT;rw[hC] at bL;have dx:=cH.o.trans (rp.bel.mono cH.o.size);have fy:=h_ cT;have kT:=h_ bL;have Ai:=h_ dx
      have pS:front ((idxs l).map Int.ofNat)=(Yb r0 (idxs l),0):=by
       unfold front
       rw[Vaf (Z1z (by rw[Vag,GQ];exact Gz) (λn hn=>by
        obtain⟨m,hm,rfl⟩:=Va6.1 hn;have:=Z3o l fJ m hm;exact⟨by simp,by simp;omega⟩)),YY]
      have HF:=h_ (Z8R cT R.length c1 (by rw[Vag,GQ]) (by omega));rw[pS] at HF;have Sj:=h_ (Z02 c l fJ);have Sk:=h_ (Z1B l fJ);have Aj:=XM (Ye c l) (λv hv=>by have:=Z02 c l fJ v hv;omega);have Ak:=XM (cnts l) (λv hv=>by have:=Z1B l fJ v hv;omega);rw[GS] at Aj;rw[GR] at Ak;have fD:=Z0G c D D.length pN.o LD;have Mh:encA c l=encn (Ye c l):=rfl
      have gR:(text (bs (encn (Ye c l)))).length<=600000:=by
       unfold text;rw[Vab,Zd];have:=kof9 (bs (encn (Ye c l))).size;omega
      have mu:Hid (bs (YJ c D D.length)++bs (text (bs (encn (Ye c l))))++bs (encn (cnts l))=bs (encB c l)):=h_ (by
       rw[Zf,Zf];unfold YJ encB text;rw[Vbx,HD.o,Mh,Zd,Z0])
      have GT:=h_ GS;have Mi:=h_ GR;have Mj:(bs (encn (Ye c l))).size<=1099511627776:=(by rw[Z0];omega);have Ht:=λw=>XI (bs (encn (Ye c l))) Mj w;have pT:c=0\/c=1:=(by omega);have H0:Hid (c=0->Ye c l=idxs l):=h_ (λh=>by subst h;rfl);have H1:Hid (c=1->Ye c l=Yb r0 (idxs l)):=h_ (λh=>by subst h;rfl);rw[<-Z0] at fD Ak gR;generalize bs (YJ c D D.length)=S1 at*;generalize bs (text (bs (encn (Ye c l))))=S2 at*;have Ht:=h_ Ht;clear bS hq rp cT bL dx hI hC GQ GR GS pS Mh Aj Mj;rw[bW,dz];go_upto_if 70 with fail;go_cut [10] (λlh wx=>∃A cap,lh=.slice A R.length cap/\At wx A (ivs ((Ye c l).map Int.ofNat))/\Below wr.heap.size wr wx)
      case first=>
       rcases pT with bP|bP
       ·have g0:¬((c:Int)=1):=(by omega);have Al:=h_ (H0.o bP);clear H0 H1 bP;go_wp2;go_meet;case rel=>exact⟨A1,c1,rfl,by rw[Al.o];exact fy.o,Vae _ _⟩
       ·have g0:((c:Int)==1)=true:=(by rw[beq_iff_eq];omega);have yh:=h_ (H1.o bP);have GU:Hid ((Yb r0 (idxs l)).length=R.length):=h_ (by rw[<-yh.o,GT.o]);clear H0 H1 bP hc;go_wp2_with fail;refine(HF.o).mono ?_;rintro x w5 ⟨v5,rfl,⟨A5,bo,rfl,bp⟩,aB⟩;go_wp2;go_meet;case rel=>exact⟨A5,bo,by rw[GU.o],by rw[yh.o];exact bp,aB⟩
      case rest=>
       obtain⟨A5,bo,rfl,bp,aB⟩:=hcut;clear HF H0 H1 pT;have kF:=h_ (Yx bp R.length bo GT.o.symm (by rw[GT.o];exact Gz) (λv hv=>by have:=Sj.o v hv;omega));have gS:=Ai.o.trans (aB.mono Ai.o.size);have tT:=kT.o.below aB;clear bp aB;go_wp2_with fail;refine(kF.o).mono ?_;rintro x w6 ⟨rfl,bQ⟩;have ss:=h_ (Yx (tT.below bQ) R.length c2 Mi.o.symm (by rw[Mi.o];exact Gz) (λv hv=>by have:=Sk.o v hv;omega));have vD:=gS.trans (bQ.mono gS.size);clear tT bQ gS;go_wp2_with fail;refine(ss.o).mono ?_;rintro x w7 ⟨rfl,eA⟩;have vE:=vD.trans (eA.mono vD.size);generalize bs (encn (Ye c l))=S3 at*;generalize bs (encn (cnts l))=S4 at*;clear eA vD;go_wp2_with fail;refine(Ht.o _).mono ?_;rintro x w8 ⟨rfl,iX⟩;have GV:=vE.trans (iX.mono vE.size);clear iX vE;go_wp2;go_returns;exact⟨by rw[mu.o];rfl,GV⟩
theorem Z59 {w:World} {A:Option Addr} {l:List ByteArray} (c:Int) (ha:At w A (svs l)) (ad:∀s∈l,s.size<=9223372036854775807) (n cap:Nat) (hn:n=l.length) (hm:n<=9223372036854775807):
  Calls Tryz.prog 58 #[.int .i64 c,.slice A n cap] w λx w'=>ERes w (Zhu c l) x w':=by
 unfold Zhu;by_cases hc:c≠0/\c≠1
 ·rw[Vaf hc];exact ZbJ c hc.1 hc.2 A n cap
 ·rw[Vad hc];have pT:c=0\/c=1:=(by omega);obtain⟨c,rfl⟩:=Int.eq_ofNat_of_zero_le (show 0<=c by omega);by_cases hb:4096<l.length\/∃s∈l,128<s.size
  ·rw[Vaf hb];exact Z6d c (by omega) ha ad n cap hn hm hb
  ·rw[Vad hb,Vav]
   exact Z6m c (by omega) ha (λs hs=>by
    rcases Nat.lt_or_ge 128 s.size with h|h
    ·exact absurd (.inr ⟨s,hs,h⟩) hb
    ·exact h) n cap hn (by omega)
theorem Yt {w:World} {A:Option Addr} {l:List ByteArray} (ha:At w A (svs l)) (ad:∀s∈l,s.size<=9223372036854775807) (n cap:Nat) (hn:n=l.length) (hm:n<=9223372036854775807):
  Calls Tryz.prog 34 #[.slice A n cap] w λx w'=>ERes w (enc l) x w':=by
 have H0:=h_ (Z59 0 ha ad n cap hn hm);have H1:=h_ (λw' (h:Below w.heap.size w w')=>Z59 1 (ha.below h) ad n cap hn hm);clear ha hn;unfold enc;unfold Zhu at H0 H1;rw[Vad (by decide)] at H0;simp only[show ¬((1:Int)≠0/\(1:Int)≠1) from by decide,if_false] at H1;by_cases hb:4096<l.length\/∃s∈l,128<s.size
 ·simp only[hb,if_true] at H0⊢;clear H1 hb ad;go_enter Tryz.func34,Tryz.ntmps34;go_wp2_with fail;refine(H0.o).mono ?_;rintro x w1 ⟨rfl,a7⟩;go_wp2;go_returns;exact Z0f 9 a7
 ·simp only[hb,if_false,show(0:Int).toNat=0 from rfl,show(1:Int).toNat=1 from rfl] at H0 H1⊢;clear hb ad;have fl:=Z0 (encB 0 l);have bW:=Z0 (encB 1 l);by_cases ab:(encB 1 l).length<(encB 0 l).length
  ·rw[Vaf ab];have bS:((bs (encB 1 l)).size:Int)<((bs (encB 0 l)).size:Int):=(by rw[fl,bW];exact Int.ofNat_lt.2 ab);clear ab fl bW;obtain⟨S0,oq⟩:∃S,bs (encB 0 l)=S:=⟨_,rfl⟩;have Al:Hid (Calls Tryz.prog 58 #[.int .i64 0,.slice A n cap] w λx w'=>x=.returned (.tuple #[.string S0,.int .i64 0])/\Below w.heap.size w w'):=h_ (by rw[<-oq];exact H0.o);obtain⟨S1,my⟩:∃S,bs (encB 1 l)=S:=⟨_,rfl⟩;have yh:Hid (∀w',Below w.heap.size w w'->Calls Tryz.prog 58 #[.int .i64 1,.slice A n cap] w' λx w2=>x=.returned (.tuple #[.string S1,.int .i64 0])/\Below w'.heap.size w' w2):=h_ (by rw[<-my];exact H1.o);rw[oq,my] at bS;have Hr:Hid (∀w',Below w.heap.size w w'->ERes w (encB 1 l,0) (.returned (.tuple #[.string S1,.int .i64 0])) w'):=h_ (λw' h=>by rw[<-my];exact⟨rfl,h⟩);clear H0 H1 oq my;go_enter Tryz.func34,Tryz.ntmps34;go_wp2_with fail;refine(Al.o).mono ?_;rintro x w1 ⟨rfl,a7⟩;go_wp2_with fail;refine(yh.o _ a7).mono ?_;rintro x w2 ⟨rfl,a8⟩;have hb:=a7.trans (a8.mono a7.size);go_wp2;go_returns;exact Hr.o _ hb
  ·rw[Vad ab];have bS:¬((bs (encB 1 l)).size:Int)<((bs (encB 0 l)).size:Int):=(by rw[fl,bW];omega);clear ab fl bW;obtain⟨S0,oq⟩:∃S,bs (encB 0 l)=S:=⟨_,rfl⟩;have Al:Hid (Calls Tryz.prog 58 #[.int .i64 0,.slice A n cap] w λx w'=>x=.returned (.tuple #[.string S0,.int .i64 0])/\Below w.heap.size w w'):=h_ (by rw[<-oq];exact H0.o);obtain⟨S1,my⟩:∃S,bs (encB 1 l)=S:=⟨_,rfl⟩;have yh:Hid (∀w',Below w.heap.size w w'->Calls Tryz.prog 58 #[.int .i64 1,.slice A n cap] w' λx w2=>x=.returned (.tuple #[.string S1,.int .i64 0])/\Below w'.heap.size w' w2):=h_ (by rw[<-my];exact H1.o);rw[oq,my] at bS;have Hr:Hid (∀w',Below w.heap.size w w'->ERes w (encB 0 l,0) (.returned (.tuple #[.string S0,.int .i64 0])) w'):=h_ (λw' h=>by rw[<-oq];exact⟨rfl,h⟩);clear H0 H1 oq my;go_enter Tryz.func34,Tryz.ntmps34;go_wp2_with fail;refine(Al.o).mono ?_;rintro x w1 ⟨rfl,a7⟩;go_wp2_with fail;refine(yh.o _ a7).mono ?_;rintro x w2 ⟨rfl,a8⟩;have hb:=a7.trans (a8.mono a7.size);go_wp2;go_returns;exact Hr.o _ hb
theorem Xl {s:ByteArray} {e:Nat} (he:e≠0) (most:Int):numR s e most=(0,s,e):=by unfold numR;rw[Vad he]
theorem Z1W {s:ByteArray} {e:Nat} (he:e≠0) (n:Int):ZB s e n=(bs [],s,e):=by unfold ZB;rw[Vad he]
theorem Zp {s t:List UInt8} {n most:Nat} (h:rnum s most=some (n,t)):numR (bs s) 0 (most:Int)=(n,bs t,0)/\n<=most/\t.length<=s.length:=by
 unfold rnum at h;match hr:rd s with
 |none=>rw[hr] at h;cases h
 |some (m,z)=>
  rw[hr] at h;simp only at h;by_cases hm:most<m
  ·rw[Vaf hm] at h;cases h
  ·rw[Vad hm] at h;injection h with h;injection h with h1 h2;subst h1;subst h2;exact⟨Z3Q hr (by omega),by omega,by rw[Va2];omega⟩
theorem Y4 {s:List UInt8} {most:Nat} (h:rnum s most=none):∃e,e≠0/\numR (bs s) 0 (most:Int)=(0,bs s,e):=by
 unfold rnum at h;match hr:rd s with
 |none=>exact⟨12,by decide,Z4Q hr⟩
 |some (m,z)=>
  rw[hr] at h;simp only at h;by_cases hm:most<m
  ·exact⟨2,by decide,Z7x hr (by omega)⟩
  ·rw[Vad hm] at h;cases h
theorem YF {s:ByteArray} {e:Nat} (he:e≠0) (most:Int):ZT s e most=(bs [],s,e):=by
 unfold ZT;rw[Xl he];simp only;rw[Z1W he];simp only;rw[Vad he]
theorem Z0H {s t a:List UInt8} {most:Nat} (h:ZG s most=some (a,t)):ZT (bs s) 0 (most:Int)=(bs a,bs t,0)/\a.length<=s.length/\t.length<=s.length/\a.length<=most:=by
 unfold ZG at h;match hr:rnum s most with
 |none=>rw[hr] at h;cases h
 |some (n,u)=>
  rw[hr] at h;simp only at h;obtain⟨h1,h2,h3⟩:=Zp hr;by_cases hm:u.length<n
  ·rw[Vaf hm] at h;cases h
  ·rw[Vad hm] at h;injection h with h;injection h with h4 h5;subst h4;subst h5
   have ht:ZB (bs u) 0 (n:Int)=(bs (u.take n),bs (u.drop n),0):=by
    unfold ZB;rw[Vaf rfl,Vad (by omega),Vad (by rw[Z0];omega),Vav,Zd]
   refine⟨?_,by rw[Vau];omega,by rw[Va2];omega,by rw[Vau];omega⟩;unfold ZT;rw[h1];simp only;rw[ht];simp only[if_true]
theorem Z5a {s:List UInt8} {most:Nat} (h:ZG s most=none):∃e,e≠0/\ZT (bs s) 0 (most:Int)=(bs [],bs s,e):=by
 unfold ZG at h;match hr:rnum s most with
 |none=>
  obtain⟨e,h1,h2⟩:=Y4 hr;refine⟨e,h1,?_⟩;unfold ZT;rw[h2];simp only;rw[Z1W h1];simp only;rw[Vad h1]
 |some (n,u)=>
  rw[hr] at h;simp only at h;obtain⟨h1,h2,h3⟩:=Zp hr;by_cases hm:u.length<n
  ·have ht:ZB (bs u) 0 (n:Int)=(bs [],bs u,12):=by
    unfold ZB;rw[Vaf rfl,Vad (by omega),Vaf (by rw[Z0];omega)]
   refine⟨12,by decide,?_⟩;unfold ZT;rw[h1];simp only;rw[ht];simp only;rw[Vad (by decide)]
  ·rw[Vad hm] at h;cases h
theorem Z5b {n:Nat} {s t a:List UInt8} (h:ZG s 128=some (a,t)):Yc (n+1) s=(Yc n t).map λx=>(bs a::x.1,x.2):=by
 rw[Yc,h];simp only;cases Yc n t<;>rfl
theorem Z5c {n:Nat} {s:List UInt8} (h:ZG s 128=none):Yc (n+1) s=none:=by rw[Yc,h]
theorem Xv (s:List UInt8) (most:Int):(∀v∈(decn s most).1,0<=v)/\(decn s most).1.length<=4096:=by
 unfold decn;match rd s with
 |none=>simp
 |some (n,z)=>
  simp only;split
  ·simp
  ·split
   ·simp
   ·split
    ·simp
    ·split
     ·rename_i h;refine⟨h.2,?_⟩;rw[(Z4P n t0 (d0 (s.drop z))).1,Z0D];omega
     ·simp
theorem Zfq {α:Type} (L:List α) (n:Nat) (v z:α) (h:L.length<n):(L++List.replicate (n-L.length) z).set L.length v=(L++[v])++List.replicate (n-(L.length+1)) z:=by
 rw[Va8 _ _ UZz,Va7,show n-L.length=(n-(L.length+1))+1 from by omega,Vbg,List.set_cons_zero];simp
def pcs (l:List (Int×Int)):Array Value:=(pv l).toArray
theorem Zkq (l:List (Int×Int)):∀(k:Nat) (x:Int×Int),k<l.length->((pv l).set (k*2) (iv x.1)).set (k*2+1) (iv x.2)=pv (l.set k x):=by
 induction l with
 |nil=>intro k x h;simp at h
 |cons c D ih=>
  intro k x h;have e:pv (c::D)=iv c.1::iv c.2::pv D:=rfl;match k,h with
  |0,_=>rfl
  |k+1,h=>
   have h':k<D.length:=(by rw[Vaz] at h;omega);have:=ih k x h';rw[e,show(k+1)*2=k*2+1+1 from by omega,List.set_cons_succ,List.set_cons_succ,List.set_cons_succ,List.set_cons_succ,this];rfl
theorem Zip (l:List (Int×Int)) (k:Nat) (x:Int×Int) (h:k<l.length):((pcs l).setIfInBounds (k*2) (.int .i64 x.1)).setIfInBounds (k*2+1) (.int .i64 x.2)=pcs (l.set k x):=by
 apply Vbj.1;have:=Zkq l k x h;unfold iv at this;simpa [pcs] using this
theorem Ziq (l:List (Int×Int)) (k:Nat) (h:k<l.length):(pcs l)[k*2]? =some (.int .i64 l[k].1)/\(pcs l)[k*2+1]? =some (.int .i64 l[k].2):=by
 have:=Z7s l k h;unfold iv at this;simpa [pcs] using this
theorem Zir (n:Nat):∀i,i<n*2->(pv (List.replicate n (0,0)))[i]? =some (.int .i64 0):=by
 induction n with
 |zero=>intro i h;omega
 |succ n ih=>
  intro i h;have e:pv (List.replicate (n+1) (0,0))=iv 0::iv 0::pv (List.replicate n (0,0)):=rfl;rw[e];match i,h with
  |0,_=>rfl
  |1,_=>rfl
  |i+2,h=>rw[List.getElem?_cons_succ,List.getElem?_cons_succ];exact ih i (by omega)
theorem Zfr {P:Program} (t e:TypeId) (ht:P.underlying t=some (.slice e)) (aK:(P.info? e).map (λi=>(i.zero,i.size,i.bytes))=some (some (.agg #[.int .i64 0,.int .i64 0]),2,16))
  (m:Int) (n:Nat) (hm:m=n) (hb:n<=4096) (w:World):
  (Instr.makeSlice t (.int .i64 m) (.int .i64 m)).run P w=.ok (.slice (some ⟨w.heap.size,0,none⟩) n n) (w.alloc (.cells (pcs (List.replicate n (0,0))) e)):=by
 obtain⟨i,hi,hz,hs,dt⟩:=info_parts aK;subst hm;have hr:=run_make (P:=P) w t e i _ ht hi hz .i64 .i64 (n:Int) (n:Int) (by omega) (by omega) (by rw[dt];omega) (by omega);rw[hr,Vav,hs];congr 3;apply Array.ext
 ·simp[madeCells,pcs,Z1M]
 ·intro j h1 h2;have h3:j<n*2:=(by simpa [madeCells] using h1);have h4:=Zir n j h3;have h5:(pcs (List.replicate n (0,0)))[j]? =some (.int .i64 0):=(by simpa [pcs] using h4);rw[Array.getElem?_eq_getElem h2] at h5;injection h5 with h5;rw[h5];have hj:j % 2=0\/j % 2=1:=(by omega);rcases hj with hj|hj<;>simp[madeCells,Value.cells,hj]
def Z2s (w:World) (r:Option (List ByteArray)) (x:Ending) (w':World):Prop:=∃v,x=.returned (.tuple #[v,.bool r.isSome])/\(∀l,r=some l->SRes w' v l)/\Below w.heap.size w w'
theorem XN {w w':World} {v:Value} (hb:Below w.heap.size w w'):Z2s w none (.returned (.tuple #[v,.bool false])) w':=⟨v,rfl,(λl h=>by cases h),hb⟩
theorem Z7R {w:World} (data:ByteArray) (hd:data.size<=1099511627776) (c:Nat) (S1:ByteArray) (e1:Nat) (S:ByteArray) (e:Nat) (h1:numR data 0 1=(c,S1,e1)) (h2:numR S1 e1 4096=(0,S,e)) (he:e≠0) (aM:S1.size<=data.size):
  Calls Tryz.prog 111 #[.string data] w λx w'=>Z2s w none x w':=by
 have H0:=h_ (ZN data w)
 have H1:=h_ (λW (h:RV W w.heap.size data 0)=>by
  have:=Zi h hd 1;rw[h1] at this;exact this)
 have An:S.size<=S1.size:=by
  have:=X1 (s:=S1) (e:=e1) (most:=4096);rw[h2] at this;exact this
 have H2:=h_ (λW (h:RV W w.heap.size S1 e1)=>by
  have:=Zi h (Vas aM hd) 4096;rw[h2] at this;exact this)
 have H3:=h_ (λW (h:RV W w.heap.size S e)=>by
  have:=ZO h (by omega) (data.size:Int);rw[YF he] at this;exact this)
 have ay:((e:Int) !=0)=true:=(by rw[Va1];omega);clear h1 h2 he An aM hd;go_enter Tryz.func111,Tryz.ntmps111;go_wp2_with fail;refine(H0.o).mono ?_;rintro x w1 ⟨rfl,cI,a7⟩;go_wp2_with fail;refine(H1.o _ cI).mono ?_;rintro x w2 ⟨rfl,bR,ai⟩;have a8:=Zc a7 UZz ai;clear cI a7 ai;go_wp2_with fail;refine(H2.o _ bR).mono ?_;rintro x w3 ⟨rfl,eV,aR⟩;have af:=Zc a8 UZz aR;have lS:=h_ eV;clear bR a8 aR eV H0 H1 H2;go_wp2;go_loopw [7,23] (λv7 i wr=>v7=.slice none 0 0/\i=.int .i64 0/\wr=w3) (λ_ i _=>0);case atStart=>exact⟨rfl,rfl,rfl⟩
 case round=>
  obtain⟨rfl,rfl,rfl⟩:=hrel;go_wp2_with fail;refine(H3.o _ lS.o).mono ?_;rintro x w4 ⟨rfl,gN,aG⟩;have H4:=h_ (Zb gN);have au:=Zc af UZz aG;clear gN aG af;go_wp2_with fail;refine(H4.o).mono ?_;rintro x w5 ⟨rfl,rfl⟩;go_wp2;go_returns;exact XN au
theorem X4 (sk:List UInt8) (most:Nat):∃t S e,ZT (bs sk) 0 (most:Int)=(t,S,e)/\((e=0/\∃a u,ZG sk most=some (a,u)/\t=bs a/\S=bs u/\u.length<=sk.length/\a.length<=sk.length/\a.length<=most)\/(e≠0/\ZG sk most=none)):=by
 match h:ZG sk most with
 |none=>
  obtain⟨e,h1,h2⟩:=Z5a h;exact⟨_,_,e,h2,.inr ⟨h1,rfl⟩⟩
 |some (a,u)=>
  obtain⟨h1,h2,h3,h4⟩:=Z0H h;exact⟨_,_,0,h1,.inl ⟨rfl,a,u,rfl,rfl,rfl,h3,h2,h4⟩⟩
theorem Zfs (l:List ByteArray) (s:ByteArray):svs (l++[s])=svs l++[.string s]:=by simp[svs,sv]
theorem Zc7 {w w':World} {A:Option Addr} {l:List Int} {b e:Nat} {s s':ByteArray} (ha:At w A (ivs l)) (h:RV w b s e) (h':RV w' b s' e) (hf:Fr (only b) w w'):At w' A (ivs l):=by
 intro i hi;obtain⟨b',o,hA,hb,hc⟩:=ha i hi;refine⟨b',o,hA,Va5 hb hf.size,?_⟩;by_cases e1:b'=b
 ·subst e1;have h1:=Bk.cell h (o+i);have h2:=Bk.cell h' (o+i);rw[h2];rw[hc] at h1;rw[h1];have hv:(ivs l)[i]=.int .i64 (l[i]'(by simpa [ivs] using hi)):=(by simp[ivs,iv]);rw[hv] at h1;match o+i,h1 with
  |0,h1=>simp at h1
  |1,h1=>rfl
  |k+2,h1=>simp at h1
 ·exact(hf.cell (p:=⟨b',_,none⟩) hb (λe2=>e1 e2)).trans hc
theorem Zc8 {w:World} (data:ByteArray) (hd:data.size<=1000000000) (c n:Nat) (s1 s2:List UInt8) (h1:rnum (toL data) 1=some (c,s1)) (h2:rnum s1 4096=some (n,s2)):
  Calls Tryz.prog 111 #[.string data] w λx w'=>Z2s w (YN (toL data)) x w':=by
 have jx:YN (toL data)=match Yc n s2 with
   |none=>none
   |some (ws,s3)=>
    match ZG s3 data.size with
    |none=>none
    |some (a,s4)=>fin c ws (decn a 4096) (decn s4 4096):=by
  unfold YN;rw[h1];simp only;rw[h2];rfl
 have gC:=h_ jx;obtain⟨n1,cq,bW⟩:=Zp h1;obtain⟨n2,bf,dz⟩:=Zp h2;have Mk:numR data 0 1=(c,bs s1,0):=n1;have Ml:numR (bs s1) 0 4096=(n,bs s2,0):=n2;rw[Z1] at bW;have H0:=h_ (ZN data w)
 have H1:=h_ (λW (h:RV W w.heap.size data 0)=>by
  have:=Zi h (by omega) 1;rw[Mk] at this;exact this)
 have H2:=h_ (λW (h:RV W w.heap.size (bs s1) 0)=>by
  have:=Zi h (by rw[Z0];omega) 4096;rw[Ml] at this;exact this)
 obtain⟨i0,hi,dA,bO,eF⟩:=info_parts YC;have ml:=h_ (And.intro hi (And.intro dA (And.intro bO eF)));have hl:s2.length<=data.size:=(by omega);clear h1 h2 jx n1 n2 Mk Ml bW dz hi dA bO eF;go_enter Tryz.func111,Tryz.ntmps111;go_wp2_with fail;refine(H0.o).mono ?_;rintro x w1 ⟨rfl,cI,a7⟩;go_wp2_with fail;refine(H1.o _ cI).mono ?_;rintro x w2 ⟨rfl,bR,ai⟩;have a8:=Zc a7 UZz ai;clear cI a7 ai;go_wp2_with fail;refine(H2.o _ bR).mono ?_;rintro x w3 ⟨rfl,eV,aR⟩;have af:=Zc a8 UZz aR;clear bR a8 aR H0 H1 H2;go_wp2;go_loopw [7,23] (λv7 i wr=>∃(ws:List ByteArray) (sk:List UInt8),ws.length<=n/\i=.int .i64 (ws.length:Nat)/\wr.ownsRow w.heap.size 9 1 v7 ws.length (svs ws)/\RV wr w.heap.size (bs sk) 0/\sk.length<=data.size/\Hid (Yc n s2=(Yc (n-ws.length) sk).map (λx=>(ws++x.1,x.2)))/\Below w.heap.size w wr) (λ_ i _=>(n-intOf i).toNat);case atStart=>exact⟨[],s2,by simp,rfl,Zk,eV,hl,h_ (by simp),af⟩
 case round=>
  clear eV af;obtain⟨ws,sk,hk,rfl,aa,Ao,rn,vu,hf⟩:=hrel;obtain⟨A5,bo,pA,_⟩:=Zm aa;subst pA;have bZ:=h_ aa;have Mm:=h_ Ao;by_cases ab:ws.length<n
  ·obtain⟨t,S,e,gR,bE⟩:=X4 sk 128;have H3:=h_ (ZO Ao (by rw[Z0];omega) 128);have Ap:ZT (bs sk) 0 128=(t,S,e):=gR;rw[Ap] at H3;have nw:n-ws.length=(n-(ws.length+1))+1:=(by omega);have dp:=h_ bE;have yd:=h_ vu.o;rw[nw] at yd;have Hf:=h_ hf;have sr:=h_ rn;clear bE gR Ap vu aa Ao hf nw rn;go_wp2_with fail;refine(H3.o).mono ?_;rintro x w4 ⟨rfl,gN,aG⟩;have Aq:=Zl bZ.o aG (λg hg (e:g=w.heap.size)=>Z3 bZ.o Mm.o (by decide) (e▸hg));have au:=Zc Hf.o UZz aG;have mo:=h_ gN;have vF:=h_ Aq;have aU:=h_ au;have bD:=au.size;have dG:ws.length+1<=maxLen:=(by unfold maxLen;omega);have eE:(ws.length+1)*16<=140737488355328:=(by omega);clear gN Aq au aG;obtain⟨hi,dA,bO,eF⟩:=ml.o
   go_wp2_with (
    at_builtin;refine wpList_append_own_at _ rfl (.tmp 25) (.tmp 28) _ rfl w.heap.size 9 i0 (.string ByteArray.empty) 1 16 Tryz.underlying64 hi dA bO eF rfl (by omega) (.slice A5 ws.length bo) ws.length (svs ws) (by rfl) (vF.o.alloc _) ⟨_,0,none⟩ 1 1 [.string t] (by rfl) rfl (XB _ _ _) (by simp[Value.oneCell']) dG eE (Vas bD (by simp)) ?_;intro v' w5 ah du _ cT;have aJ:=h_ ah;have gA:=h_ du;clear ah du cT)
   have yi:RV w5 w.heap.size S e:=Bk.grown (Bk.alloc mo.o (.cells #[.string t] 9)) gA.o (λe=>Z3 vF.o mo.o (by decide) e.symm);have rq:Below w.heap.size w w5:=(aU.o.alloc bD (.cells #[.string t] 9)).grown gA.o (Vas bD (by simp)) (λj hj=>(vF.o.lt j hj).1)
   have Mn:w5.ownsRow w.heap.size 9 1 v' (ws++[t]).length (svs (ws++[t])):=by
    have:=aJ.o;rw[Vab,Zfs];exact this
   have H4:=h_ (Zb yi);have su:=h_ yi;have sw:=h_ rq;have Sl:=h_ Mn;clear yi rq Mn aJ gA vF mo aU dG eE bD hi dA bO eF;go_wp2_with fail;refine(H4.o).mono ?_;rintro x w6 ⟨rfl,rfl⟩;rcases dp.o with ⟨he,a,u,pU,rfl,rfl,pD,_⟩|⟨he,pU⟩
   ·subst he;have hm:=yd.o;rw[Z5b pU] at hm
    have Hm:Hid (Yc n s2=(Yc (n-(ws++[bs a]).length) u).map (λx=>(ws++[bs a]++x.1,x.2))):=h_ (by
     rw[hm,Vab,Option.map_map];simp[Function.comp_def])
    have hlen:(ws++[bs a]).length=ws.length+1:=(by simp);clear hm pU;go_wp2;go_roundw;case rel=>exact⟨ws++[bs a],u,by omega,by rw[hlen];go_num,Sl.o,su.o,Vas pD sr.o,Hm,sw.o⟩
    case measure=>simp[intOf]<;>omega
   ·have hm:=yd.o;rw[Z5c pU] at hm
    have hr:YN (toL data)=none:=by
     rw[gC.o,hm];rfl
    have Hr:=h_ hr;have ay:((e:Int) !=0)=true:=(by rw[Va1];omega);clear hm pU hr he;go_wp2;go_returns;rw[Hr.o];exact XN sw.o
  ·have cK:n-ws.length=0:=(by omega);have sx:=vu.o;rw[cK,Yc] at sx;simp only[Vcg,Va3] at sx;have cJ:=gC.o;rw[sx] at cJ;simp only at cJ;have lO:=h_ cJ;obtain⟨t,S,e,gR,bE⟩:=X4 sk data.size;have H3:=h_ (ZO Ao (by rw[Z0];omega) (data.size:Int));rw[gR] at H3;have dp:=h_ bE;have Hf:=h_ hf;have Sm:ws.length=n:=(by omega);clear bE gR vu Ao hf cK sx cJ gC aa;go_wp2_with fail;refine(H3.o).mono ?_;rintro x w4 ⟨rfl,gN,aG⟩;have Aq:=Zl bZ.o aG (λg hg (e:g=w.heap.size)=>Z3 bZ.o Mm.o (by decide) (e▸hg));have au:=Zc Hf.o UZz aG;have H4:=h_ (Zb gN);have mo:=h_ gN;have aU:=h_ au;have vF:=h_ Aq;clear gN Aq au aG H3 bZ Hf;go_wp2_with fail;refine(H4.o).mono ?_;rintro x w6 ⟨rfl,rfl⟩;clear H4;rcases dp.o with ⟨he,a,u,pU,rfl,rfl,pD,kC,VE⟩|⟨he,pU⟩
   ·subst he;have cJ:=lO.o;rw[pU] at cJ;simp only at cJ;have Ar:=h_ (λW=>ZQ (w:=W) a (by omega) 4096);have tU:=h_ (λW=>ZQ (w:=W) u (by omega) 4096);obtain⟨g1,k1⟩:=Xv a 4096;obtain⟨g2,k2⟩:=Xv u 4096;have HL:=h_ (λW (h:RV W w.heap.size (bs u) 0)=>Zt h (by rw[Z0];omega))
    have HT:=h_ (λW (h:RV W w.heap.size (bs u) 0)=>by
     have:=Zu h (by rw[Z0];omega) ((bs u).size:Int);rw[Z0d] at this;exact this)
    generalize decn a 4096=DA at*;generalize decn u 4096=DB at*;obtain⟨LA,ea⟩:=DA;obtain⟨LB,eb⟩:=DB;simp only at g1 k1 g2 k2;have fO:=h_ cJ;have G2:=h_ g2;clear cJ pU dp lO pD g1 g2;generalize bs a=SA at*;generalize bs u=SU at*;go_wp2_with fail;refine(Ar.o _).mono ?_;rintro x w7 ⟨v7,rfl,⟨A7,c7,rfl,As⟩,eA⟩;have vG:=Bk.lt mo.o;have E3:RV w7 w.heap.size SU 0:=Bk.below mo.o eA vG;have Au:=aU.o.trans (eA.mono aU.o.size);have Mp:=Zl vF.o (Fr.of_below (S:=nob) eA) (λg hg h=>h);have Mq:=h_ (HL.o _ E3);have Mr:=h_ (HT.o _ E3);have Av:=h_ As;have GW:=h_ Mp;have Aw:=h_ Au;have GY:=h_ E3;clear HL HT E3 As Mp Au eA vG vF mo aU Ar;go_wp2_with fail;refine(Mq.o).mono ?_;rintro x w8 ⟨rfl,rfl⟩;go_wp2_with fail;refine(Mr.o).mono ?_;rintro x w8 ⟨rfl,Mt,sy⟩;have Az:=Zc Aw.o UZz sy;have pV:=Zc7 Av.o GY.o Mt sy;have AA:=Zl GW.o sy (λg hg (e:g=w.heap.size)=>Z3 GW.o GY.o (by decide) (e▸hg));have AB:=h_ pV;have Mu:=h_ AA;have vH:=h_ Az;clear Mt sy pV AA Az Mq Mr Av GW Aw GY;go_wp2_with fail;refine(tU.o _).mono ?_;rintro x w9 ⟨v9,rfl,⟨B9,c9,rfl,fA⟩,bz⟩;simp only at fA;have pQ:=AB.o.below bz;have AC:=Zl Mu.o (Fr.of_below (S:=nob) bz) (λg hg h=>h);have AE:=vH.o.trans (bz.mono vH.o.size);obtain⟨AW,cW,So,pW⟩:=Zm AC;injection So with bq bm eu;subst bq;subst eu;have vI:=h_ pQ;have AG:=h_ fA;have AH:=h_ pW;have nG:=h_ AE;clear pQ fA pW AE AC bz AB Mu vH tU bm;have aN:=fO.o;unfold fin at aN;simp only at aN;by_cases c1:ea≠0\/eb≠0\/LA.length≠LB.length
    ·rw[Vaf c1] at aN;have Hr:=h_ aN
     have q1:((ea:Int) !=0)=true\/(((ea:Int) !=0)=false/\((eb:Int) !=0)=true)\/(((ea:Int) !=0)=false/\((eb:Int) !=0)=false/\((LA.length:Int) !=(LB.length:Int))=true):=by
      by_cases d1:ea=0
      ·by_cases d2:eb=0
       ·right;right;refine⟨by rw[d1];rfl,by rw[d2];rfl,by rw[Va1];omega⟩
       ·right;left;refine⟨by rw[d1];rfl,by rw[Va1];omega⟩
      ·left;rw[Va1];omega
     clear c1 aN;rcases q1 with q1|⟨q1,q2⟩|⟨q1,q2,q3⟩
     all_goals
      go_wp2;go_returns;rw[Hr.o];exact XN nG.o
    ·rw[Vad c1] at aN;have d1:ea=0:=(by omega);have d2:eb=0:=(by omega);have d3:LA.length=LB.length:=(by omega);subst d1;subst d2;have q3:((LA.length:Int) !=(LB.length:Int))=false:=(by rw[bne_eq_false_iff_eq];omega);have q1:(((0:Nat):Int) !=0)=false:=rfl;have HU:=h_ (Z4T vI.o LA.length c7 rfl (by omega))
     have yj:(ZK LA).2=0->(ZK LA).1.length=LA.length:=by
      unfold ZK;split
      ·intro _;simp[YX]
      ·rename_i h;intro h2;exact absurd h2 h
     have bU:=h_ aN;have D3:=h_ d3;clear c1 aN d3 k2;have pT:c=1\/c≠1:=(by omega);go_upto_if 68 with fail
     go_cut [9] (λs9 wx=>∃(I:List Int) (A9:Option Addr) (iF:Nat),s9=.slice A9 LA.length iF/\I.length=LA.length/\At wx A9 (ivs I)/\Below w9.heap.size w9 wx/\
      Hid (YN (toL data)=if ∃v∈LB,4096<=v then none else if(ZC ws (I.zip (LB.map (· +1))) []).2=0 then some (ZC ws (I.zip (LB.map (· +1))) []).1 else none))
     case first=>
      rcases pT with h1|h1
      ·have g0:((c:Int)==1)=true:=(by rw[beq_iff_eq];omega);have ai:=bU.o;simp only[h1,if_true,true_and] at ai;clear h1 bU cq;obtain⟨U,Mv⟩:∃U,ZK LA=U:=⟨_,rfl⟩;rw[Mv] at HU yj ai;clear Mv;obtain⟨UL,ue⟩:=U;simp only at yj ai;have cl:=h_ ai;have GZ:=h_ yj;clear ai yj;go_wp2_with fail;refine(HU.o).mono ?_;rintro x mW ⟨v10,rfl,⟨Sp,Sq,rfl,pX⟩,gj⟩;simp only at pX;have AI:=h_ pX;clear pX HU;simp only[Vag];by_cases H9:ue=0
       ·subst H9;have hl:=GZ.o rfl;have aR:=cl.o;simp only[ne_eq,not_true,if_false] at aR;have gM:=h_ aR;rw[hl];clear aR cl GZ;go_wp2;go_meet;case rel=>exact⟨UL.map Int.ofNat,Sp,Sq,rfl,by rw[Vag,hl],AI.o,gj,gM⟩
       ·have aR:=cl.o;rw[Vaf H9] at aR;have Hr:=h_ aR;have aW:=nG.o.trans (gj.mono nG.o.size);have q5:((ue:Int) !=0)=true:=(by rw[Va1];omega);clear aR cl GZ H9;go_wp2;go_returns;rw[Hr.o];exact XN aW
      ·have g0:((c:Int)==1)=false:=(by rw[Van];omega);have ai:=bU.o;simp only[h1,if_false,false_and] at ai;have cl:=h_ ai;clear h1 bU cq yj HU ai;go_wp2;go_meet;case rel=>exact⟨LA,A7,c7,rfl,rfl,vI.o,Vae _ _,cl⟩
     case rest=>
      clear HU yj bU;obtain⟨I,A9,iF,rfl,Mw,nH,AJ,tV⟩:=hcut;obtain⟨Z,hZ⟩:∃Z,I.zip (LB.map (· +1))=Z:=⟨_,rfl⟩;have HA:Z.length=LA.length:=(by rw[<-hZ,List.length_zip,Vag,<-D3.out,Mw,Nat.min_self]);have pY:=tV.o;rw[hZ] at pY;have vJ:=h_ pY;have HZ:=h_ hZ;have bG:=Zfr (P:=Tryz.prog) 131 134 Tryz.underlying131 ZgV (LA.length:Int) LA.length rfl k1 wc;have pZ:=h_ (AG.o.below AJ);have q7:=h_ (AH.o.below AJ);have vK:=h_ nH;have q8:=h_ (nG.o.trans (AJ.mono nG.o.size));clear tV pY hZ nH AJ AG AH vI nG;go_wp2;go_loopw [14,81] (λ_ i wr=>∃k:Nat,k<=LA.length/\i=.int .i64 k/\Bk wr wc.heap.size 134 (pcs (Z.take k++List.replicate (LA.length-k) (0,0)))/\Hid (∀v∈LB.take k,v<4096)/\Below wc.heap.size wc wr) (λ_ i _=>(LA.length-intOf i).toNat);case atStart=>exact⟨0,by omega,rfl,Bk.new _ _ _,h_ (by simp),(Vae _ _).alloc UZz _⟩
      case round=>
       obtain⟨k,hk,rfl,aF,ao,hf⟩:=hrel;by_cases ab:k<LA.length
       ·have Mx:k<LB.length:=(by rw[<-D3.out];exact ab);have AK:k<I.length:=(by rw[Mw];exact ab);have Sr:k<Z.length:=(by rw[HA];exact ab);obtain⟨v,hv⟩:∃v,LB[k]=v:=⟨_,rfl⟩;obtain⟨y,hy⟩:∃y,I[k]=y:=⟨_,rfl⟩
        have E4:Z[k]=(y,v+1):=by
         simp only[<-HZ.o,List.getElem_zip,Vcf,hy,hv]
        have qZ:=G2.out v (hv▸Vaj _);have vL:=pZ.o.below hf;have nH:=vK.o.below hf;obtain⟨bB,oB,hB,Lm,VF⟩:=vL.get k (.int .i64 v) (by rw[<-hv];simp[ivs,iv,Mx]);obtain⟨bI,oI,hI,AJ,VG⟩:=nH.get k (.int .i64 y) (by rw[<-hy];simp[ivs,iv,AK]);subst hB;subst hI;by_cases fg:(4096:Int)<=v
        ·have hr:=vJ.o;rw[Vaf ⟨v,hv▸Vaj _,fg⟩] at hr;have Hr:=h_ hr;have aW:=q8.o.trans (hf.mono q8.o.size);clear hr vJ hv hy E4 vL nH aF bG;go_wp2;go_returns;rw[Hr.o];exact XN aW
        ·have hlen:(Z.take k).length=k:=(by rw[Vau];omega);have sA:=Zfq (Z.take k) LA.length (y,v+1) (0,0) (by omega);rw[hlen,<-E4,<-Vac Sr] at sA;have zJ:(Z.take k++List.replicate (LA.length-k) ((0,0):Int×Int)).length=LA.length:=(by rw[Vab,hlen,Vaw];omega);obtain⟨W,hW⟩:∃W,Z.take k++List.replicate (LA.length-k) ((0,0):Int×Int)=W:=⟨_,rfl⟩;rw[hW] at sA zJ aF;obtain⟨My,Mz⟩:=Ziq W k (by omega);obtain⟨m0,bP⟩:∃m:Int,wr.cell? ⟨wc.heap.size,k*2,none⟩=some (.int .i64 m):=⟨_,(aF.cell _).trans My⟩;obtain⟨m1,cq⟩:∃m:Int,wr.cell? ⟨wc.heap.size,k*2+1,none⟩=some (.int .i64 m):=⟨_,(aF.cell _).trans Mz⟩;have Ss:=aF.frozen (k*2);have Su:=aF.frozen (k*2+1);have aj:=(aF.put (k*2) (.int .i64 y)).put (k*2+1) (.int .i64 (v+1));have oU:=Zip W k (y,v+1) (by omega);simp only at oU;rw[oU,<-E4,sA] at aj;have az:=h_ aj
         have dj:Hid (∀u∈LB.take (k+1),u<4096):=h_ (by
          intro u hu;rw[Vac Mx,hv] at hu;rcases Vba.1 hu with h|h
          ·exact ao.o u h
          ·rw[Vax] at h;omega)
         have i2:IntKind.i64.wrap (v+1)=v+1:=(by rw[IntWalk.i64_in _ (by omega)]);have dY:(0:Int)<=(k:Int):=(by omega);have nB:(k:Int)<(LA.length:Int):=(by omega);have Sv:(k:Int)<(LB.length:Int):=(by omega);have Hf:=h_ hf;clear aj oU sA ao vL nH aF bG hv hy E4 My Mz hW zJ hlen vJ HZ pZ q7 vK G2 hf;go_upto_region 28 with fail;go_region;go_wp2;go_roundw;case rel=>exact⟨k+1,by omega,by go_num,az.o,dj,((Hf.o.setCell (p:=⟨wc.heap.size,k*2,none⟩) UZz _).setCell (p:=⟨wc.heap.size,k*2+1,none⟩) UZz _).drew⟩
         case measure=>simp[intOf]<;>omega
       ·have dY:k=LA.length:=(by omega);subst dY;rw[Va7,List.replicate_zero,Va3,<-HA,Vbx] at aF
        have dj:¬∃v∈LB,(4096:Int)<=v:=by
         rintro⟨v,hv,h4⟩;have:=ao.o v (by rw[D3.out,Vbx];exact hv);omega
        have hr:=vJ.o;rw[Vad dj] at hr;have AL:At wr (some ⟨wc.heap.size,0,none⟩) (pv Z):=aF.at_;have pW:=q7.o.below hf;have aW:=q8.o.trans (hf.mono q8.o.size);have HE:=h_ (Z8S pW AL n bo LA.length LA.length Sm.symm HA.symm (by omega) (by omega));obtain⟨⟨X,xe⟩,hX⟩:∃x,ZC ws Z []=x:=⟨_,rfl⟩;rw[hX] at hr HE;simp only at hr;have Hr:=h_ hr;have sB:=h_ aW;clear hX hr aW AL pW dj ao aF bG hf vJ HZ pZ q7 vK q8;go_wp2_with fail;refine(HE.o).mono ?_;rintro x MA ⟨v11,rfl,sC,jT⟩;simp only at sC;have aW:=sB.o.trans (jT.mono sB.o.size);by_cases ou:xe=0
        ·subst ou;have fG:Hid (YN (toL data)=some X):=h_ (by rw[Hr.o,Vaf rfl]);have Hs:=h_ sC;clear Hr sC jT;go_wp2;go_returns;rw[fG.o];exact⟨v11,rfl,(λl h=>by injection h with h;subst h;exact Hs.o),aW⟩
        ·have fG:Hid (YN (toL data)=none):=h_ (by rw[Hr.o,Vad ou]);have q9:((xe:Int)==0)=false:=(by rw[Van];omega);clear Hr sC jT ou;go_wp2;go_returns;rw[fG.o];exact XN aW
   ·have hr:YN (toL data)=none:=by
     rw[lO.o,pU]
    have Hr:=h_ hr;have ay:((e:Int) !=0)=true:=(by rw[Va1];omega);clear pU hr he lO dp;go_wp2;go_returns;rw[Hr.o];exact XN aU.o
end Go.Proofs.YtchokmkfobandaaGreatDoor
