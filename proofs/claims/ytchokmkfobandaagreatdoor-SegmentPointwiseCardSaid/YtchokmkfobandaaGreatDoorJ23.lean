import Derived.Test.YtchokmkfobandaaGreatDoorJ17
set_option linter.unusedVariables false
set_option linter.unusedSimpArgs false
set_option maxRecDepth 100000
set_option maxHeartbeats 8000000
namespace Go.Proofs.YtchokmkfobandaaGreatDoor
open Go.RowKit Go.Proofs Wv Wv.Vi Wv.Rc Wv.Mo Wv.Ru
def Z1F (c:Nat) (D:List ByteArray) (k:Nat):List UInt8:=num c++num D.length++(D.take k).flatMap text
theorem Z4E (c:Nat) (D:List ByteArray) (k:Nat) (h:∀s∈D,s.size<=128) (hl:D.length<=4096):(Z1F c D k).length<=600000:=by
 unfold Z1F;have h1:=kof9 c;have h2:=kof9 D.length;have h3:=ZiO (D.take k) (λs hs=>h s (List.mem_of_mem_take hs));have h4:(D.take k).length<=4096:=(by rw[List.length_take];omega);rw[List.length_append,List.length_append];omega
theorem Zad (c:Nat) (D:List ByteArray) (k:Nat) (h:k<D.length):Z1F c D (k+1)=Z1F c D k++text D[k]:=by
 unfold Z1F;rw[ZfD D k h,List.append_assoc,List.append_assoc,List.append_assoc]
def inx (R:List (Nat×Nat)):List Int:=R.map λx=>(x.1:Int)
def cnx (R:List (Nat×Nat)):List Int:=R.map λx=>(x.2:Int)-1
theorem Z5M (R:List (Nat×Nat)):(Z1f R).length=R.length:=by simp[Z1f]
theorem ZfZ (R:List (Nat×Nat)) (k:Nat) (h:k<R.length):(Z1f R)[k]'(by rw[Z5M];exact h)=((R[k].1:Int),(R[k].2:Int)):=by simp[Z1f]
theorem Zj1 (R:List (Nat×Nat)) (k:Nat) (h:k<R.length):inx (R.take (k+1))=inx (R.take k)++[(R[k].1:Int)]:=by
 unfold inx;rw[List.take_succ_eq_append_getElem h,List.map_append];rfl
theorem Zj2 (R:List (Nat×Nat)) (k:Nat) (h:k<R.length):cnx (R.take (k+1))=cnx (R.take k)++[(R[k].2:Int)-1]:=by
 unfold cnx;rw[List.take_succ_eq_append_getElem h,List.map_append];rfl
theorem Z3t (l:List Int) (x:Int):ivs (l++[x])=ivs l++[.int .i64 x]:=by simp[ivs,iv]
theorem Z7S (l:List Int):(ivs l).length=l.length:=by simp[ivs]
structure Gath (wb w:World) (B:Nat) (v1 v2:Value) (I C:List Int):Prop where
 two:TwoSt wb B 3 v1 (ivs I) v2 (ivs C) w
theorem Zae {w:World} {A:Option Addr} {l:List ByteArray} (c:Nat) (hc:c<=1) (ha:At w A (svs l)) (kl:∀s∈l,s.size<=128) (n cap:Nat) (hn:n=l.length) (hm:n<=4096):
  Calls Tryz.prog 58 #[.int .i64 (c:Int),.slice A n cap] w λx w'=>ERes w (encB c l,0) x w':=by
 have hL:=Zbx ha (λs hs=>by have:=kl s hs;omega) n cap hn hm;have hl:Za3 l=false:=decide_eq_false (by rintro⟨s,h1,h2⟩;have:=kl s h1;omega);rw[hl] at hL;have HL:=h_ hL;have Hd:=h_ (Z6m ha n cap hn hm);have Ha:=h_ ha;have Hn:=h_ hn;obtain⟨D,hD⟩:∃D,dict l=D:=⟨_,rfl⟩;have sX:=Z1k l;have pf:=Z5s kl;rw[hD] at sX pf;have Lh:D.length<=4096:=(by omega);have H1:=λw=>Z0g (c:Int) (by omega) (by omega) w;have H2:=λw=>Z0g (D.length:Int) (by omega) (by omega) w;simp only[Int.toNat_natCast] at H1 H2;have k1:=kof9 c;have k2:=kof9 D.length;rw[<-Z00] at k1 k2;have zk:bs (num c)++bs (num D.length)=bs (Z1F c D 0):=(by rw[Z0f];unfold Z1F;simp);rw[hD] at Hd;have HD:=h_ hD;have pg:=h_ pf;have zl:=h_ zk;generalize bs (num c)=s1 at*;generalize bs (num D.length)=s2 at*;have H1:=h_ H1;have H2:=h_ H2;have L6:¬(4096:Int)<(n:Int):=(by omega)
 have jk:(((c:Int) !=0)&&((c:Int) !=1))=false:=by
  have:c=0\/c=1:=(by omega);rcases this with rfl|rfl<;>rfl
 have ph:((c:Int) !=0)=false\/(((c:Int) !=0)=true/\((c:Int) !=1)=false):=by
  have:c=0\/c=1:=(by omega);rcases this with rfl|rfl
  ·exact .inl rfl
  ·exact .inr ⟨rfl,rfl⟩
 clear ha hn hL hl hD pf zk kl sX jk;go_enter Tryz.func58,Tryz.ntmps58;go_upto_region 1 with fail;go_cut [23] (λQa wx=>Qa=.bool false/\w=wx)
 case first=>
  rcases ph with g0|⟨g0,g1⟩
  ·go_wp2;go_meet;case rel=>exact⟨rfl,rfl⟩
  ·go_wp2;go_meet;case rel=>exact⟨rfl,rfl⟩
 case rest=>
  obtain⟨rfl,rfl⟩:=hcut;clear ph;go_wp2_with fail;refine(HL.o).mono ?_;rintro x w1 ⟨rfl,rfl⟩;go_wp2_with fail;refine(Hd.o).mono ?_;rintro x w1 ⟨v6,rfl,⟨AD,Qb,rfl,zm⟩,a7⟩;go_wp2_with fail;refine(H1.o _).mono ?_;rintro x w2 ⟨rfl,a8⟩;go_wp2_with fail;refine(H2.o _).mono ?_;rintro x w3 ⟨rfl,ae⟩;have uP:=a8.trans (ae.mono a8.size);have tc:=zm.below uP;have fe:=a7.trans (uP.mono a7.size);clear a7 a8 ae uP zm;go_wp2;rw[zl.o];go_loopw [7,9,41] (λout _ i wr=>∃k:Nat,k<=D.length/\i=.int .i64 k/\out=.string (bs (Z1F c D k))/\At wr AD (svs D)/\Below w.heap.size w wr) (λ_ _ i _=>(D.length-intOf i).toNat);case atStart=>exact⟨0,by omega,rfl,rfl,tc,fe⟩
  case round=>
   clear tc fe HL Hd H1 H2 zl;obtain⟨k,hk,rfl,rfl,ak,hf⟩:=hrel;have fk:=Z4E c D k pg.o Lh;rw[<-Z00] at fk;by_cases ab:k<D.length
   ·obtain⟨s,hs⟩:∃s,D[k]=s:=⟨_,rfl⟩;have tf:=pg.o s (hs▸List.getElem_mem _);obtain⟨bA,oA,hA,ec,ko⟩:=ak.get k (.string s) (by rw[Z1p D k ab,hs]);subst hA;have Ht:=λw=>Z2K s (by omega) w;have fw:=ZbC s tf;rw[<-Z00] at fw;have iL:bs (Z1F c D k)++bs (text s)=bs (Z1F c D (k+1)):=(by rw[Z0f,Zad c D k ab,hs]);have bd:=h_ ak;generalize bs (Z1F c D k)=S1 at*;generalize bs (text s)=S2 at*;have pj:=h_ iL;have Ht:=h_ Ht;clear iL hs ak tf;go_wp2_with fail;refine(Ht.o _).mono ?_;rintro x w4 ⟨rfl,aw⟩;have dm:=bd.o.below aw;have aG:=hf.trans (aw.mono hf.size);clear aw;go_wp2;go_roundw;case rel=>exact⟨k+1,by omega,by go_num,by rw[pj.o],dm,aG⟩
    case measure=>simp[intOf]<;>omega
   ·have Qc:k=D.length:=(by omega);subst Qc;have pn:=Ha.o.below hf;have Hr:=ZiN pn n cap Hn.o hm;obtain⟨R,hR⟩:∃R,runs (dict l) l=R:=⟨_,rfl⟩;have po:=Z1l (dict l) l;have FQ:=Z3l (dict l) l;rw[hR] at Hr po FQ;have HR:=h_ hR;have Li:=h_ FQ;have FR:R.length<=4096:=(by rw[<-Hn.o] at po;omega);have Hr:=h_ Hr;clear hR FQ po;have Hf:=h_ hf;clear ak pn hf ab;go_wp2_with fail;refine(Hr.o).mono ?_;rintro x w4 ⟨AR,Qd,rfl,zn,aw⟩;have aG:=Hf.o.trans (aw.mono Hf.o.size);clear aw;simp only[Z5M];have bd:=h_ zn;have cQ:=h_ aG;clear zn aG;go_wp2;go_loopw [10,11,13,53] (λv10 v11 _ i wr=>∃k:Nat,k<=R.length/\i=.int .i64 k/\TwoSt w4 w4.heap.size 3 v10 (ivs (inx (R.take k))) v11 (ivs (cnx (R.take k))) wr) (λ_ _ _ i _=>(R.length-intOf i).toNat);case atStart=>exact⟨0,by omega,rfl,⟨Z0p,Z0p,by simp[Value.ownBlock],Below.refl _ _,Nat.le_refl _⟩⟩
    case round=>
     obtain⟨q,hq,rfl,qL⟩:=hrel;by_cases bK:q<R.length
     ·have hI:=Zj1 R q bK;have hC:=Zj2 R q bK;obtain⟨⟨ri,rc⟩,hrq⟩:∃x,R[q]=x:=⟨_,rfl⟩;have um:=Li.o R[q] (List.getElem_mem _);have eM:=Zbo (Z1f R) q (by rw[Z5M];exact bK);rw[ZfZ R q bK] at eM;rw[hrq] at hI hC um eM;simp only at hI hC um eM;have Qe:(ivs (inx (R.take q))).length<=4096:=(by rw[Z7S];unfold inx;rw[List.length_map,List.length_take];omega);have Qf:(ivs (cnx (R.take q))).length<=4096:=(by rw[Z7S];unfold cnx;rw[List.length_map,List.length_take];omega);have uQ:=bd.o.below qL.bel;obtain⟨bB,oB,hB,KZ,mX⟩:=uQ.get (q*2) _ eM.1;obtain⟨PS,PT,nR,_,jH⟩:=uQ.get (q*2+1) _ eM.2;rw[hB] at nR;injection nR with nR
      injection nR with xo uG;subst xo;subst uG;subst hB;unfold iv at mX jH;have oW:wr.cell? ⟨bB,oB+q*2+1,none⟩=some (.int .i64 (rc:Int)):=jH;have Uf:rc<=4096:=(by have:=Hn.o;omega);have i2:IntKind.i64.wrap ((rc:Int)-1)=(rc:Int)-1:=(by rw[IntWalk.i64_in _ (by omega)]);obtain⟨X,hX⟩:∃X,ivs (inx (R.take q))=X:=⟨_,rfl⟩;obtain⟨Y,hY⟩:∃Y,ivs (cnx (R.take q))=Y:=⟨_,rfl⟩;rw[hX] at qL Qe;rw[hY] at qL Qf;have HI:Hid (ivs (inx (R.take (q+1)))=X++[.int .i64 (ri:Int)]):=h_ (by rw[hI,Z3t,hX]);have HC:Hid (ivs (cnx (R.take (q+1)))=Y++[.int .i64 ((rc:Int)-1)]):=h_ (by rw[hC,Z3t,hY]);have hW:=qL.alloc (.cells #[.int .i64 (ri:Int),.int .i64 (rc:Int)] 134);have CZ:=Bk.new wr 134 #[.int .i64 (ri:Int),.int .i64 (rc:Int)];obtain⟨t1,t2,t3⟩:=Zbd (P:=Tryz.prog) 31 3 _ 8 Tryz.underlying31 Z0R rfl hW (.int .i64 (ri:Int)) (.int .i64 ((rc:Int)-1)) (by rfl) (by rfl) (by unfold maxLen;omega) (by omega) (by unfold maxLen;omega) (by omega) _ _ _ CZ (by decide);obtain⟨t4,t5,t6⟩:=Zbd (P:=Tryz.prog) 31 3 _ 8 Tryz.underlying31 Z0R rfl hW.swap (.int .i64 ((rc:Int)-1)) (.int .i64 (ri:Int)) (by rfl) (by rfl) (by unfold maxLen;omega) (by omega) (by unfold maxLen;omega) (by omega) _ _ _ CZ (by decide);simp only[World.size_alloc] at t1 t2 t3 t4 t5 t6;clear hI hC eM hrq uQ hX hY qL hW um jH;obtain⟨Ug,Lj,Uh,Ll,Lm,Ln,FT,FU,FW⟩:=t1;have D1:=h_ Lm;have D2:=h_ Ln;have Qg:=h_ FT;have Qh:Lj.cell? ⟨wr.heap.size,0,none⟩=some (.int .i64 (ri:Int)):=FU.cell 0;have Qi:Lj.cell? ⟨wr.heap.size,1,none⟩=some (.int .i64 (rc:Int)):=FU.cell 1;have Qj:Ll.cell? ⟨wr.heap.size,0,none⟩=some (.int .i64 (ri:Int)):=FW.cell 0;have Qk:Ll.cell? ⟨wr.heap.size,1,none⟩=some (.int .i64 (rc:Int)):=FW.cell 1;clear Lm Ln FT FU FW;obtain⟨Ui,Lo,Uj,Lp,Lr,Ls,FX,FY,FZ⟩:=t2;have D4:=h_ Lr;have D5:=h_ Ls;have Ql:=h_ FX;have Qm:Lo.cell? ⟨wr.heap.size,0,none⟩=some (.int .i64 (ri:Int)):=FY.cell 0;have Qn:Lo.cell? ⟨wr.heap.size,1,none⟩=some (.int .i64 (rc:Int)):=FY.cell 1;have Qo:Lp.cell? ⟨wr.heap.size,0,none⟩=some (.int .i64 (ri:Int)):=FZ.cell 0;have Qp:Lp.cell? ⟨wr.heap.size,1,none⟩=some (.int .i64 (rc:Int)):=FZ.cell 1;clear Lr Ls FX FY FZ;obtain⟨Uk,Lt,Ul,Lu,Lv,Lw,Lx,G0,G4⟩:=t3;have D6:=h_ Lv;have D7:=h_ Lw;have Qq:=h_ Lx;have Qr:Lt.cell? ⟨wr.heap.size,0,none⟩=some (.int .i64 (ri:Int)):=G0.cell 0;have Qs:Lt.cell? ⟨wr.heap.size,1,none⟩=some (.int .i64 (rc:Int)):=G0.cell 1;have Qt:Lu.cell? ⟨wr.heap.size,0,none⟩=some (.int .i64 (ri:Int)):=G4.cell 0;have Qu:Lu.cell? ⟨wr.heap.size,1,none⟩=some (.int .i64 (rc:Int)):=G4.cell 1;clear Lv Lw Lx G0 G4;obtain⟨Um,Ly,Un,LD,LF,LG,LH,G5,G6⟩:=t4;have D8:=h_ LF;have D9:=h_ LG;have Qv:=h_ LH;have Qw:Ly.cell? ⟨wr.heap.size,0,none⟩=some (.int .i64 (ri:Int)):=G5.cell 0;have Qx:Ly.cell? ⟨wr.heap.size,1,none⟩=some (.int .i64 (rc:Int)):=G5.cell 1;have Qy:LD.cell? ⟨wr.heap.size,0,none⟩=some (.int .i64 (ri:Int)):=G6.cell 0;have Qz:LD.cell? ⟨wr.heap.size,1,none⟩=some (.int .i64 (rc:Int)):=G6.cell 1;clear LF LG LH G5 G6;obtain⟨Uo,LI,Up,LJ,LK,LL,LM,G7,G8⟩:=t5;have Da:=h_ LK;have Db:=h_ LL;have QA:=h_ LM;have QB:LI.cell? ⟨wr.heap.size,0,none⟩=some (.int .i64 (ri:Int)):=G7.cell 0;have QC:LI.cell? ⟨wr.heap.size,1,none⟩=some (.int .i64 (rc:Int)):=G7.cell 1;have QD:LJ.cell? ⟨wr.heap.size,0,none⟩=some (.int .i64 (ri:Int)):=G8.cell 0;have QE:LJ.cell? ⟨wr.heap.size,1,none⟩=some (.int .i64 (rc:Int)):=G8.cell 1;clear LK LL LM G7 G8;obtain⟨Uq,LN,Ur,LO,LP,LQ,LR,G9,Ga⟩:=t6;have Dd:=h_ LP;have Df:=h_ LQ;have QF:=h_ LR;have QG:LN.cell? ⟨wr.heap.size,0,none⟩=some (.int .i64 (ri:Int)):=G9.cell 0;have QH:LN.cell? ⟨wr.heap.size,1,none⟩=some (.int .i64 (rc:Int)):=G9.cell 1;have QI:LO.cell? ⟨wr.heap.size,0,none⟩=some (.int .i64 (ri:Int)):=Ga.cell 0;have QJ:LO.cell? ⟨wr.heap.size,1,none⟩=some (.int .i64 (rc:Int)):=Ga.cell 1;clear LP LQ LR G9 Ga;have x0:(wr.alloc (.cells #[.int .i64 (ri:Int),.int .i64 (rc:Int)] 134)).cell? ⟨wr.heap.size,0,none⟩=some (.int .i64 (ri:Int)):=CZ.cell 0;have x1:(wr.alloc (.cells #[.int .i64 (ri:Int),.int .i64 (rc:Int)] 134)).cell? ⟨wr.heap.size,1,none⟩=some (.int .i64 (rc:Int)):=CZ.cell 1;have n0:=World.new_ne _ _ x0;have n1:=World.new_ne _ _ x1;go_upto_region 16 with fail
      go_region_held3 (λW=>W.cell? ⟨wr.heap.size,0,none⟩=some (.int .i64 (ri:Int))/\W.cell? ⟨wr.heap.size,1,none⟩=some (.int .i64 (rc:Int))) (first|go_keep)
       ((first|refine Z05 (by with_reducible rfl) (by rfl) _ _ _ (by rfl) _ _ (by rfl) (by rfl) D1.out ?_|refine Z05 (by with_reducible rfl) (by rfl) _ _ _ (by rfl) _ _ (by rfl) (by rfl) D2.out ?_|refine Z05 (by with_reducible rfl) (by rfl) _ _ _ (by rfl) _ _ (by rfl) (by rfl) D4.out ?_|refine Z05 (by with_reducible rfl) (by rfl) _ _ _ (by rfl) _ _ (by rfl) (by rfl) D5.out ?_|refine Z05 (by with_reducible rfl) (by rfl) _ _ _ (by rfl) _ _ (by rfl) (by rfl) D6.out ?_|refine Z05 (by with_reducible rfl) (by rfl) _ _ _ (by rfl) _ _ (by rfl) (by rfl) D7.out ?_|refine Z05 (by with_reducible rfl) (by rfl) _ _ _ (by rfl) _ _ (by rfl) (by rfl) D8.out ?_|refine Z05 (by with_reducible rfl) (by rfl) _ _ _ (by rfl) _ _ (by rfl) (by rfl) D9.out ?_|refine Z05 (by with_reducible rfl) (by rfl) _ _ _ (by rfl) _ _ (by rfl) (by rfl) Da.out ?_|refine Z05 (by with_reducible rfl) (by rfl) _ _ _ (by rfl) _ _ (by rfl) (by rfl) Db.out ?_|refine Z05 (by with_reducible rfl) (by rfl) _ _ _ (by rfl) _ _ (by rfl) (by rfl) Dd.out ?_|refine Z05 (by with_reducible rfl) (by rfl) _ _ _ (by rfl) _ _ (by rfl) (by rfl) Df.out ?_))
      all_goals
       go_wp2;go_roundw
       case rel=>
        refine⟨q+1,by omega,by go_num,?_⟩;rw[HI.o,HC.o];first|exact Qg.out|exact Ql.out|exact Qq.out|exact Qv.out.swap|exact QA.out.swap|exact QF.out.swap
       case measure=>simp[intOf]<;>omega
     ·have QK:q=R.length:=(by omega);subst QK;rw[List.take_length] at qL
      have hI:inx R=(idxs l).map Int.ofNat:=by
       unfold inx idxs;rw[HR.o,List.map_map];rfl
      have hC:cnx R=(cnts l).map Int.ofNat:=by
       unfold cnx cnts;rw[HR.o,List.map_map];refine List.map_congr_left λx hx=> ?_;have:=(Li.o x hx).2.1;show(x.2:Int)-1=((x.2-1:Nat):Int);omega
      have cj:(ivs (inx R)).length=R.length:=(by rw[Z7S];simp[inx]);have cZ:(ivs (cnx R)).length=R.length:=(by rw[Z7S];simp[cnx]);obtain⟨A1,c1,rfl,cI⟩:=Z0q qL.own1;obtain⟨A2,c2,rfl,bL⟩:=Z0q qL.own2;have fu:l.length<=4096:=(by rw[<-Hn.o];exact hm);have Gb:(idxs l).length=R.length:=(by rw[Z2H,HR.o]);have Gc:(cnts l).length=R.length:=(by rw[Z2I,HR.o]);have Gd:(Z1b c l).length=R.length:=(by rw[Z1w,HR.o]);rw[hI] at cI;rw[hC] at bL;have dj:=cQ.o.trans (qL.bel.mono cQ.o.size);have ff:=h_ cI;have kx:=h_ bL;have zo:=h_ dj
      have pq:front ((idxs l).map Int.ofNat)=(Z17 r0 (idxs l),0):=by
       unfold front
       rw[if_pos (Z5r (by rw[List.length_map,Gb];exact FR) (λn hn=>by
        obtain⟨m,hm,rfl⟩:=List.mem_map.1 hn;have:=Z7e l fu m hm;exact⟨by simp,by simp;omega⟩)),Z1T]
      have HF:=h_ (ZcJ cI R.length c1 (by rw[List.length_map,Gb]) (by omega));rw[pq] at HF;have QL:=h_ (Z3Y c l fu);have QM:=h_ (Z5t l fu);have zp:=Z2O (Z1b c l) (λv hv=>by have:=Z3Y c l fu v hv;omega);have zq:=Z2O (cnts l) (λv hv=>by have:=Z5t l fu v hv;omega);rw[Gd] at zp;rw[Gc] at zq;have fk:=Z4E c D D.length pg.o Lh;have LU:encA c l=encn (Z1b c l):=rfl
      have gG:(text (bs (encn (Z1b c l)))).length<=600000:=by
       unfold text;rw[List.length_append,Z0d];have:=kof9 (bs (encn (Z1b c l))).size;omega
      have lP:Hid (bs (Z1F c D D.length)++bs (text (bs (encn (Z1b c l))))++bs (encn (cnts l))=bs (encB c l)):=h_ (by
       rw[Z0f,Z0f];unfold Z1F encB text;rw[List.take_length,HD.o,LU,Z0d,Z00])
      have Ge:=h_ Gd;have LV:=h_ Gc;have LW:(bs (encn (Z1b c l))).size<=1099511627776:=(by rw[Z00];omega);have Ht:=λw=>Z2K (bs (encn (Z1b c l))) LW w;have pt:c=0\/c=1:=(by omega);have H0:Hid (c=0->Z1b c l=idxs l):=h_ (λh=>by subst h;rfl);have H1:Hid (c=1->Z1b c l=Z17 r0 (idxs l)):=h_ (λh=>by subst h;rfl);rw[<-Z00] at fk zq gG;generalize bs (Z1F c D D.length)=S1 at*;generalize bs (text (bs (encn (Z1b c l))))=S2 at*;have Ht:=h_ Ht;clear bK hq qL cI bL dj hI hC Gb Gc Gd pq LU zp LW;rw[cj,cZ];go_upto_if 70 with fail;go_cut [10] (λkG wx=>∃A cap,kG=.slice A R.length cap/\At wx A (ivs ((Z1b c l).map Int.ofNat))/\Below wr.heap.size wr wx)
      case first=>
       rcases pt with bN|bN
       ·have g0:¬((c:Int)=1):=(by omega);have zr:=h_ (H0.o bN);clear H0 H1 bN;go_wp2;go_meet;case rel=>exact⟨A1,c1,rfl,by rw[zr.o];exact ff.o,Below.refl _ _⟩
       ·have g0:((c:Int)==1)=true:=(by rw[beq_iff_eq];omega);have xv:=h_ (H1.o bN);have Gf:Hid ((Z17 r0 (idxs l)).length=R.length):=h_ (by rw[<-xv.o,Ge.o]);clear H0 H1 bN hc;go_wp2_with fail;refine(HF.o).mono ?_;rintro x w5 ⟨v5,rfl,⟨A5,bk,rfl,cY⟩,aM⟩;go_wp2;go_meet;case rel=>exact⟨A5,bk,by rw[Gf.o],by rw[xv.o];exact cY,aM⟩
      case rest=>
       obtain⟨A5,bk,rfl,cY,aM⟩:=hcut;clear HF H0 H1 pt;have qM:=h_ (Z1s cY R.length bk Ge.o.symm (by rw[Ge.o];exact FR) (λv hv=>by have:=QL.o v hv;omega));have gH:=zo.o.trans (aM.mono zo.o.size);have tg:=kx.o.below aM;clear cY aM;go_wp2_with fail;refine(qM.o).mono ?_;rintro x w6 ⟨rfl,dq⟩;have xw:=h_ (Z1s (tg.below dq) R.length c2 LV.o.symm (by rw[LV.o];exact FR) (λv hv=>by have:=QM.o v hv;omega));have uR:=gH.trans (dq.mono gH.size);clear tg dq gH;go_wp2_with fail;refine(xw.o).mono ?_;rintro x w7 ⟨rfl,fx⟩;have uS:=uR.trans (fx.mono uR.size);generalize bs (encn (Z1b c l))=S3 at*;generalize bs (encn (cnts l))=S4 at*;clear fx uR;go_wp2_with fail;refine(Ht.o _).mono ?_;rintro x w8 ⟨rfl,mM⟩;have Gg:=uS.trans (mM.mono uS.size);clear mM uS;go_wp2;go_returns;exact⟨by rw[lP.o];rfl,Gg⟩
theorem Z94 {w:World} {A:Option Addr} {l:List ByteArray} (c:Int) (ha:At w A (svs l)) (ad:∀s∈l,s.size<=9223372036854775807) (n cap:Nat) (hn:n=l.length) (hm:n<=9223372036854775807):
  Calls Tryz.prog 58 #[.int .i64 c,.slice A n cap] w λx w'=>ERes w (ZkZ c l) x w':=by
 unfold ZkZ;by_cases hc:c≠0/\c≠1
 ·rw[if_pos hc];exact ZfC c hc.1 hc.2 A n cap
 ·rw[if_neg hc];have pt:c=0\/c=1:=(by omega);obtain⟨c,rfl⟩:=Int.eq_ofNat_of_zero_le (show 0<=c by omega);by_cases hb:4096<l.length\/∃s∈l,128<s.size
  ·rw[if_pos hb];exact Za5 c (by omega) ha ad n cap hn hm hb
  ·rw[if_neg hb,Int.toNat_natCast]
   exact Zae c (by omega) ha (λs hs=>by
    rcases Nat.lt_or_ge 128 s.size with h|h
    ·exact absurd (.inr ⟨s,hs,h⟩) hb
    ·exact h) n cap hn (by omega)
theorem Z1N {w:World} {A:Option Addr} {l:List ByteArray} (ha:At w A (svs l)) (ad:∀s∈l,s.size<=9223372036854775807) (n cap:Nat) (hn:n=l.length) (hm:n<=9223372036854775807):
  Calls Tryz.prog 34 #[.slice A n cap] w λx w'=>ERes w (enc l) x w':=by
 have H0:=h_ (Z94 0 ha ad n cap hn hm);have H1:=h_ (λw' (h:Below w.heap.size w w')=>Z94 1 (ha.below h) ad n cap hn hm);clear ha hn;unfold enc;unfold ZkZ at H0 H1;rw[if_neg (by decide)] at H0;simp only[show ¬((1:Int)≠0/\(1:Int)≠1) from by decide,if_false] at H1;by_cases hb:4096<l.length\/∃s∈l,128<s.size
 ·simp only[hb,if_true] at H0⊢;clear H1 hb ad;go_enter Tryz.func34,Tryz.ntmps34;go_wp2_with fail;refine(H0.o).mono ?_;rintro x w1 ⟨rfl,a7⟩;go_wp2;go_returns;exact Z4b 9 a7
 ·simp only[hb,if_false,show(0:Int).toNat=0 from rfl,show(1:Int).toNat=1 from rfl] at H0 H1⊢;clear hb ad;have gk:=Z00 (encB 0 l);have cj:=Z00 (encB 1 l);by_cases ab:(encB 1 l).length<(encB 0 l).length
  ·rw[if_pos ab];have bK:((bs (encB 1 l)).size:Int)<((bs (encB 0 l)).size:Int):=(by rw[gk,cj];exact Int.ofNat_lt.2 ab);clear ab gk cj;obtain⟨S0,nU⟩:∃S,bs (encB 0 l)=S:=⟨_,rfl⟩;have zr:Hid (Calls Tryz.prog 58 #[.int .i64 0,.slice A n cap] w λx w'=>x=.returned (.tuple #[.string S0,.int .i64 0])/\Below w.heap.size w w'):=h_ (by rw[<-nU];exact H0.o);obtain⟨S1,lQ⟩:∃S,bs (encB 1 l)=S:=⟨_,rfl⟩;have xv:Hid (∀w',Below w.heap.size w w'->Calls Tryz.prog 58 #[.int .i64 1,.slice A n cap] w' λx w2=>x=.returned (.tuple #[.string S1,.int .i64 0])/\Below w'.heap.size w' w2):=h_ (by rw[<-lQ];exact H1.o);rw[nU,lQ] at bK;have Hr:Hid (∀w',Below w.heap.size w w'->ERes w (encB 1 l,0) (.returned (.tuple #[.string S1,.int .i64 0])) w'):=h_ (λw' h=>by rw[<-lQ];exact⟨rfl,h⟩);clear H0 H1 nU lQ;go_enter Tryz.func34,Tryz.ntmps34;go_wp2_with fail;refine(zr.o).mono ?_;rintro x w1 ⟨rfl,a7⟩;go_wp2_with fail;refine(xv.o _ a7).mono ?_;rintro x w2 ⟨rfl,a8⟩;have hb:=a7.trans (a8.mono a7.size);go_wp2;go_returns;exact Hr.o _ hb
  ·rw[if_neg ab];have bK:¬((bs (encB 1 l)).size:Int)<((bs (encB 0 l)).size:Int):=(by rw[gk,cj];omega);clear ab gk cj;obtain⟨S0,nU⟩:∃S,bs (encB 0 l)=S:=⟨_,rfl⟩;have zr:Hid (Calls Tryz.prog 58 #[.int .i64 0,.slice A n cap] w λx w'=>x=.returned (.tuple #[.string S0,.int .i64 0])/\Below w.heap.size w w'):=h_ (by rw[<-nU];exact H0.o);obtain⟨S1,lQ⟩:∃S,bs (encB 1 l)=S:=⟨_,rfl⟩;have xv:Hid (∀w',Below w.heap.size w w'->Calls Tryz.prog 58 #[.int .i64 1,.slice A n cap] w' λx w2=>x=.returned (.tuple #[.string S1,.int .i64 0])/\Below w'.heap.size w' w2):=h_ (by rw[<-lQ];exact H1.o);rw[nU,lQ] at bK;have Hr:Hid (∀w',Below w.heap.size w w'->ERes w (encB 0 l,0) (.returned (.tuple #[.string S0,.int .i64 0])) w'):=h_ (λw' h=>by rw[<-nU];exact⟨rfl,h⟩);clear H0 H1 nU lQ;go_enter Tryz.func34,Tryz.ntmps34;go_wp2_with fail;refine(zr.o).mono ?_;rintro x w1 ⟨rfl,a7⟩;go_wp2_with fail;refine(xv.o _ a7).mono ?_;rintro x w2 ⟨rfl,a8⟩;have hb:=a7.trans (a8.mono a7.size);go_wp2;go_returns;exact Hr.o _ hb
theorem Z2j {s:ByteArray} {e:Nat} (he:e≠0) (most:Int):numR s e most=(0,s,e):=by unfold numR;rw[if_neg he]
theorem Z5N {s:ByteArray} {e:Nat} (he:e≠0) (n:Int):Z0C s e n=(bs [],s,e):=by unfold Z0C;rw[if_neg he]
theorem Z0l {s t:List UInt8} {n most:Nat} (h:rnum s most=some (n,t)):numR (bs s) 0 (most:Int)=(n,bs t,0)/\n<=most/\t.length<=s.length:=by
 unfold rnum at h;match hr:rd s with
 |none=>rw[hr] at h;cases h
 |some (m,z)=>
  rw[hr] at h;simp only at h;by_cases hm:most<m
  ·rw[if_pos hm] at h;cases h
  ·rw[if_neg hm] at h;injection h with h;injection h with h1 h2;subst h1;subst h2;exact⟨Z7H hr (by omega),by omega,by rw[List.length_drop];omega⟩
theorem Z11 {s:List UInt8} {most:Nat} (h:rnum s most=none):∃e,e≠0/\numR (bs s) 0 (most:Int)=(0,bs s,e):=by
 unfold rnum at h;match hr:rd s with
 |none=>exact⟨12,by decide,Z8L hr⟩
 |some (m,z)=>
  rw[hr] at h;simp only at h;by_cases hm:most<m
  ·exact⟨2,by decide,Zbt hr (by omega)⟩
  ·rw[if_neg hm] at h;cases h
theorem Z1A {s:ByteArray} {e:Nat} (he:e≠0) (most:Int):Z0S s e most=(bs [],s,e):=by
 unfold Z0S;rw[Z2j he];simp only;rw[Z5N he];simp only;rw[if_neg he]
theorem Z4F {s t a:List UInt8} {most:Nat} (h:Z0H s most=some (a,t)):Z0S (bs s) 0 (most:Int)=(bs a,bs t,0)/\a.length<=s.length/\t.length<=s.length/\a.length<=most:=by
 unfold Z0H at h;match hr:rnum s most with
 |none=>rw[hr] at h;cases h
 |some (n,u)=>
  rw[hr] at h;simp only at h;obtain⟨h1,h2,h3⟩:=Z0l hr;by_cases hm:u.length<n
  ·rw[if_pos hm] at h;cases h
  ·rw[if_neg hm] at h;injection h with h;injection h with h4 h5;subst h4;subst h5
   have ht:Z0C (bs u) 0 (n:Int)=(bs (u.take n),bs (u.drop n),0):=by
    unfold Z0C;rw[if_pos rfl,if_neg (by omega),if_neg (by rw[Z00];omega),Int.toNat_natCast,Z0d]
   refine⟨?_,by rw[List.length_take];omega,by rw[List.length_drop];omega,by rw[List.length_take];omega⟩;unfold Z0S;rw[h1];simp only;rw[ht];simp only[if_true]
theorem Z95 {s:List UInt8} {most:Nat} (h:Z0H s most=none):∃e,e≠0/\Z0S (bs s) 0 (most:Int)=(bs [],bs s,e):=by
 unfold Z0H at h;match hr:rnum s most with
 |none=>
  obtain⟨e,h1,h2⟩:=Z11 hr;refine⟨e,h1,?_⟩;unfold Z0S;rw[h2];simp only;rw[Z5N h1];simp only;rw[if_neg h1]
 |some (n,u)=>
  rw[hr] at h;simp only at h;obtain⟨h1,h2,h3⟩:=Z0l hr;by_cases hm:u.length<n
  ·have ht:Z0C (bs u) 0 (n:Int)=(bs [],bs u,12):=by
    unfold Z0C;rw[if_pos rfl,if_neg (by omega),if_pos (by rw[Z00];omega)]
   refine⟨12,by decide,?_⟩;unfold Z0S;rw[h1];simp only;rw[ht];simp only;rw[if_neg (by decide)]
  ·rw[if_neg hm] at h;cases h
theorem Z96 {n:Nat} {s t a:List UInt8} (h:Z0H s 128=some (a,t)):Z18 (n+1) s=(Z18 n t).map λx=>(bs a::x.1,x.2):=by
 rw[Z18,h];simp only;cases Z18 n t<;>rfl
theorem Z97 {n:Nat} {s:List UInt8} (h:Z0H s 128=none):Z18 (n+1) s=none:=by rw[Z18,h]
theorem Z2w (s:List UInt8) (most:Int):(∀v∈(decn s most).1,0<=v)/\(decn s most).1.length<=4096:=by
 unfold decn;match rd s with
 |none=>simp
 |some (n,z)=>
  simp only;split
  ·simp
  ·split
   ·simp
   ·split
    ·simp
    ·split
     ·rename_i h;refine⟨h.2,?_⟩;rw[(Z8K n t0 (d0 (s.drop z))).1,Z4B];omega
     ·simp
theorem Zj3 {α:Type} (L:List α) (n:Nat) (v z:α) (h:L.length<n):(L++List.replicate (n-L.length) z).set L.length v=(L++[v])++List.replicate (n-(L.length+1)) z:=by
 rw[List.set_append_right _ _ (Nat.le_refl _),Nat.sub_self,show n-L.length=(n-(L.length+1))+1 from by omega,List.replicate_succ,List.set_cons_zero];simp
def pcs (l:List (Int×Int)):Array Value:=(pv l).toArray
theorem ZnS (l:List (Int×Int)):∀(k:Nat) (x:Int×Int),k<l.length->((pv l).set (k*2) (iv x.1)).set (k*2+1) (iv x.2)=pv (l.set k x):=by
 induction l with
 |nil=>intro k x h;simp at h
 |cons c D ih=>
  intro k x h;have e:pv (c::D)=iv c.1::iv c.2::pv D:=rfl;match k,h with
  |0,_=>rfl
  |k+1,h=>
   have h':k<D.length:=(by rw[List.length_cons] at h;omega);have:=ih k x h';rw[e,show(k+1)*2=k*2+1+1 from by omega,List.set_cons_succ,List.set_cons_succ,List.set_cons_succ,List.set_cons_succ,this];rfl
theorem ZlU (l:List (Int×Int)) (k:Nat) (x:Int×Int) (h:k<l.length):((pcs l).setIfInBounds (k*2) (.int .i64 x.1)).setIfInBounds (k*2+1) (.int .i64 x.2)=pcs (l.set k x):=by
 apply Array.toList_inj.1;have:=ZnS l k x h;unfold iv at this;simpa [pcs] using this
theorem ZlV (l:List (Int×Int)) (k:Nat) (h:k<l.length):(pcs l)[k*2]? =some (.int .i64 l[k].1)/\(pcs l)[k*2+1]? =some (.int .i64 l[k].2):=by
 have:=Zbo l k h;unfold iv at this;simpa [pcs] using this
theorem ZlW (n:Nat):∀i,i<n*2->(pv (List.replicate n (0,0)))[i]? =some (.int .i64 0):=by
 induction n with
 |zero=>intro i h;omega
 |succ n ih=>
  intro i h;have e:pv (List.replicate (n+1) (0,0))=iv 0::iv 0::pv (List.replicate n (0,0)):=rfl;rw[e];match i,h with
  |0,_=>rfl
  |1,_=>rfl
  |i+2,h=>rw[List.getElem?_cons_succ,List.getElem?_cons_succ];exact ih i (by omega)
theorem Zj4 {P:Program} (t e:TypeId) (ht:P.underlying t=some (.slice e)) (aH:(P.info? e).map (λi=>(i.zero,i.size,i.bytes))=some (some (.agg #[.int .i64 0,.int .i64 0]),2,16))
  (m:Int) (n:Nat) (hm:m=n) (hb:n<=4096) (w:World):
  (Instr.makeSlice t (.int .i64 m) (.int .i64 m)).run P w=.ok (.slice (some ⟨w.heap.size,0,none⟩) n n) (w.alloc (.cells (pcs (List.replicate n (0,0))) e)):=by
 obtain⟨i,hi,hz,hs,dd⟩:=info_parts aH;subst hm;have hr:=run_make (P:=P) w t e i _ ht hi hz .i64 .i64 (n:Int) (n:Int) (by omega) (by omega) (by rw[dd];omega) (by omega);rw[hr,Int.toNat_natCast,hs];congr 3;apply Array.ext
 ·simp[madeCells,pcs,Z5D]
 ·intro j h1 h2;have h3:j<n*2:=(by simpa [madeCells] using h1);have h4:=ZlW n j h3;have h5:(pcs (List.replicate n (0,0)))[j]? =some (.int .i64 0):=(by simpa [pcs] using h4);rw[Array.getElem?_eq_getElem h2] at h5;injection h5 with h5;rw[h5];have hj:j % 2=0\/j % 2=1:=(by omega);rcases hj with hj|hj<;>simp[madeCells,Value.cells,hj]
def Z6g (w:World) (r:Option (List ByteArray)) (x:Ending) (w':World):Prop:=∃v,x=.returned (.tuple #[v,.bool r.isSome])/\(∀l,r=some l->SRes w' v l)/\Below w.heap.size w w'
theorem Z2P {w w':World} {v:Value} (hb:Below w.heap.size w w'):Z6g w none (.returned (.tuple #[v,.bool false])) w':=⟨v,rfl,(λl h=>by cases h),hb⟩
theorem ZbN {w:World} (data:ByteArray) (hd:data.size<=1099511627776) (c:Nat) (S1:ByteArray) (e1:Nat) (S:ByteArray) (e:Nat) (h1:numR data 0 1=(c,S1,e1)) (h2:numR S1 e1 4096=(0,S,e)) (he:e≠0) (aJ:S1.size<=data.size):
  Calls Tryz.prog 111 #[.string data] w λx w'=>Z6g w none x w':=by
 have H0:=h_ (Z0M data w)
 have H1:=h_ (λW (h:RV W w.heap.size data 0)=>by
  have:=Z0h h hd 1;rw[h1] at this;exact this)
 have zt:S.size<=S1.size:=by
  have:=Z1W (s:=S1) (e:=e1) (most:=4096);rw[h2] at this;exact this
 have H2:=h_ (λW (h:RV W w.heap.size S1 e1)=>by
  have:=Z0h h (Nat.le_trans aJ hd) 4096;rw[h2] at this;exact this)
 have H3:=h_ (λW (h:RV W w.heap.size S e)=>by
  have:=Z0P h (by omega) (data.size:Int);rw[Z1A he] at this;exact this)
 have ay:((e:Int) !=0)=true:=(by rw[bne_iff_ne];omega);clear h1 h2 he zt aJ hd;go_enter Tryz.func111,Tryz.ntmps111;go_wp2_with fail;refine(H0.o).mono ?_;rintro x w1 ⟨rfl,cA,a7⟩;go_wp2_with fail;refine(H1.o _ cA).mono ?_;rintro x w2 ⟨rfl,bQ,ah⟩;have a8:=Z0b a7 (Nat.le_refl _) ah;clear cA a7 ah;go_wp2_with fail;refine(H2.o _ bQ).mono ?_;rintro x w3 ⟨rfl,eJ,aL⟩;have ae:=Z0b a8 (Nat.le_refl _) aL;have lu:=h_ eJ;clear bQ a8 aL eJ H0 H1 H2;go_wp2;go_loopw [7,23] (λv7 i wr=>v7=.slice none 0 0/\i=.int .i64 0/\wr=w3) (λ_ i _=>0);case atStart=>exact⟨rfl,rfl,rfl⟩
 case round=>
  obtain⟨rfl,rfl,rfl⟩:=hrel;go_wp2_with fail;refine(H3.o _ lu.o).mono ?_;rintro x w4 ⟨rfl,gA,aG⟩;have H4:=h_ (Z0a gA);have aw:=Z0b ae (Nat.le_refl _) aG;clear gA aG ae;go_wp2_with fail;refine(H4.o).mono ?_;rintro x w5 ⟨rfl,rfl⟩;go_wp2;go_returns;exact Z2P aw
theorem Z20 (sk:List UInt8) (most:Nat):∃t S e,Z0S (bs sk) 0 (most:Int)=(t,S,e)/\((e=0/\∃a u,Z0H sk most=some (a,u)/\t=bs a/\S=bs u/\u.length<=sk.length/\a.length<=sk.length/\a.length<=most)\/(e≠0/\Z0H sk most=none)):=by
 match h:Z0H sk most with
 |none=>
  obtain⟨e,h1,h2⟩:=Z95 h;exact⟨_,_,e,h2,.inr ⟨h1,rfl⟩⟩
 |some (a,u)=>
  obtain⟨h1,h2,h3,h4⟩:=Z4F h;exact⟨_,_,0,h1,.inl ⟨rfl,a,u,rfl,rfl,rfl,h3,h2,h4⟩⟩
theorem Zj5 (l:List ByteArray) (s:ByteArray):svs (l++[s])=svs l++[.string s]:=by simp[svs,sv]
theorem Zg0 {w w':World} {A:Option Addr} {l:List Int} {b e:Nat} {s s':ByteArray} (ha:At w A (ivs l)) (h:RV w b s e) (h':RV w' b s' e) (hf:Fr (only b) w w'):At w' A (ivs l):=by
 intro i hi;obtain⟨b',o,hA,hb,hc⟩:=ha i hi;refine⟨b',o,hA,Nat.lt_of_lt_of_le hb hf.size,?_⟩;by_cases e1:b'=b
 ·subst e1;have h1:=Bk.cell h (o+i);have h2:=Bk.cell h' (o+i);rw[h2];rw[hc] at h1;rw[h1];have hv:(ivs l)[i]=.int .i64 (l[i]'(by simpa [ivs] using hi)):=(by simp[ivs,iv]);rw[hv] at h1;match o+i,h1 with
  |0,h1=>simp at h1
  |1,h1=>rfl
  |k+2,h1=>simp at h1
 ·exact(hf.cell (p:=⟨b',_,none⟩) hb (λe2=>e1 e2)).trans hc
theorem Zg1 {w:World} (data:ByteArray) (hd:data.size<=1000000000) (c n:Nat) (s1 s2:List UInt8) (h1:rnum (toL data) 1=some (c,s1)) (h2:rnum s1 4096=some (n,s2)):
  Calls Tryz.prog 111 #[.string data] w λx w'=>Z6g w (Z1J (toL data)) x w':=by
 have jo:Z1J (toL data)=match Z18 n s2 with
   |none=>none
   |some (ws,s3)=>
    match Z0H s3 data.size with
    |none=>none
    |some (a,s4)=>fin c ws (decn a 4096) (decn s4 4096):=by
  unfold Z1J;rw[h1];simp only;rw[h2];rfl
 have gl:=h_ jo;obtain⟨n1,bY,cj⟩:=Z0l h1;obtain⟨n2,bu,cZ⟩:=Z0l h2;have LX:numR data 0 1=(c,bs s1,0):=n1;have LY:numR (bs s1) 0 4096=(n,bs s2,0):=n2;rw[Z01] at cj;have H0:=h_ (Z0M data w)
 have H1:=h_ (λW (h:RV W w.heap.size data 0)=>by
  have:=Z0h h (by omega) 1;rw[LX] at this;exact this)
 have H2:=h_ (λW (h:RV W w.heap.size (bs s1) 0)=>by
  have:=Z0h h (by rw[Z00];omega) 4096;rw[LY] at this;exact this)
 obtain⟨i0,hi,dp,bM,eu⟩:=info_parts Z1x;have lL:=h_ (And.intro hi (And.intro dp (And.intro bM eu)));have hl:s2.length<=data.size:=(by omega);clear h1 h2 jo n1 n2 LX LY cj cZ hi dp bM eu;go_enter Tryz.func111,Tryz.ntmps111;go_wp2_with fail;refine(H0.o).mono ?_;rintro x w1 ⟨rfl,cA,a7⟩;go_wp2_with fail;refine(H1.o _ cA).mono ?_;rintro x w2 ⟨rfl,bQ,ah⟩;have a8:=Z0b a7 (Nat.le_refl _) ah;clear cA a7 ah;go_wp2_with fail;refine(H2.o _ bQ).mono ?_;rintro x w3 ⟨rfl,eJ,aL⟩;have ae:=Z0b a8 (Nat.le_refl _) aL;clear bQ a8 aL H0 H1 H2;go_wp2;go_loopw [7,23] (λv7 i wr=>∃(ws:List ByteArray) (sk:List UInt8),ws.length<=n/\i=.int .i64 (ws.length:Nat)/\wr.ownsRow w.heap.size 9 1 v7 ws.length (svs ws)/\RV wr w.heap.size (bs sk) 0/\sk.length<=data.size/\Hid (Z18 n s2=(Z18 (n-ws.length) sk).map (λx=>(ws++x.1,x.2)))/\Below w.heap.size w wr) (λ_ i _=>(n-intOf i).toNat);case atStart=>exact⟨[],s2,by simp,rfl,Z0p,eJ,hl,h_ (by simp),ae⟩
 case round=>
  clear eJ ae;obtain⟨ws,sk,hk,rfl,aa,gV,qK,uI,hf⟩:=hrel;obtain⟨A5,bk,oU,_⟩:=Z0q aa;subst oU;have cg:=h_ aa;have LZ:=h_ gV;by_cases ab:ws.length<n
  ·obtain⟨t,S,e,gG,bx⟩:=Z20 sk 128;have H3:=h_ (Z0P gV (by rw[Z00];omega) 128);have zu:Z0S (bs sk) 0 128=(t,S,e):=gG;rw[zu] at H3;have mU:n-ws.length=(n-(ws.length+1))+1:=(by omega);have da:=h_ bx;have xq:=h_ uI.o;rw[mU] at xq;have Hf:=h_ hf;have rK:=h_ qK;clear bx gG zu uI aa gV hf mU qK;go_wp2_with fail;refine(H3.o).mono ?_;rintro x w4 ⟨rfl,gA,aG⟩;have zv:=Z0v cg.o aG (λg hg (e:g=w.heap.size)=>Z02 cg.o LZ.o (by decide) (e▸hg));have aw:=Z0b Hf.o (Nat.le_refl _) aG;have lM:=h_ gA;have uT:=h_ zv;have bo:=h_ aw;have bw:=aw.size;have dy:ws.length+1<=maxLen:=(by unfold maxLen;omega);have ep:(ws.length+1)*16<=140737488355328:=(by omega);clear gA zv aw aG;obtain⟨hi,dp,bM,eu⟩:=lL.o
   go_wp2_with (
    at_builtin;refine wpList_append_own_at _ rfl (.tmp 25) (.tmp 28) _ rfl w.heap.size 9 i0 (.string ByteArray.empty) 1 16 Tryz.underlying64 hi dp bM eu rfl (by omega) (.slice A5 ws.length bk) ws.length (svs ws) (by rfl) (uT.o.alloc _) ⟨_,0,none⟩ 1 1 [.string t] (by rfl) rfl (Z2D _ _ _) (by simp[Value.oneCell']) dy ep (Nat.le_trans bw (by simp)) ?_;intro v' w5 ai df _ cI;have aE:=h_ ai;have gi:=h_ df;clear ai df cI)
   have xx:RV w5 w.heap.size S e:=Bk.grown (Bk.alloc lM.o (.cells #[.string t] 9)) gi.o (λe=>Z02 uT.o lM.o (by decide) e.symm);have qN:Below w.heap.size w w5:=(bo.o.alloc bw (.cells #[.string t] 9)).grown gi.o (Nat.le_trans bw (by simp)) (λj hj=>(uT.o.lt j hj).1)
   have M0:w5.ownsRow w.heap.size 9 1 v' (ws++[t]).length (svs (ws++[t])):=by
    have:=aE.o;rw[List.length_append,Zj5];exact this
   have H4:=h_ (Z0a xx);have rL:=h_ xx;have rM:=h_ qN;have QN:=h_ M0;clear xx qN M0 aE gi uT lM bo dy ep bw hi dp bM eu;go_wp2_with fail;refine(H4.o).mono ?_;rintro x w6 ⟨rfl,rfl⟩;rcases da.o with ⟨he,a,u,pw,rfl,rfl,oZ,_⟩|⟨he,pw⟩
   ·subst he;have hm:=xq.o;rw[Z96 pw] at hm
    have Hm:Hid (Z18 n s2=(Z18 (n-(ws++[bs a]).length) u).map (λx=>(ws++[bs a]++x.1,x.2))):=h_ (by
     rw[hm,List.length_append,Option.map_map];simp[Function.comp_def])
    have hlen:(ws++[bs a]).length=ws.length+1:=(by simp);clear hm pw;go_wp2;go_roundw;case rel=>exact⟨ws++[bs a],u,by omega,by rw[hlen];go_num,QN.o,rL.o,Nat.le_trans oZ rK.o,Hm,rM.o⟩
    case measure=>simp[intOf]<;>omega
   ·have hm:=xq.o;rw[Z97 pw] at hm
    have hr:Z1J (toL data)=none:=by
     rw[gl.o,hm];rfl
    have Hr:=h_ hr;have ay:((e:Int) !=0)=true:=(by rw[bne_iff_ne];omega);clear hm pw hr he;go_wp2;go_returns;rw[Hr.o];exact Z2P rM.o
  ·have cE:n-ws.length=0:=(by omega);have rN:=uI.o;rw[cE,Z18] at rN;simp only[Option.map_some,List.append_nil] at rN;have cB:=gl.o;rw[rN] at cB;simp only at cB;have ll:=h_ cB;obtain⟨t,S,e,gG,bx⟩:=Z20 sk data.size;have H3:=h_ (Z0P gV (by rw[Z00];omega) (data.size:Int));rw[gG] at H3;have da:=h_ bx;have Hf:=h_ hf;have QO:ws.length=n:=(by omega);clear bx gG uI gV hf cE rN cB gl aa;go_wp2_with fail;refine(H3.o).mono ?_;rintro x w4 ⟨rfl,gA,aG⟩;have zv:=Z0v cg.o aG (λg hg (e:g=w.heap.size)=>Z02 cg.o LZ.o (by decide) (e▸hg));have aw:=Z0b Hf.o (Nat.le_refl _) aG;have H4:=h_ (Z0a gA);have lM:=h_ gA;have bo:=h_ aw;have uT:=h_ zv;clear gA zv aw aG H3 cg Hf;go_wp2_with fail;refine(H4.o).mono ?_;rintro x w6 ⟨rfl,rfl⟩;clear H4;rcases da.o with ⟨he,a,u,pw,rfl,rfl,oZ,jY,Us⟩|⟨he,pw⟩
   ·subst he;have cB:=ll.o;rw[pw] at cB;simp only at cB;have zw:=h_ (λW=>Z0Q (w:=W) a (by omega) 4096);have px:=h_ (λW=>Z0Q (w:=W) u (by omega) 4096);obtain⟨g1,k1⟩:=Z2w a 4096;obtain⟨g2,k2⟩:=Z2w u 4096;have HL:=h_ (λW (h:RV W w.heap.size (bs u) 0)=>Z0r h (by rw[Z00];omega))
    have HT:=h_ (λW (h:RV W w.heap.size (bs u) 0)=>by
     have:=Z0s h (by rw[Z00];omega) ((bs u).size:Int);rw[Z49] at this;exact this)
    generalize decn a 4096=DA at*;generalize decn u 4096=DB at*;obtain⟨LA,ea⟩:=DA;obtain⟨LB,eb⟩:=DB;simp only at g1 k1 g2 k2;have fC:=h_ cB;have G2:=h_ g2;clear cB pw da ll oZ g1 g2;generalize bs a=SA at*;generalize bs u=SU at*;go_wp2_with fail;refine(zw.o _).mono ?_;rintro x w7 ⟨v7,rfl,⟨A7,c7,rfl,zx⟩,fx⟩;have uU:=Bk.lt lM.o;have Dg:RV w7 w.heap.size SU 0:=Bk.below lM.o fx uU;have zy:=bo.o.trans (fx.mono bo.o.size);have M4:=Z0v uT.o (Fr.of_below (S:=nob) fx) (λg hg h=>h);have M7:=h_ (HL.o _ Dg);have Ma:=h_ (HT.o _ Dg);have zz:=h_ zx;have Gh:=h_ M4;have zA:=h_ zy;have Gi:=h_ Dg;clear HL HT Dg zx M4 zy fx uU uT lM bo zw;go_wp2_with fail;refine(M7.o).mono ?_;rintro x w8 ⟨rfl,rfl⟩;go_wp2_with fail;refine(Ma.o).mono ?_;rintro x w8 ⟨rfl,Mb,rO⟩;have zB:=Z0b zA.o (Nat.le_refl _) rO;have py:=Zg0 zz.o Gi.o Mb rO;have zC:=Z0v Gh.o rO (λg hg (e:g=w.heap.size)=>Z02 Gh.o Gi.o (by decide) (e▸hg));have zD:=h_ py;have Mc:=h_ zC;have uV:=h_ zB;clear Mb rO py zC zB M7 Ma zz Gh zA Gi;go_wp2_with fail;refine(px.o _).mono ?_;rintro x w9 ⟨v9,rfl,⟨B9,c9,rfl,fg⟩,bP⟩;simp only at fg;have pn:=zD.o.below bP;have zE:=Z0v Mc.o (Fr.of_below (S:=nob) bP) (λg hg h=>h);have zF:=uV.o.trans (bP.mono uV.o.size);obtain⟨AW,cW,QP,pz⟩:=Z0q zE;injection QP with aW bj dX;subst aW;subst dX;have uW:=h_ pn;have zG:=h_ fg;have zH:=h_ pz;have n7:=h_ zF;clear pn fg pz zF zE bP zD Mc uV px bj;have bq:=fC.o;unfold fin at bq;simp only at bq;by_cases c1:ea≠0\/eb≠0\/LA.length≠LB.length
    ·rw[if_pos c1] at bq;have Hr:=h_ bq
     have q1:((ea:Int) !=0)=true\/(((ea:Int) !=0)=false/\((eb:Int) !=0)=true)\/(((ea:Int) !=0)=false/\((eb:Int) !=0)=false/\((LA.length:Int) !=(LB.length:Int))=true):=by
      by_cases d1:ea=0
      ·by_cases d2:eb=0
       ·right;right;refine⟨by rw[d1];rfl,by rw[d2];rfl,by rw[bne_iff_ne];omega⟩
       ·right;left;refine⟨by rw[d1];rfl,by rw[bne_iff_ne];omega⟩
      ·left;rw[bne_iff_ne];omega
     clear c1 bq;rcases q1 with q1|⟨q1,q2⟩|⟨q1,q2,q3⟩
     all_goals
      go_wp2;go_returns;rw[Hr.o];exact Z2P n7.o
    ·rw[if_neg c1] at bq;have d1:ea=0:=(by omega);have d2:eb=0:=(by omega);have d3:LA.length=LB.length:=(by omega);subst d1;subst d2;have q3:((LA.length:Int) !=(LB.length:Int))=false:=(by rw[bne_eq_false_iff_eq];omega);have q1:(((0:Nat):Int) !=0)=false:=rfl;have HU:=h_ (Z8O uW.o LA.length c7 rfl (by omega))
     have xy:(Z0K LA).2=0->(Z0K LA).1.length=LA.length:=by
      unfold Z0K;split
      ·intro _;simp[Z1S]
      ·rename_i h;intro h2;exact absurd h2 h
     have cq:=h_ bq;have D3:=h_ d3;clear c1 bq d3 k2;have pt:c=1\/c≠1:=(by omega);go_upto_if 68 with fail
     go_cut [9] (λs9 wx=>∃(I:List Int) (A9:Option Addr) (iw:Nat),s9=.slice A9 LA.length iw/\I.length=LA.length/\At wx A9 (ivs I)/\Below w9.heap.size w9 wx/\
      Hid (Z1J (toL data)=if ∃v∈LB,4096<=v then none else if(Z0D ws (I.zip (LB.map (· +1))) []).2=0 then some (Z0D ws (I.zip (LB.map (· +1))) []).1 else none))
     case first=>
      rcases pt with h1|h1
      ·have g0:((c:Int)==1)=true:=(by rw[beq_iff_eq];omega);have ah:=cq.o;simp only[h1,if_true,true_and] at ah;clear h1 cq bY;obtain⟨U,Md⟩:∃U,Z0K LA=U:=⟨_,rfl⟩;rw[Md] at HU xy ah;clear Md;obtain⟨UL,ue⟩:=U;simp only at xy ah;have bW:=h_ ah;have Gj:=h_ xy;clear ah xy;go_wp2_with fail;refine(HU.o).mono ?_;rintro x na ⟨v10,rfl,⟨QQ,QR,rfl,pA⟩,ja⟩;simp only at pA;have zI:=h_ pA;clear pA HU;simp only[List.length_map];by_cases Gk:ue=0
       ·subst Gk;have hl:=Gj.o rfl;have aL:=bW.o;simp only[ne_eq,not_true,if_false] at aL;have gz:=h_ aL;rw[hl];clear aL bW Gj;go_wp2;go_meet;case rel=>exact⟨UL.map Int.ofNat,QQ,QR,rfl,by rw[List.length_map,hl],zI.o,ja,gz⟩
       ·have aL:=bW.o;rw[if_pos Gk] at aL;have Hr:=h_ aL;have aQ:=n7.o.trans (ja.mono n7.o.size);have q5:((ue:Int) !=0)=true:=(by rw[bne_iff_ne];omega);clear aL bW Gj Gk;go_wp2;go_returns;rw[Hr.o];exact Z2P aQ
      ·have g0:((c:Int)==1)=false:=(by rw[beq_eq_false_iff_ne];omega);have ah:=cq.o;simp only[h1,if_false,false_and] at ah;have bW:=h_ ah;clear h1 cq bY xy HU ah;go_wp2;go_meet;case rel=>exact⟨LA,A7,c7,rfl,rfl,uW.o,Below.refl _ _,bW⟩
     case rest=>
      clear HU xy cq;obtain⟨I,A9,iw,rfl,Me,nf,zJ,th⟩:=hcut;obtain⟨Z,hZ⟩:∃Z,I.zip (LB.map (· +1))=Z:=⟨_,rfl⟩;have Gl:Z.length=LA.length:=(by rw[<-hZ,List.length_zip,List.length_map,<-D3.out,Me,Nat.min_self]);have pB:=th.o;rw[hZ] at pB;have uX:=h_ pB;have HZ:=h_ hZ;have bE:=Zj4 (P:=Tryz.prog) 131 134 Tryz.underlying131 Zkr (LA.length:Int) LA.length rfl k1 wc;have pC:=h_ (zG.o.below zJ);have pD:=h_ (zH.o.below zJ);have uY:=h_ nf;have pE:=h_ (n7.o.trans (zJ.mono n7.o.size));clear th pB hZ nf zJ zG zH uW n7;go_wp2;go_loopw [14,81] (λ_ i wr=>∃k:Nat,k<=LA.length/\i=.int .i64 k/\Bk wr wc.heap.size 134 (pcs (Z.take k++List.replicate (LA.length-k) (0,0)))/\Hid (∀v∈LB.take k,v<4096)/\Below wc.heap.size wc wr) (λ_ i _=>(LA.length-intOf i).toNat);case atStart=>exact⟨0,by omega,rfl,Bk.new _ _ _,h_ (by simp),(Below.refl _ _).alloc (Nat.le_refl _) _⟩
      case round=>
       obtain⟨k,hk,rfl,aC,ar,hf⟩:=hrel;by_cases ab:k<LA.length
       ·have Mf:k<LB.length:=(by rw[<-D3.out];exact ab);have zK:k<I.length:=(by rw[Me];exact ab);have QS:k<Z.length:=(by rw[Gl];exact ab);obtain⟨v,hv⟩:∃v,LB[k]=v:=⟨_,rfl⟩;obtain⟨y,hy⟩:∃y,I[k]=y:=⟨_,rfl⟩
        have Dh:Z[k]=(y,v+1):=by
         simp only[<-HZ.o,List.getElem_zip,List.getElem_map,hy,hv]
        have ml:=G2.out v (hv▸List.getElem_mem _);have uZ:=pC.o.below hf;have nf:=uY.o.below hf;obtain⟨bB,oB,hB,KZ,Ut⟩:=uZ.get k (.int .i64 v) (by rw[<-hv];simp[ivs,iv,Mf]);obtain⟨bI,oI,hI,zJ,Uu⟩:=nf.get k (.int .i64 y) (by rw[<-hy];simp[ivs,iv,zK]);subst hB;subst hI;by_cases eQ:(4096:Int)<=v
        ·have hr:=uX.o;rw[if_pos ⟨v,hv▸List.getElem_mem _,eQ⟩] at hr;have Hr:=h_ hr;have aQ:=pE.o.trans (hf.mono pE.o.size);clear hr uX hv hy Dh uZ nf aC bE;go_wp2;go_returns;rw[Hr.o];exact Z2P aQ
        ·have hlen:(Z.take k).length=k:=(by rw[List.length_take];omega);have rP:=Zj3 (Z.take k) LA.length (y,v+1) (0,0) (by omega);rw[hlen,<-Dh,<-List.take_succ_eq_append_getElem QS] at rP;have yR:(Z.take k++List.replicate (LA.length-k) ((0,0):Int×Int)).length=LA.length:=(by rw[List.length_append,hlen,List.length_replicate];omega);obtain⟨W,hW⟩:∃W,Z.take k++List.replicate (LA.length-k) ((0,0):Int×Int)=W:=⟨_,rfl⟩;rw[hW] at rP yR aC;obtain⟨Mg,Mh⟩:=ZlV W k (by omega);obtain⟨m0,bN⟩:∃m:Int,wr.cell? ⟨wc.heap.size,k*2,none⟩=some (.int .i64 m):=⟨_,(aC.cell _).trans Mg⟩;obtain⟨m1,bY⟩:∃m:Int,wr.cell? ⟨wc.heap.size,k*2+1,none⟩=some (.int .i64 m):=⟨_,(aC.cell _).trans Mh⟩;have QT:=aC.frozen (k*2);have QU:=aC.frozen (k*2+1);have aj:=(aC.put (k*2) (.int .i64 y)).put (k*2+1) (.int .i64 (v+1));have oo:=ZlU W k (y,v+1) (by omega);simp only at oo;rw[oo,<-Dh,rP] at aj;have av:=h_ aj
         have cV:Hid (∀u∈LB.take (k+1),u<4096):=h_ (by
          intro u hu;rw[List.take_succ_eq_append_getElem Mf,hv] at hu;rcases List.mem_append.1 hu with h|h
          ·exact ar.o u h
          ·rw[List.mem_singleton] at h;omega)
         have i2:IntKind.i64.wrap (v+1)=v+1:=(by rw[IntWalk.i64_in _ (by omega)]);have ef:(0:Int)<=(k:Int):=(by omega);have mY:(k:Int)<(LA.length:Int):=(by omega);have QV:(k:Int)<(LB.length:Int):=(by omega);have Hf:=h_ hf;clear aj oo rP ar uZ nf aC bE hv hy Dh Mg Mh hW yR hlen uX HZ pC pD uY G2 hf;go_upto_region 28 with fail;go_region;go_wp2;go_roundw;case rel=>exact⟨k+1,by omega,by go_num,av.o,cV,((Hf.o.setCell (p:=⟨wc.heap.size,k*2,none⟩) (Nat.le_refl _) _).setCell (p:=⟨wc.heap.size,k*2+1,none⟩) (Nat.le_refl _) _).drew⟩
         case measure=>simp[intOf]<;>omega
       ·have ef:k=LA.length:=(by omega);subst ef;rw[Nat.sub_self,List.replicate_zero,List.append_nil,<-Gl,List.take_length] at aC
        have cV:¬∃v∈LB,(4096:Int)<=v:=by
         rintro⟨v,hv,h4⟩;have:=ar.o v (by rw[D3.out,List.take_length];exact hv);omega
        have hr:=uX.o;rw[if_neg cV] at hr;have zL:At wr (some ⟨wc.heap.size,0,none⟩) (pv Z):=aC.at_;have pz:=pD.o.below hf;have aQ:=pE.o.trans (hf.mono pE.o.size);have HE:=h_ (ZcK pz zL n bk LA.length LA.length QO.symm Gl.symm (by omega) (by omega));obtain⟨⟨X,xe⟩,hX⟩:∃x,Z0D ws Z []=x:=⟨_,rfl⟩;rw[hX] at hr HE;simp only at hr;have Hr:=h_ hr;have rQ:=h_ aQ;clear hX hr aQ zL pz cV ar aC bE hf uX HZ pC pD uY pE;go_wp2_with fail;refine(HE.o).mono ?_;rintro x Mi ⟨v11,rfl,rR,jN⟩;simp only at rR;have aQ:=rQ.o.trans (jN.mono rQ.o.size);by_cases kJ:xe=0
        ·subst kJ;have fp:Hid (Z1J (toL data)=some X):=h_ (by rw[Hr.o,if_pos rfl]);have Hs:=h_ rR;clear Hr rR jN;go_wp2;go_returns;rw[fp.o];exact⟨v11,rfl,(λl h=>by injection h with h;subst h;exact Hs.o),aQ⟩
        ·have fp:Hid (Z1J (toL data)=none):=h_ (by rw[Hr.o,if_neg kJ]);have q9:((xe:Int)==0)=false:=(by rw[beq_eq_false_iff_ne];omega);clear Hr rR jN kJ;go_wp2;go_returns;rw[fp.o];exact Z2P aQ
   ·have hr:Z1J (toL data)=none:=by
     rw[ll.o,pw]
    have Hr:=h_ hr;have ay:((e:Int) !=0)=true:=(by rw[bne_iff_ne];omega);clear pw hr he ll da;go_wp2;go_returns;rw[Hr.o];exact Z2P bo.o
end Go.Proofs.YtchokmkfobandaaGreatDoor
