import Derived.Test.YtchokmkfobandaaGreatDoorJ31
import Derived.Test.YtchokmkfobandaaGreatDoorJ21
set_option linter.unusedVariables false
set_option linter.unusedSimpArgs false
set_option maxRecDepth 100000
set_option maxHeartbeats 8000000
namespace Go.Proofs.YtchokmkfobandaaGreatDoor
open Go.RowKit Go.Proofs Wv Wv.Vi Wv.Rc Wv.Mo Wv.Ru Wv.Bc
instance:LawfulBEq ByteArray where
 rfl:=(MapKept.bytes_beq _ _).2 rfl
 eq_of_beq h:=(MapKept.bytes_beq _ _).1 h
def cM (ds:List ByteArray):Value->Option Value
 |.string d=>if ds.count d=0 then none else some (.int .i64 (ds.count d:Int))
 |_=>none
theorem Zmi (ds:List ByteArray) (d:ByteArray):cM (ds++[d]) (.string d)=some (.int .i64 ((ds.count d:Int)+1)):=by
 have h:(ds++[d]).count d=ds.count d+1:=(by rw[List.count_append,List.count_singleton_self]);show(if(ds++[d]).count d=0 then none else some (Value.int .i64 ((ds++[d]).count d:Int)))=_;rw[h,if_neg (by omega)];rfl
theorem ZjD (ds:List ByteArray) (d:ByteArray) (x:Value) (hx:x≠.string d):cM (ds++[d]) x=cM ds x:=by
 cases x with
 |string y=>
  have hy:d≠y:=λe=>hx (by rw[e])
  have h:(ds++[d]).count y=ds.count y:=by
   rw[List.count_append,List.count_singleton,if_neg (by simpa using hy)];rfl
  show(if(ds++[d]).count y=0 then none else some (Value.int .i64 ((ds++[d]).count y:Int)))=_;rw[h];rfl
 |_=>rfl
abbrev MC (w:World) (b:Nat) (ds:List ByteArray):Prop:=MpV .string w b (cM ds)
theorem Zo4 (w:World):MC (w.alloc (.map #[] 0)) w.heap.size []:=by
 obtain⟨es,c,h1,h2,h3⟩:=MpV.new .string w;refine⟨es,c,h1,h2,λk hk=>(h3 k hk).trans ?_⟩;cases k<;>rfl
theorem Z81 {w:World} {b:Nat} {ds:List ByteArray} (h:MC w b ds) (d:ByteArray):(Instr.lookup 166 (.map (some b)) (.string d) false).run Tryz.prog w=.ok (.int .i64 (ds.count d:Int)) w:=by
 by_cases h0:ds.count d=0
 ·rw[h0];exact(MpV.miss Tryz.underlying166 Tryz.underlying9 h (.string d) (.int .i64 0) trivial (by show(if ds.count d=0 then none else _)=none;rw[if_pos h0]) (Zfw w)).1
 ·exact(MpV.get Tryz.underlying166 Tryz.underlying9 h (.string d) _ trivial (by show(if ds.count d=0 then none else _)=some _;rw[if_neg h0])).1
theorem ZkF {w:World} {b:Nat} {ds:List ByteArray} (h:MC w b ds) (d:ByteArray):∃w',(Instr.mapUpdate 166 (.map (some b)) (.string d) (.int .i64 ((ds.count d:Int)+1))).run Tryz.prog w=.ok () w'/\MC w' b (ds++[d])/\Fr (λj=>j=b) w w'/\w'.heap.size=w.heap.size:=by
 obtain⟨w',h1,h2,h3,h4⟩:=MpV.put Tryz.underlying166 Tryz.underlying9 h (.string d) (.int .i64 ((ds.count d:Int)+1)) trivial;exact⟨w',h1,h2 _ (Zmi ds d) (ZjD ds d),h3,h4⟩
theorem ZjE (l:List ByteArray) (k:Nat):(difP l k).length<=k:=by
 unfold difP;have:=List.length_filterMap_le (dAt l) (List.range k)
 rwa [List.length_range] at this
theorem Zmj (a b:ByteArray) (ha:a.size<=1099511627776) (hb:b.size<=1099511627776) (W:World):
  Calls Tryz.prog 210 #[.string a,.string b] W λx w'=>x=.returned (.tuple #[.string (bs (difV (toL a) (toL b)).1),.bool (difV (toL a) (toL b)).2])/\Below W.heap.size W w':=by
 have:=ZiA (toL a) (toL b) (by rw[Z01];exact ha) (by rw[Z01];exact hb) W;rw[Z09,Z09] at this;exact this
theorem Z1j (a:List ByteArray) (x:ByteArray):svs (a++[x])=svs a++[.string x]:=by simp[svs,sv]
theorem ZgL {α β:Type} (f:β->α->β) (p:β) (l:List α) (j:Nat) (h:j<l.length):(l.take (j+1)).foldl f p=f ((l.take j).foldl f p) l[j]:=by
 rw[List.take_succ_eq_append_getElem h,List.foldl_append];rfl
theorem Zaz (l:List ByteArray) (k:Nat):(difP l k).count (bs [])=0:=by
 rw[List.count_eq_zero];intro h;have:=ZeZ _ h;have h2:=(Z1o.1 this).2.1;exact h2 rfl
theorem Z4r {w w':World} {G n:Nat} {e:TypeId} {v:Value} {xs:List Value} (h:w.ownsRow (G+1) e 1 v n xs) (hf:Fr (λj=>j=G) w w'):w'.ownsRow (G+1) e 1 v n xs:=
 Z0v h hf (λg hg e=>by have:=(h.lt g hg).1;omega)
theorem ZaA {a w w':World} {G:Nat} (h:Below a.heap.size a w) (hG:a.heap.size<=G) (hf:Fr (λj=>j=G) w w'):Below a.heap.size a w':=
 h.trans (hf.toBelow' h.size (λj hj e=>by omega))
theorem ZjF {w:World} {A:Option Addr} {l:List ByteArray} (ha:At w A (svs l)) (ad:∀s∈l,s.size<=1099511627776) (n cap:Nat) (hn:n=l.length) (hm:n<=9223372036854775807):
  Calls Tryz.prog 167 #[.slice A n cap] w λx w'=>x=.returned (.string (Z0x l))/\Below w.heap.size w w':=by
 have he:bs ([]:List UInt8)=⟨#[]⟩:=rfl;rcases Nat.eq_zero_or_pos n with h0|bR
 ·subst h0;have hl:l=[]:=List.eq_nil_of_length_eq_zero hn.symm;have hs:Z0x l=⟨#[]⟩:=(by unfold Z0x;rw[if_pos (.inl hl)];rfl);rw[hs];clear ha ad hn hl hs he;go_enter Tryz.func167,Tryz.ntmps167;go_wp2;go_returns;exact⟨rfl,Below.refl _ _⟩
 ·have gk:0<l.length:=(by omega);obtain⟨b0,o0,hA,aA,bN⟩:=Z1c ha 0 gk;have dO:l.getD 0 default=l[0]:=getD_at gk;have HV:=h_ (Z4I ha ad n cap hn hm ((l.getD 0 default).size:Int));rw[dO] at HV;subst hA;have Ic:w.cell? ⟨b0,o0,none⟩=some (.string l[0]):=bN;have nP:l≠[]:=λe=>(by rw[e] at gk;exact absurd gk (Nat.lt_irrefl _));cases hv:Z0z (l[0].size:Int) l with
  |false=>
   have hs:Z0x l=⟨#[]⟩:=(by unfold Z0x;rw[dO,if_pos (.inr hv)];rfl);rw[hs];rw[hv] at HV;have KF:(0:Int)<(n:Int):=(by omega);have ay:((n:Int)==0)=false:=(by rw[beq_eq_false_iff_ne];omega);generalize l[0]=S0 at*;clear ha ad hn hs he hv dO bN nP gk;go_enter Tryz.func167,Tryz.ntmps167;go_wp2_with fail;refine(HV.o).mono ?_;rintro x w1 ⟨rfl,a7⟩;go_wp2;go_returns;exact⟨rfl,a7⟩
  |true=>
   have hs:Z0x l=stepOf (difs l):=(by unfold Z0x;rw[dO,if_neg (by rintro(h|h);exact nP h;rw[hv] at h;cases h)]);rw[hs];rw[hv] at HV;have fV:l.length<=4096:=(Z0A.1 hv).2.2.2;have ub:=λk=>ZjE l k;have fQ:=λk=>Z1k (difP l k);have Hd:=h_ (λ(v u:ByteArray) (hv:v∈l) (hu:u∈l) W2=>Zmj v u (ad v hv) (ad u hu) W2);have Ha:=h_ ha;have Hn:=h_ hn;have xm:n<=4096:=(by omega);have KF:(0:Int)<(n:Int):=(by omega);have ay:((n:Int)==0)=false:=(by rw[beq_eq_false_iff_ne];omega);have yk:=h_ ub;have Nf:=h_ fQ;generalize l[0]=S0 at*;clear ha ad hn hs he hv dO bN nP gk fV ub fQ;go_enter Tryz.func167,Tryz.ntmps167;go_wp2_with fail;refine(HV.o).mono ?_;rintro x w1 ⟨rfl,a7⟩;have gh:=Zo4 w1;have jO:=Zev 9 (w1.alloc (.map #[] 0));have vD:=gh.alloc (.cells #[] 9);have B4:=(a7.alloc a7.size (.map #[] 0)).alloc (by rw[World.size_alloc];have:=a7.size;omega) (.cells #[] 9);rw[World.size_alloc] at jO;have dA:=a7.size;obtain⟨G,hG⟩:∃G,w1.heap.size=G:=⟨_,rfl⟩;rw[hG] at jO vD dA;have Dx:=h_ jO;have xk:=h_ vD;have aI:=h_ B4;clear gh jO vD B4 a7 HV Ic;have jw:= @run_makeMap Tryz.prog;go_wp2;go_loopw [4,5] (λs4 s5 wr=>∃k:Nat,(k=0\/k+1<=n)/\s5=.int .i64 ((k:Int)+1)/\Hid (wr.ownsRow (G+1) 9 1 s4 (dict (difP l k)).length (svs (dict (difP l k))))/\Hid (MC wr G (difP l k))/\Hid (Below w.heap.size w wr)) (λ_ s5 _=>(n-intOf s5).toNat);case atStart=>exact⟨0,.inl rfl,rfl,Dx,xk,aI⟩
   case round=>
    clear Dx xk aI;obtain⟨k,hk,rfl,aa,tA,hb⟩:=hrel;obtain⟨A5,M5,bk,rfl⟩:=Z0c aa.o;by_cases ab:k+1<n
    ·have bz:k+1<l.length:=(by rw[<-Hn.o];exact ab);have lU:k<l.length:=(by omega);have cI:=Ha.o.below hb.o;obtain⟨b,o,eB,cl,hc⟩:=Z1c cI k lU;obtain⟨b2,o2,cF,_,dF⟩:=Z1c cI (k+1) bz;injection eB with eB;injection eB with h1 h2;subst h1;subst h2;injection cF with cF;injection cF with h1 h2;subst h1;subst h2;have cC:=h_ (Hd.o l[k] l[k+1] (List.getElem_mem _) (List.getElem_mem _));have nY:=ZeY l k;unfold dAt at nY;rw[getD_at lU,getD_at bz] at nY;have Ie:=yk.o k;have pX:=Nf.o k;obtain⟨S1,lQ⟩:∃S,l[k]=S:=⟨_,rfl⟩;obtain⟨S2,jZ⟩:∃S,l[k+1]=S:=⟨_,rfl⟩;rw[lQ] at hc cC nY;rw[jZ] at dF cC nY;obtain⟨⟨r,q⟩,hr⟩:∃r,difV (toL S1) (toL S2)=r:=⟨_,rfl⟩;rw[hr] at cC nY;simp only at cC nY;obtain⟨X,hX⟩:∃X,bs r=X:=⟨_,rfl⟩;rw[hX] at cC nY;have kQ:(dict (difP l k)).length+1<=4096:=(by omega);have dR:=h_ kQ;have Au:=h_ nY;have i1:IntKind.i64.wrap ((k:Int)+1-1)=(k:Int):=(by rw[IntWalk.i64_in _ (by omega)];omega);have ij:IntKind.i64.wrap (k:Int)=(k:Int):=(by rw[IntWalk.i64_in _ (by omega)]);have bU:(0:Int)<=(k:Int):=(by omega);have aP:(k:Int)<(n:Int):=(by omega);have cE:(k:Int)+1<(n:Int):=(by omega);have eD:(0:Int)<=(k:Int)+1:=(by omega);have e2:((k:Int)+1).toNat=k+1:=(by omega);have jC:=h_ hb.o.size;clear bz lU cI lQ jZ hr hX nY Ie pX kQ;go_upto_region 7 with fail;go_cut [6,7] (λs6 s7 wx=>s6=.string X/\s7=.bool q/\Hid (Below wr.heap.size wr wx))
     case first=>
      clear aa tA hb;go_region_with ((go_at_call 210;with_reducible refine(cC.o _).mono ?_;rintro r w9 ⟨rfl,bP⟩))
      all_goals
       go_wp2;go_meet;case rel=>exact⟨rfl,rfl,h_ (((Below.refl wr.heap.size wr).drew).trans bP)⟩
     case rest=>
      obtain⟨rfl,rfl,bP⟩:=hcut;have jr:=Z0v aa.o (Fr.of_below (S:=nob) bP.o) (λ_ _ f=>f);have kU:=tA.o.below bP.o tA.o.lt;have gH:=hb.o.trans (bP.o.mono jC.o);have pY:=h_ jr;have vE:=h_ kU;have If:=h_ gH;have UT:=Nat.le_trans jC.o bP.o.size;cases q with
      |false=>
       have gU:=h_ (show difP l (k+1)=difP l k by have:=Au.o;simpa using this);clear jr kU gH aa tA hb bP hc dF cC i1 ij e2;go_wp2;refine⟨⟨k+1,.inr ab,by go_num,by rw[gU.o];exact pY,by rw[gU.o];exact vE,If⟩,?_⟩;simp[intOf]<;>omega
      |true=>
       have gU:=h_ (show difP l (k+1)=difP l k++[X] by have:=Au.o;simpa using this);have cj:=Z81 kU X;by_cases aX:X∈difP l k
       ·have tu:0<(difP l k).count X:=List.count_pos_iff.2 aX
        have vF:=h_ (show dict (difP l k++[X])=dict (difP l k) by
         rw[Z1R];unfold ZdP;rw[if_pos ((Z1H _ _).2 aX)])
        obtain⟨w5,hu,DF,qN,nz⟩:=ZkF kU X;have eZ:=h_ (Z4r jr qN);have bO:=h_ (ZaA gH dA qN);have RI:=h_ DF;have ia:(difP l k).count X<=4096:=(by have:=List.count_le_length (a:=X) (l:=difP l k);have:=yk.o k;omega);generalize (difP l k).count X=c at*;have RJ:((c:Int)==0)=false:=(by rw[beq_eq_false_iff_ne];omega);clear jr kU gH aa tA hb bP hc dF cC i1 ij e2 aX DF qN nz pY vE If;go_wp2;refine⟨⟨k+1,.inr ab,by go_num,by rw[gU.o,vF.o];exact eZ,by rw[gU.o];exact RI,bO⟩,?_⟩;simp[intOf]<;>omega
       ·have bN:(difP l k).count X=0:=List.count_eq_zero.2 aX
        have vF:=h_ (show dict (difP l k++[X])=dict (difP l k)++[X] by
         rw[Z1R];unfold ZdP;rw[if_neg (λh=>aX ((Z1H _ _).1 h))])
        obtain⟨v',w6,ag,kV,dq,_⟩:=Z1X (P:=Tryz.prog) 64 9 _ _ Tryz.underlying64 Z1x rfl (w:=wc) (wb:=wc) jr (Below.refl _ wc) (by have:=kU.lt;omega) (.string X) rfl (by have:=dR.o;unfold maxLen;omega) (by have:=dR.o;omega);have Ig:=kU.below dq (Nat.lt_succ_self G);have RK:=Z81 Ig X;obtain⟨w7,hu,Ng,xi,RM⟩:=ZkF Ig X;have B5:=h_ (Z4r kV xi);have pR:=h_ (ZaA (gH.trans (dq.mono (Nat.le_succ_of_le dA))) dA xi);have RN:=h_ Ng;have ao:=h_ ag;rw[bN,show((0:Nat):Int)=0 from rfl] at cj RK hu;rw[show(0:Int)+1=1 from rfl] at hu;clear jr kU gH aa tA hb bP hc dF cC i1 ij e2 aX Ig Ng xi RM kV dq ag bN pY vE If
        go_wp2_with (
         at_builtin;refine Z04 (by with_reducible rfl) rfl _ _ _ rfl _ _ (by rfl) (by rfl) ao.o ?_)
        refine⟨⟨k+1,.inr ab,by go_num,?_,by rw[gU.o];exact RN,pR⟩,?_⟩
        ·rw[gU.o,vF.o,List.length_append,Z1j];exact B5
        ·simp[intOf]<;>omega
    ·have ef:n-1=k:=(by omega);have bK:¬(k:Int)+1<(n:Int):=(by omega);have xt:difs l=difP l k:=(by unfold difs;rw[<-Hn.o,ef]);obtain⟨A6,jc,tB,cu⟩:=Z0q aa.o;injection tB with h1 h2 h3;subst h1;subst h2;subst h3;have hz:=Zaz l k;have gT:=Nf.o k;have sj:=yk.o k;have aN:stepOf (difP l k)=((dict (difP l k)).foldl (Z1i (λd=>(difP l k).count d)) (bs [],0)).1:=(by unfold stepOf;rw[Zf0]);have sL:=λj=>Zin (λd=>(difP l k).count d) ((dict (difP l k)).take j) (bs [],0) hz.symm;have Nh:=λj (h:j<(dict (difP l k)).length)=>ZgL (Z1i (λd=>(difP l k).count d)) (bs [],0) (dict (difP l k)) j h;generalize hD:difP l k=D at*;have aR:=h_ ((congrArg stepOf xt).trans aN);have DC:=h_ sL;have Ni:=h_ Nh;have bd:=h_ cu;have Nj:=h_ tA.o;have RO:(dict D).length<=4096:=(by omega);have yd:=h_ (λx=>(show D.count x<=4096 by have:=List.count_le_length (a:=x) (l:=D);omega));obtain⟨K,hK⟩:∃K,(dict D).length=K:=⟨_,rfl⟩;rw[hK] at RO;have HK:=h_ hK;have Dp:((dict D).length:Int)=(K:Int):=(by rw[hK]);clear aa tA ef xt cu hz gT sj aN sL Nh hD hK Hd hk;go_wp2;go_loopw [8,59] (λs8 Ih wx=>∃j:Nat,j<=K/\Ih=.int .i64 (j:Int)/\s8=.string (((dict D).take j).foldl (Z1i (λd=>D.count d)) (bs [],0)).1/\wx=wr) (λ_ Ih _=>(K-intOf Ih).toNat);case atStart=>exact⟨0,Nat.zero_le _,rfl,rfl,rfl⟩
     case round=>
      obtain⟨j,hj,rfl,DG,rfl⟩:=hrel;by_cases fS:j<K
      ·have cK:j<(dict D).length:=(by rw[HK.o];exact fS);obtain⟨b9,o9,rfl,RP,B6⟩:=Z1c bd.o j cK;have h1:=DC.o j;have h2:=Ni.o j cK;obtain⟨x,hx⟩:∃x,(dict D)[j]=x:=⟨_,rfl⟩;rw[hx] at B6 h2;obtain⟨⟨p1,p2⟩,hp⟩:∃p,((dict D).take j).foldl (Z1i (λd=>D.count d)) (bs [],0)=p:=⟨_,rfl⟩;rw[hp] at h1 h2 DG;simp only at h1 DG;subst DG;have cj:=Z81 Nj.o x;have cZ:=Z81 Nj.o p1;have a8:Z1i (λd=>D.count d) (p1,p2) x=if p2<D.count x then(x,D.count x) else(p1,p2):=rfl
       rw[a8] at h2;have Hn:=h_ h2;rw[<-h1] at cZ;clear a8;have bY:=yd.o x;generalize D.count x=cx at*;have hU:(0:Int)<=(j:Int):=(by omega);have nK:(j:Int)<(K:Int):=(by omega);have sW:(j:Int)<((dict D).length:Int):=(by omega);have uU:(j:Int)<(K:Int):=nK;clear cK hx hp h1 h2 DC Ni;by_cases hg:p2<cx
       ·rw[if_pos hg] at Hn;have CE:(p2:Int)<(cx:Int):=(by omega);go_wp2;refine⟨⟨j+1,fS,by go_num,by rw[Hn.o],trivial⟩,?_⟩;simp[intOf]<;>omega
       ·rw[if_neg hg] at Hn;have CE:¬(p2:Int)<(cx:Int):=(by omega);go_wp2;refine⟨⟨j+1,fS,by go_num,by rw[Hn.o],trivial⟩,?_⟩;simp[intOf]<;>omega
      ·have B7:j=K:=(by omega);subst DG;have rF:=aR.o;rw[B7,List.take_of_length_le (by rw[HK.o];exact Nat.le_refl _)];go_wp2;go_returns;exact⟨by rw[rF];rfl,hb.o⟩
theorem ZjG {k:Nat} (h:k<4):Wv.Bit.num 2 k=[decide (2<=k),decide (k % 2=1)]:=by
 rcases(show k=0\/k=1\/k=2\/k=3 by omega) with rfl|rfl|rfl|rfl<;>decide
theorem ZjH (L:List Bool) {c:UInt8} (h:cd c<4):Wv.Bit.putm L ⟨0,2,(cd c:Int)⟩=if 65536<L.length+2 then(L,9) else(L++cbit c,0):=by
 have bG:(⟨0,2,(cd c:Int)⟩:Wv.Bit.Cd).ok=true:=by
  rcases(show cd c=0\/cd c=1\/cd c=2\/cd c=3 by omega) with h|h|h|h<;>rw[h]<;>decide
 have hb:(⟨0,2,(cd c:Int)⟩:Wv.Bit.Cd).bits=cbit c:=by
  have:(⟨0,2,(cd c:Int)⟩:Wv.Bit.Cd).bits=Wv.Bit.num 2 (cd c):=by
   rcases(show cd c=0\/cd c=1\/cd c=2\/cd c=3 by omega) with h|h|h|h<;>rw[h]<;>decide
  rw[this,ZjG h];rfl
 unfold Wv.Bit.putm;rw[if_pos bG,hb];rfl
theorem Z6V (l:List ByteArray) (j:Nat) (h:j<l.length):Z0G (l.take (j+1))=Z0G (l.take j)++Z2a (toL l[j]):=by
 unfold Z0G;rw[List.take_succ_eq_append_getElem h,List.flatMap_append];simp
theorem Zdi (v:List UInt8) (i:Nat) (h:i<v.length):Z2a (v.take (i+1))=Z2a (v.take i)++cbit v[i]:=by
 unfold Z2a;rw[List.take_succ_eq_append_getElem h,List.flatMap_append];simp
theorem ZjI (l:List ByteArray) (j i:Nat) (h:j<l.length) (hi:i<(toL l[j]).length):(Z0G (l.take j)++Z2a ((toL l[j]).take i)).length+2<=(Z0G l).length:=by
 have h1:Z0G l=Z0G (l.take (j+1))++Z0G (l.drop (j+1)):=by
  unfold Z0G;rw[<-List.flatMap_append,List.take_append_drop]
 rw[h1,Z6V l j h,List.length_append,List.length_append,List.length_append,Z3d,Z3d,List.length_take];omega
def BWr (w0 w:World) (b:Nat) (L:List Bool):Prop:=∃dv,Bio.WrAt w b dv L/\(∀g,dv.ownBlock=some g->w0.heap.size<=g)/\w0.heap.size<=b/\Below w0.heap.size w0 w
theorem ZjJ {w0 w : World} {b : Nat} {L : List Bool} (h : BWr w0 w b L) (hl : L.length <= 65536) {c : UInt8} (hc : cd c < 4) :
    Calls Tryz.prog 164 #[.pointer (some ⟨b,0,none⟩),.agg #[.int .i64 0,.int .i64 2,.int .i64 (cd c:Int)]] w λe w'=>e=.returned (.int .i64 (if 65536<L.length+2 then 9 else 0))/\BWr w0 w' b (if 65536<L.length+2 then L else L++cbit c):=by
  obtain⟨dv,h1,h2,h3,h4⟩:=h;have hp:=Bio.wput0 h1 hl 2 (cd c:Int) (by omega) (by omega) (by omega) (by omega);rw[ZjH L hc] at hp;refine hp.mono ?_;rintro x w1 ⟨rfl,cD,k1,k2,k3⟩;refine⟨by split<;>rfl,cD,by split<;>rename_i hh<;>simpa [hh] using k1,?_,h3,?_⟩
  · intro g hg
    rcases k3 with k3|k3
    · exact h2 g (by rw[<-k3];exact hg)
    · exact Nat.le_trans h4.size (k3 g hg)
  · exact h4.trans (k2.toBelow' h4.size (λk hk hf => by
      rcases hf with hf|hf
      · omega
      · have:=h2 k hf;omega))
theorem BWr.below {w0 w w':World} {b:Nat} {L:List Bool} (h:BWr w0 w b L) (hb:Below w.heap.size w w'):BWr w0 w' b L:=by
 obtain⟨dv,h1,h2,h3,h4⟩:=h;exact⟨dv,h1.below hb,h2,h3,h4.trans (hb.mono h4.size)⟩
theorem ZgM {w:World} {A:Option Addr} {l:List ByteArray} (ha:At w A (svs l)) (ad:∀s∈l,s.size<=1099511627776) (iu:∀s∈l,∀c∈toL s,cd c<4) (n cap:Nat) (hn:n=l.length) (hm:n<=4096) (W:Int):
  Calls Tryz.prog 120 #[.agg #[.int .i64 W],.slice A n cap] w λx w'=>x=.returned (.tuple #[.string (bs ((codP l).getD [])),.bool (codP l).isSome])/\Below w.heap.size w w':=by
 have aA:=Z0y w (.cells #[.int .i64 W] 127);have HN:=h_ (Bio.newwriter_any (w.alloc (.cells #[.int .i64 W] 127)));have he:bs ([]:List UInt8)=⟨#[]⟩:=rfl;have aZ:65536<(Z0G l).length->codP l=none:=λh=>(by unfold codP;rw[if_pos h]);have iC:(Z0G l).length<=65536->codP l=some (num l.length++toL (Bit.bstr (Z0G l))):=λh=>(by unfold codP;rw[if_neg (by omega)]);have vG:=h_ aZ;have js:=h_ iC;obtain⟨R,hR⟩:∃R,codP l=R:=⟨_,rfl⟩;rw[hR] at vG js⊢;have Ha:=h_ ha;have Hn:=h_ hn;have AB:=h_ iu;have cH:=h_ ad;have aI:=h_ aA;have kW:=h_ (λW2=>Z0g (n:Int) (by omega) (by omega) W2);rw[Int.toNat_natCast] at kW;have jW:(w.alloc (.cells #[.int .i64 W] 127)).heap.size=w.heap.size+1:=World.size_alloc _ _;rw[jW] at HN;clear ha hn iu ad aA aZ iC hR jW;go_enter Tryz.func120,Tryz.ntmps120;go_wp2_with fail;refine(HN.o).mono ?_;rintro x w1 ⟨rfl,eI,a7⟩;have Hw:=h_ (show BWr w w1 (w.heap.size+1) [] from⟨_,eI,(λg hg=>by cases hg),by omega,aI.o.trans (a7.mono (Nat.le_succ _))⟩);clear eI a7 HN aI;go_wp2;go_loopw [13] (λnj wr=>∃j:Nat,j<=n/\nj=.int .i64 (j:Int)/\(Z0G (l.take j)).length<=65536/\Hid (BWr w wr (w.heap.size+1) (Z0G (l.take j)))) (λnj _=>(n-intOf nj).toNat);case atStart=>exact⟨0,Nat.zero_le _,rfl,Nat.zero_le _,Hw⟩
 case round=>
  clear Hw;obtain⟨j,hj,rfl,hlen,hw⟩:=hrel
  have cl:Below w.heap.size w wr:=by
   obtain⟨_,_,_,_,h4⟩:=hw.o;exact h4
  by_cases ab:j<n
  ·have cK:j<l.length:=(by rw[<-Hn.o];exact ab);obtain⟨b,o,rfl,aQ,hc⟩:=Z1c (Ha.o.below cl) j cK;have hcs:=AB.o l[j] (List.getElem_mem _);have jA:=λi h=>ZjI l j i cK h;have iL:=Z6V l j cK;have zt:=cH.o l[j] (List.getElem_mem _);obtain⟨S,hS⟩:∃S,l[j]=S:=⟨_,rfl⟩;rw[hS] at hc hcs jA iL zt;obtain⟨V,hV⟩:∃V,toL S=V:=⟨_,rfl⟩;have RQ:S=bs V:=(by rw[<-hV,Z09]);rw[hV] at hcs jA iL;subst RQ;have iQ:(bs V).size=V.length:=Z00 V;have e9:Hid (∀(i:Nat) (h:i<V.length) (h2:i<(bs V).size),(bs V)[i]'h2=V[i]'h):=h_ (λi h h2=>Z48 V i h h2);have UU:V.length<=1099511627776:=(by rw[<-iQ];exact zt);have RR:=h_ hcs;have Nk:=h_ jA;have pj:=h_ iL;obtain⟨P,hP⟩:∃P,Z0G (l.take j)=P:=⟨_,rfl⟩;rw[hP] at hlen hw Nk pj;have oM:=h_ iQ;obtain⟨S,sl⟩:∃S,bs V=S:=⟨_,rfl⟩;rw[sl] at hc e9 oM;have aq:=h_ hlen;clear hcs jA iL zt hV hP iQ sl hS cK cl hlen;go_wp2;rw[oM.o];go_loopw [19] (λvH wx=>∃i:Nat,i<=V.length/\vH=.int .i64 (i:Int)/\(P++Z2a (V.take i)).length<=65536/\Hid (BWr w wx (w.heap.size+1) (P++Z2a (V.take i)))) (λvH _=>(V.length-intOf vH).toNat);case atStart=>exact⟨0,Nat.zero_le _,rfl,by rw[List.take_zero];show(P++[]).length<=_;rw[List.append_nil];exact aq.o,h_ (by rw[List.take_zero];show BWr _ _ _ (P++[]);rw[List.append_nil];exact hw.o)⟩
   case round=>
    clear hw hc;obtain⟨i,hi,rfl,iD,hw⟩:=hrel;by_cases bK:i<V.length
    ·have qB:i<S.size:=(by rw[oM.o];exact bK);have hg:=e9.o i bK qB;have oY:=RR.o V[i] (List.getElem_mem _);have oz:=Nk.o i bK;have vI:=Zdi V i bK;obtain⟨c,hc⟩:∃c,V[i]=c:=⟨_,rfl⟩;rw[hc] at hg oY vI;have RT:∀h:i<S.size,((S[i]'h).toNat:Int)=(c.toNat:Int):=λh=>(by rw[hg]);have HC:=h_ (λW2=>Z3q c W2);rw[Zfg oY] at HC;have HP:=h_ (λW2 (h:BWr w W2 (w.heap.size+1) (P++Z2a (V.take i)))=>ZjJ h iD oY);have Ba:=h_ vI;obtain⟨Q,hQ⟩:∃Q,P++Z2a (V.take i)=Q:=⟨_,rfl⟩;rw[hQ] at HP iD oz hw;have HQ:=h_ hQ;have Pz:=RT qB;have ji:(0:Int)<=(i:Int):=(by omega);have fS:(i:Int)<(V.length:Int):=(by omega);have RU:(i:Int)<(S.size:Int):=(by omega);generalize (c.toNat:Int)=C at*;clear hc hg vI hQ oY;by_cases dB:65536<Q.length+2
     ·simp only[if_pos dB] at HP;have aV:=h_ (vG.o (by omega));have vJ:=h_ (HP.o wr hw.o);clear oz iD dB HP;go_wp2_with fail;refine(HC.o _).mono ?_;rintro x w1 ⟨rfl,rfl⟩;go_wp2_with fail;refine(vJ.o).mono ?_;rintro x w2 ⟨rfl,gr⟩
      have cl:Below w.heap.size w w2:=by
       obtain⟨_,_,_,_,h4⟩:=gr;exact h4
      clear gr;go_wp2;go_returns;exact⟨by rw[aV.o];rfl,cl⟩
     ·simp only[if_neg dB] at HP;have vJ:=h_ (HP.o wr hw.o)
      have Ii:(P++Z2a (V.take (i+1))).length<=65536:=by
       rw[Ba.o,<-List.append_assoc,HQ.o,List.length_append];show Q.length+2<=_;omega
      have RW:=h_ Ii;clear oz iD dB HP Ii;go_wp2_with fail;refine(HC.o _).mono ?_;rintro x w1 ⟨rfl,rfl⟩;go_wp2_with fail;refine(vJ.o).mono ?_;rintro x w2 ⟨rfl,gr⟩
      have r7:=h_ (show BWr w w2 (w.heap.size+1) (P++Z2a (V.take (i+1))) by
       rw[Ba.o,<-List.append_assoc,HQ.o];exact gr)
      clear gr hw vJ HC;go_wp2;refine⟨⟨i+1,bK,by go_num,RW.o,r7⟩,?_⟩;simp[intOf]<;>omega
    ·have vK:i=V.length:=by omega
     have RX:=h_ (show(Z0G (l.take (j+1))).length<=65536 by
      rw[pj.o];rw[vK,List.take_length] at iD;exact iD)
     have RY:=h_ (show BWr w wr (w.heap.size+1) (Z0G (l.take (j+1))) by
      have:=hw.o;rw[vK,List.take_length] at this;rw[pj.o];exact this)
     clear hw iD;go_wp2;refine⟨⟨j+1,ab,by go_num,RX.o,RY⟩,?_⟩;simp[intOf]<;>omega
  ·have im:j=n:=(by omega);have wZ:=hw.o;rw[im,List.take_of_length_le (by rw[Hn.o];exact Nat.le_refl _)] at hlen wZ;have aV:=h_ (js.o hlen)
   have x7:=h_ (show(⟨(Bit.pack (Z0G l++[true])).toArray⟩:ByteArray).size<=8193 by
    have:=Bit.bstr_size (Z0G l);show(Bit.bstr (Z0G l)).size<=_;omega)
   obtain⟨dv,h1,h2,h3,h4⟩:=wZ;have Nl:=h_ (kW.o wr);have Nm:=h_ (λW2 (h:Bio.WrAt W2 (w.heap.size+1) dv (Z0G l))=>Bio.wbytes_any h hlen);have H1:=h_ h1;have H4:=h_ h4;clear h1 h2 h3 h4 hw hlen cl kW AB cH vG js;go_wp2_with fail;refine(Nl.o).mono ?_;rintro x w2 ⟨rfl,a8⟩;have Bb:=h_ (Nm.o w2 (H1.o.below a8));have al:=h_ (H4.o.trans (a8.mono H4.o.size));clear a8 Nl Nm;go_wp2_with fail;refine(Bb.o).mono ?_;rintro x w3 ⟨rfl,ae⟩;have aF:=h_ (al.o.trans (ae.mono al.o.size))
   have lX:bs (num n)++(⟨(Bit.pack (Z0G l++[true])).toArray⟩:ByteArray)=bs (num l.length++toL (Bit.bstr (Z0G l))):=by
    rw[<-Z0f,Z09,Hn.o];rfl
   have lP:=h_ lX
   have Hz:Hid ((bs (num n)).size+(⟨(Bit.pack (Z0G l++[true])).toArray⟩:ByteArray).size<=1099511627776):=h_ (by
    have h1:=x7.o;have h2:(num n).length<=9:=(by rw[Z07];have:=Z15 n;omega);rw[Z00];omega)
   have hz:=Hz.o;generalize bs (num n)=S1 at*;generalize (⟨(Bit.pack (Z0G l++[true])).toArray⟩:ByteArray)=S2 at*;clear ae lX Bb;go_wp2;go_returns;exact⟨by rw[aV.o,Option.getD_some,<-lP.o];rfl,aF.o⟩
end Go.Proofs.YtchokmkfobandaaGreatDoor
