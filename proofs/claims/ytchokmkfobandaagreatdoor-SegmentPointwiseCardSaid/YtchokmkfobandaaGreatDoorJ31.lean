import Derived.Test.YtchokmkfobandaaGreatDoorJ27
import Derived.Test.YtchokmkfobandaaGreatDoorJ22
set_option linter.unusedVariables false
set_option linter.unusedSimpArgs false
set_option maxRecDepth 100000
set_option maxHeartbeats 8000000
namespace Go.Proofs.YtchokmkfobandaaGreatDoor
open Go.RowKit Go.Proofs Wv Wv.Vi Wv.Rc Wv.Mo Wv.Ru Wv.Bc
def RdrR (b:Nat) (w:World) (o:Option (List ByteArray)) (x:Ending) (w':World):Prop:=Fr (only b) w w'/\match o with
 |none=>∃A,x=.returned (.tuple #[.slice A 0 0,.bool false])
 |some r=>∃g,x=.returned (.tuple #[.slice (some ⟨g,0,none⟩) r.length r.length,.bool true])/\w.heap.size<=g/\Bk w' g 9 (svs r).toArray
theorem Z4m (s:ByteArray):Z0C s 0 (s.size:Int)=(s,bs [],0):=by
 unfold Z0C;rw[if_pos rfl,if_neg (by omega),if_neg (by omega),Int.toNat_natCast,List.take_of_length_le (by rw[Z01];exact Nat.le_refl _),List.drop_eq_nil_of_le (by rw[Z01];exact Nat.le_refl _),Z09]
theorem Z6S {w:World} {b:Nat} {s:ByteArray} (h:RV w b s 0) (hs:s.size<=1000000000) (W:Int):
  Calls Tryz.prog 159 #[.agg #[.int .i64 W],.pointer (some ⟨b,0,none⟩)] w λx w'=>RdrR b w (Z2k W (toL s)) x w':=by
 have ab:=Bk.lt h;have bN:=Bk.new w 127 #[.int .i64 W];have aA:=Z0y w (.cells #[.int .i64 W] 127);have h0:RV (w.alloc (.cells #[.int .i64 W] 127)) b s 0:=Bk.alloc h _;have HL:=h_ (Z0r h0 (by omega));have HT:=h_ (Z0s h0 (by omega) (s.size:Int));rw[Z4m] at HT;have HD:=h_ (λW2=>Z3u (w:=W2) s hs 4096)
 have dZ:((dec (toL s) 4096).2≠0/\(dec (toL s) 4096).1=[])\/((dec (toL s) 4096).2=0/\(∀t∈(dec (toL s) 4096).1,t.size<=128)/\(dec (toL s) 4096).1.length<=4096):=by
  rcases Z2x (toL s) 4096 with (h|h)|⟨l,h,he,hr,pN,fV⟩
  ·rw[h];exact .inl ⟨by simp,rfl⟩
  ·rw[h];exact .inl ⟨by simp,rfl⟩
  ·rw[h];exact .inr ⟨rfl,pN,by simpa using fV⟩
 have fa:Z2k W (toL s)=if(dec (toL s) 4096).2≠0 then none else extL W (dec (toL s) 4096).1:=rfl
 rw[fa];generalize dec (toL s) 4096=D at*;obtain⟨tl,e⟩:=D;simp only at dZ⊢;clear fa
 have ad:(∀t∈tl,t.size<=1099511627776)/\tl.length<=1099511627776:=by
  rcases dZ with ⟨_,h2⟩|⟨_,h2,h3⟩
  ·rw[h2];exact⟨λt ht=>(by cases ht),Nat.zero_le _⟩
  ·exact⟨λt ht=>by have:=h2 t ht;omega,by omega⟩
 have HG:=h_ (λW2 (A:Option Addr) (cap:Nat) (ak:At W2 A (svs tl))=>Z4j ak ad.1 tl.length cap rfl ad.2 W);have iK:=h_ bN;have aI:=h_ aA;have vt:=h_ dZ;have iO:=h_ ab;have H:=h_ h;obtain⟨R,hR⟩:∃R,(if e≠0 then none else extL W tl)=R:=⟨_,rfl⟩;rw[hR];have HR:=h_ hR;clear h0 hs h bN aA dZ ad ab hR;go_enter Tryz.func159,Tryz.ntmps159;go_wp2_with fail;refine(HL.o).mono ?_;rintro x w1 ⟨rfl,rfl⟩;clear HL;go_wp2_with fail;refine(HT.o).mono ?_;rintro x w1 ⟨rfl,GU,aB⟩;clear HT;have cG:=h_ ((Fr.of_below (S:=only b) aI.o).trans aB)
 have fy:=h_ (iK.o.fr aB (by
  have:=iO.o;unfold only;omega))
 clear aB GU;have zw:=h_ (HD.o w1);clear HD;go_wp2_with fail;refine(zw.o).mono ?_;rintro x w2 ⟨v,rfl,⟨A,cap,rfl,ak⟩,a8⟩;have bW:=h_ (cG.o.below a8);have gX:=h_ (fy.o.below a8 fy.o.lt);have lT:=h_ (HG.o w2 A cap ak);have hcell:w2.cell? ⟨w.heap.size,0,none⟩=some (.int .i64 W):=gX.o.cell 0;clear cG fy zw HG ak a8 aI iK;go_wp2_with fail;refine(lT.o).mono ?_;rintro x w3 ⟨ae,hx⟩;have gz:=h_ (bW.o.below ae);have EY:=h_ bW.o.size;clear ae bW gX lT;cases ho:extL W tl with
 |none=>
  rw[ho] at hx;obtain⟨A2,rfl⟩:=hx;have aV:=h_ (show R=none by rw[<-HR.o,ho];split<;>rfl);clear hcell;go_wp2;go_returns;refine⟨gz.o,?_⟩;rw[aV.o];exact⟨_,rfl⟩
 |some r=>
  rw[ho] at hx;obtain⟨g,rfl,hg,hk⟩:=hx;have Hk:=h_ hk;by_cases he:e=0
  ·have Hg:=h_ hg;have aV:=h_ (show R=some r by rw[<-HR.o,ho,if_neg (by simpa using he)]);clear hk hg hcell vt;subst he;go_wp2;go_returns;refine⟨gz.o,?_⟩;rw[aV.o];exact⟨g,rfl,Nat.le_trans EY.o Hg.o,Hk.o⟩
  ·have aV:=h_ (show R=none by rw[<-HR.o,ho,if_pos he])
   have fE:r.length=0:=by
    rcases vt.o with ⟨_,h2⟩|⟨h2,_⟩
    ·rw[h2] at ho;injection ho with ho;rw[<-ho];rfl
    ·exact absurd h2 he
   have ay:(((e:Nat):Int)==0)=false:=by
    rw[beq_eq_false_iff_ne];omega
   rw[fE];clear hk hg hcell vt he ho fE;go_wp2;go_returns;refine⟨gz.o,?_⟩;rw[aV.o];exact⟨_,rfl⟩
theorem Z9j (v:ByteArray):∀(p:List ByteArray) (last:ByteArray),mixL last (p++[v])=mixL last p++[bs (mixV (toL v) (toL (p.getLastD last))).1]
 |[],last=>rfl
 |a::r,last=>by
  rw[List.cons_append,mixL,Z9j v r a,mixL,List.cons_append];cases r<;>rfl
theorem Z4L (v:ByteArray):∀(p:List ByteArray) (last:ByteArray),Z14 last (p++[v])=Z14 last p++[bs (mixV (toL v) (toL ((Z14 last p).getLastD last))).1]
 |[],last=>rfl
 |a::r,last=>by
  rw[List.cons_append,Z14,Z4L v r,Z14,List.cons_append];cases r<;>rfl
theorem Z2A (l:List ByteArray):∀last,(Z14 last l).length=l.length:=by
 induction l with
 |nil=>intro _;rfl
 |cons v r ih=>intro last;simp[Z14,ih]
theorem Z6T (p:List ByteArray) (v d:ByteArray):(p++[v]).getLastD d=v:=by
 rw[List.getLastD_eq_getLast?,List.getLast?_concat];rfl
theorem ZbW (a b:List UInt8):(mixV a b).1.length<=a.length:=by
 unfold mixV;split
 ·exact Nat.zero_le _
 ·split
  ·exact Nat.zero_le _
  ·show(List.zipWith mx a b).length<=_;rw[List.length_zipWith];omega
theorem ZbX (w:Int) (c:UInt8):(allV w c).length<=128:=by
 unfold allV;split
 ·exact Nat.zero_le _
 ·rename_i h;rw[List.length_replicate];omega
theorem Zgo {p r:List ByteArray} {x y:ByteArray} {j:Nat} (h:p.length=j):(p++x::r).set j y=(p++[y])++r:=by
 rw[List.set_append_right _ _ (by omega),h,Nat.sub_self,List.set_cons_zero,List.append_assoc];rfl
theorem Zda {l:List ByteArray} {N:Nat} (h:∀s∈l,s.size<=N):∀last,∀s∈mixL last l,s.size<=N:=by
 induction l with
 |nil=>intro last s hs;cases hs
 |cons v r ih=>
  intro last s hs;rcases List.mem_cons.1 hs with rfl|hs
  ·rw[Z00];have:=ZbW (toL v) (toL last);rw[Z01] at this;exact Nat.le_trans this (h v List.mem_cons_self)
  ·exact ih (λx hx=>h x (List.mem_cons_of_mem _ hx)) v s hs
theorem Zgp (a b:ByteArray) (ha:a.size<=1099511627776) (hb:b.size<=1099511627776) (W:World):
  Calls Tryz.prog 170 #[.string a,.string b] W λx w'=>x=.returned (.tuple #[.string (bs (mixV (toL a) (toL b)).1),.int .i64 ((mixV (toL a) (toL b)).2:Int)])/\Below W.heap.size W w':=by
 have:=ZiC (toL a) (toL b) (by rw[Z01];exact ha) (by rw[Z01];exact hb) W;rw[Z09,Z09] at this;exact this
def Z4M (last:ByteArray) (l:List ByteArray) (j:Nat):List ByteArray:=mixL last (l.take j)++List.replicate (l.length-j) ⟨#[]⟩
theorem Zma (last:ByteArray) (l:List ByteArray):(svs (Z4M last l 0)).toArray=Array.replicate l.length (.string ⟨#[]⟩:Value):=by
 unfold Z4M;rw[List.take_zero,Nat.sub_zero];show(svs (List.replicate l.length ⟨#[]⟩)).toArray=_;unfold svs;rw[List.map_replicate];rfl
theorem Zgq (last:ByteArray) (l:List ByteArray) (j:Nat) (h:j<l.length):(Z4M last l j).set j (bs (mixV (toL l[j]) (toL ((l.take j).getLastD last))).1)=Z4M last l (j+1):=by
 unfold Z4M;rw[show l.length-j=(l.length-(j+1))+1 by omega,List.replicate_succ,Zgo (by rw[Z47,List.length_take];omega),<-Z9j,<-List.take_succ_eq_append_getElem h]
theorem Zgr (last:ByteArray) (l:List ByteArray) (j:Nat) (h:j<=l.length):(Z4M last l j).length=l.length:=by
 unfold Z4M;rw[List.length_append,Z47,List.length_take,List.length_replicate];omega
theorem Zgs (last:ByteArray) (l:List ByteArray):Z4M last l l.length=mixL last l:=by
 unfold Z4M;rw[List.take_length,Nat.sub_self,List.replicate_zero,List.append_nil]
theorem Zdb {w:World} {A:Option Addr} {l:List ByteArray} (ha:At w A (svs l)) (ad:∀s∈l,s.size<=1099511627776) (n cap:Nat) (hn:n=l.length) (hm:n<=4096) (W:Int):
  Calls Tryz.prog 122 #[.agg #[.int .i64 W],.slice A n cap] w λx w'=>x=.returned (.tuple #[.string (bs (codM W l)),.bool true])/\Below w.heap.size w w':=by
 have bN:=Bk.new w 127 #[.int .i64 W];have aA:=Z0y w (.cells #[.int .i64 W] 127);have bE:=Z1g (P:=Tryz.prog) 64 9 (.string ⟨#[]⟩) 16 Tryz.underlying64 Z1x rfl (n:Int) n rfl (by omega) (by omega) (w.alloc (.cells #[.int .i64 W] 127));have bU:=Bk.new (w.alloc (.cells #[.int .i64 W] 127)) 9 (Array.replicate n (.string ⟨#[]⟩));have bY:=bN.alloc (.cells (Array.replicate n (.string ⟨#[]⟩)) 9);have a7:=h_ (aA.alloc aA.size (.cells (Array.replicate n (.string ⟨#[]⟩)) 9));obtain⟨Z,hZ⟩:∃Z,bs (allV W 48)=Z:=⟨_,rfl⟩;have Aq:Z.size<=128:=(by rw[<-hZ,Z00];exact ZbX W 48);have fE:Array.replicate n (.string ⟨#[]⟩:Value)=(svs (Z4M Z l 0)).toArray:=(by rw[hn,Zma]);have kP:=h_ (λW2=>Zff W 48 W2);rw[hZ,show(((48:UInt8).toNat:Nat):Int)=48 from rfl] at kP;rw[World.size_alloc] at bE bU;have hcell:((w.alloc (.cells #[.int .i64 W] 127)).alloc (.cells (Array.replicate n (.string ⟨#[]⟩)) 9)).cell? ⟨w.heap.size,0,none⟩=some (.int .i64 W):=bY.cell 0;have Ha:=h_ ha;have Hv:=h_ (λ(v u:ByteArray) (hv:v∈l) (hu:u.size<=1099511627776) W2=>Zgp v u (ad v hv) hu W2);have cH:=h_ ad;have jJ:=h_ fE;have dw:=h_ bU;have Hn:=h_ hn;have eN:n=(mixL Z l).length:=(by rw[Z47];exact hn);have HS:=h_ (λ(W2:World) (B:Option Addr) (h:At W2 B (svs (mixL Z l)))=>Z4J h (Zda ad Z) n n eN (by omega));have gT:n=(Z0F (mixL Z l)).length:=(by unfold Z0F;rw[List.length_map];exact eN);have nV:=Z2Q (l:=mixL Z l) (by omega);have HE:=h_ (λW2 (B:Option Addr) (c:Nat) (h:At W2 B (svs (Z0F (mixL Z l))))=>Z1N h (λs hs=>by have:=nV.2 s hs;omega) n c gT (by omega));have cF:=Z3e (l:=mixL Z l) (by omega);unfold codM;rw[hZ];unfold ERes at HE;rw[cF.2] at HE;generalize bs (enc (Z0F (mixL Z l))).1=SR at*;generalize (w.alloc (.cells #[.int .i64 W] 127)).alloc (.cells (Array.replicate n (.string ⟨#[]⟩)) 9)=W0 at*;rw[jJ.o] at dw;have GV:=h_ Aq;clear ha ad hn bU fE jJ bN aA bY eN gT nV cF hZ Aq;go_enter Tryz.func122,Tryz.ntmps122;go_wp2_with fail;refine(kP.o _).mono ?_;rintro x w1 ⟨rfl,xI⟩;have al:=h_ (a7.o.trans (xI.mono a7.o.size));have nW:=h_ (dw.o.below xI dw.o.lt);clear xI dw a7 bE hcell kP;go_wp2;go_loopw [7,20] (λs7 GW wr=>∃j:Nat,j<=n/\GW=.int .i64 (j:Int)/\s7=.string ((l.take j).getLastD Z)/\Hid (Bk wr (w.heap.size+1) 9 (svs (Z4M Z l j)).toArray)/\Hid (Below w.heap.size w wr)) (λ_ GW _=>(n-intOf GW).toNat);case atStart=>exact⟨0,Nat.zero_le _,rfl,rfl,nW,al⟩
 case round=>
  clear al nW;obtain⟨j,hj,rfl,rfl,hk,hb⟩:=hrel;by_cases ab:j<n
  ·have cK:j<l.length:=(by rw[<-Hn.o];exact ab);obtain⟨b,o,rfl,cl,hc⟩:=Z1c (Ha.o.below hb.o) j cK
   have nX:((l.take j).getLastD Z).size<=1099511627776:=by
    cases hp:(l.take j).getLast? with
    |none=>rw[List.getLastD_eq_getLast?,hp];have:=GV.o;show Z.size<=_;omega
    |some u=>
     rw[List.getLastD_eq_getLast?,hp];exact cH.o u (List.mem_of_mem_take (List.mem_of_getLast? hp))
   have cC:=h_ (Hv.o l[j] ((l.take j).getLastD Z) (List.getElem_mem _) nX);have aT:=h_ (Zgq Z l j cK);have hlen:=Zgr Z l j (by omega);have bZ:l.take (j+1)=l.take j++[l[j]]:=List.take_succ_eq_append_getElem cK;obtain⟨S,hS⟩:∃S,l[j]=S:=⟨_,rfl⟩;rw[hS] at hc cC aT bZ;have eW:=h_ (show S=(l.take (j+1)).getLastD Z by rw[bZ,Z6T]);have aq:=h_ (show j<(Z4M Z l j).length by rw[hlen];exact cK);obtain⟨T,hT⟩:∃T,bs (mixV (toL S) (toL ((l.take j).getLastD Z))).1=T:=⟨_,rfl⟩;rw[hT] at cC aT;clear hS hT cK hlen bZ nX;generalize ((mixV (toL S) (toL ((l.take j).getLastD Z))).2:Int)=E at*;generalize (l.take j).getLastD Z=U at*;have di:(j:Int)<(n:Int):=(by omega);have hU:(0:Int)<=(j:Int):=(by omega);go_wp2_with fail;refine(cC.o _).mono ?_;rintro x w1 ⟨rfl,a7⟩;have aP:=hk.o.below a7 hk.o.lt;have hcell:=aP.cell j;rw[List.getElem?_toArray,Z1p _ _ aq.o] at hcell;have eU:=aP.frozen j;have aj:=Z5W aP j T;rw[aT.o] at aj;have av:=h_ aj;have al:=h_ ((hb.o.trans (a7.mono hb.o.size)).setCell (p:=⟨w.heap.size+1,j,none⟩) (by simp) (.string T));generalize (Z4M Z l j)[j]=OLD at*;clear a7 cC hb hk aP aj aT aq;go_wp2;refine⟨⟨j+1,ab,by go_num,by rw[<-eW.o],av,al⟩,?_⟩;simp[intOf]<;>omega
  ·have im:j=n:=(by omega);have aP:=hk.o;rw[im,Hn.o,Zgs] at aP;have ak:=aP.at_;rw[List.toList_toArray] at ak;have Ar:=h_ (HS.o wr _ ak);clear aP hk Hv ak HS;generalize (l.take j).getLastD Z=U at*;go_wp2_with fail;refine(Ar.o).mono ?_;rintro x w2 ⟨g,rfl,df,R8,bL,a8⟩;have aQ:=hb.o.trans (a8.mono hb.o.size);have qM:=h_ (HE.o w2 _ n bL);clear a8 hb Ar HE bL;go_wp2_with fail;refine(qM.o).mono ?_;rintro x w3 ⟨rfl,ae⟩;have nO:=aQ.trans (ae.mono aQ.size);clear ae aQ qM;go_wp2;go_returns;exact⟨rfl,nO⟩
theorem Z60 {l:List ByteArray} {N:Nat} (h:∀s∈l,s.size<=N):∀last,∀s∈Z14 last l,s.size<=N:=by
 induction l with
 |nil=>intro last s hs;cases hs
 |cons v r ih=>
  intro last s hs;rcases List.mem_cons.1 hs with rfl|hs
  ·rw[Z00];have:=ZbW (toL v) (toL last);rw[Z01] at this;exact Nat.le_trans this (h v List.mem_cons_self)
  ·exact ih (λx hx=>h x (List.mem_cons_of_mem _ hx)) _ s hs
def Z52 (last:ByteArray) (l:List ByteArray) (j:Nat):List ByteArray:=Z14 last (l.take j)++l.drop j
theorem Zgt (last:ByteArray) (l:List ByteArray) (j:Nat) (h:j<l.length):(Z52 last l j).set j (bs (mixV (toL l[j]) (toL ((Z14 last (l.take j)).getLastD last))).1)=Z52 last l (j+1):=by
 unfold Z52;rw[List.drop_eq_getElem_cons h,Zgo (by rw[Z2A,List.length_take];omega),<-Z4L,<-List.take_succ_eq_append_getElem h]
theorem Zgu (last:ByteArray) (l:List ByteArray) (j:Nat) (h:j<=l.length):(Z52 last l j).length=l.length:=by
 unfold Z52;rw[List.length_append,Z2A,List.length_take,List.length_drop];omega
theorem Zjx (last:ByteArray) (l:List ByteArray) (j:Nat) (h:j<l.length):(svs (Z52 last l j))[j]? =some (.string l[j]):=by
 unfold Z52 svs;rw[List.getElem?_map,List.getElem?_append_right (by rw[Z2A,List.length_take];omega),Z2A,List.length_take,show j-min j l.length=0 by omega,List.getElem?_drop,Nat.add_zero,List.getElem?_eq_getElem h];rfl
theorem Zgv (last:ByteArray) (l:List ByteArray):Z52 last l l.length=Z14 last l:=by
 unfold Z52;rw[List.take_length,List.drop_length,List.append_nil]
theorem ZnY (last:ByteArray) (l:List ByteArray) (j:Nat) (h:j<l.length):(Z14 last (l.take (j+1))).getLastD last=bs (mixV (toL l[j]) (toL ((Z14 last (l.take j)).getLastD last))).1:=by
 rw[List.take_succ_eq_append_getElem h,Z4L,Z6T]
theorem Zaw {last:ByteArray} {l:List ByteArray} {N:Nat} (h:∀s∈l,s.size<=N) (h2:last.size<=N) (j:Nat):((Z14 last (l.take j)).getLastD last).size<=N:=by
 rw[List.getLastD_eq_getLast?];cases hp:(Z14 last (l.take j)).getLast? with
 |none=>exact h2
 |some u=>exact Z60 (λs hs=>h s (List.mem_of_mem_take hs)) last u (List.mem_of_getLast? hp)
theorem Z3g {W:Int} {s:List UInt8} {r:List ByteArray} (h:Z2k W s=some r):(∀v∈r,v.size<=128)/\r.length<=4096:=by
 unfold Z2k at h;split at h
 ·cases h
 ·obtain⟨h1,h2⟩:=Z4A h;refine⟨λv hv=> ?_,?_⟩
  ·have:=(Z0t.1 (Z0L.1 (h1 v hv)).1).2.2;rw[Z01] at this;exact this
  ·rw[h2];rcases Z2x s 4096 with (h|h)|⟨l,h,_,_,_,h4⟩
   ·rw[h];exact Nat.zero_le _
   ·rw[h];exact Nat.zero_le _
   ·rw[h];exact h4
theorem Zdc {w:World} {b:Nat} {s:ByteArray} (h:RV w b s 0) (hs:s.size<=1000000000) (W:Int):
  Calls Tryz.prog 158 #[.agg #[.int .i64 W],.pointer (some ⟨b,0,none⟩)] w λx w'=>RdrR b w ((Z2k W (toL s)).map (Z14 (bs (allV W 48)))) x w':=by
 have ab:=Bk.lt h;have bN:=Bk.new w 127 #[.int .i64 W];have aA:=Z0y w (.cells #[.int .i64 W] 127);have h0:RV (w.alloc (.cells #[.int .i64 W] 127)) b s 0:=Bk.alloc h _;have HW:=h_ (Z6S h0 hs W);have kP:=h_ (λW2=>Zff W 48 W2);obtain⟨Z,hZ⟩:∃Z,bs (allV W 48)=Z:=⟨_,rfl⟩;have Aq:Z.size<=128:=(by rw[<-hZ,Z00];exact ZbX W 48);rw[hZ,show(((48:UInt8).toNat:Nat):Int)=48 from rfl] at kP;rw[hZ];have vu:(w.alloc (.cells #[.int .i64 W] 127)).cell? ⟨w.heap.size,0,none⟩=some (.int .i64 W):=bN.cell 0;have EP:=λr=>Z3g (W:=W) (s:=toL s) (r:=r);generalize Z2k W (toL s)=O at*;have HR:=h_ (rfl:O.map (Z14 Z)=O.map (Z14 Z));obtain⟨R,hR⟩:∃R,O.map (Z14 Z)=R:=⟨_,rfl⟩;rw[hR];have HR:=h_ hR;have iK:=h_ bN;have aI:=h_ aA;have GV:=h_ Aq;have MN:=h_ EP;have iO:=h_ ab;have Dt:(w.alloc (.cells #[.int .i64 W] 127)).heap.size=w.heap.size+1:=World.size_alloc _ _;have MO:=h_ Dt;clear h0 hs h bN aA hR hZ Aq EP ab Dt;go_enter Tryz.func158,Tryz.ntmps158;go_wp2_with fail;refine(HW.o).mono ?_;rintro x w1 ⟨aB,hx⟩;have cG:=h_ ((Fr.of_below (S:=only b) aI.o).trans aB)
 have bY:=iK.o.fr aB (by
  have:=iO.o;unfold only;omega)
 have pO:w1.cell? ⟨w.heap.size,0,none⟩=some (.int .i64 W):=bY.cell 0;clear HW aB vu iK aI;cases O with
 |none=>
  obtain⟨A,rfl⟩:=hx;have aV:=h_ (show R=none from HR.o.symm);clear bY HR;go_wp2_with fail;refine(kP.o _).mono ?_;rintro x w2 ⟨rfl,a8⟩;have bW:=h_ (cG.o.below a8);clear a8 pO;go_wp2;go_loopw [22] (λvv wr=>vv=.int .i64 0/\Hid (Fr (only b) w wr)) (λ_ _=>0);case atStart=>exact⟨rfl,bW⟩
  case round=>
   clear bW;obtain⟨rfl,hf⟩:=hrel;go_wp2;go_returns;refine⟨hf.o,?_⟩;rw[aV.o];exact⟨_,rfl⟩
 |some r=>
  obtain⟨g,rfl,hg,hk⟩:=hx;have aV:=h_ (show R=some (Z14 Z r) from HR.o.symm);have Hg:=h_ (show w.heap.size+1<=g by have:=MO.o;omega);have ad:=MN.o r rfl;have Hk:=h_ hk;have cH:=h_ ad.1;have gA:=ad.2;have Hv:=h_ (λ(v u:ByteArray) (hv:v∈r) (hu:u.size<=128) W2=>Zgp v u (by have:=ad.1 v hv;omega) (by omega) W2);obtain⟨n,hn⟩:∃n,r.length=n:=⟨_,rfl⟩;have Hn:=h_ hn;rw[hn] at gA⊢;clear bY HR hg hk MN MO ad hn;go_wp2_with fail;refine(kP.o _).mono ?_;rintro x w2 ⟨rfl,a8⟩;have bW:=h_ (cG.o.below a8);have nW:=h_ (Hk.o.below a8 Hk.o.lt);clear a8 pO Hk cG kP;go_wp2;go_loopw [8,22] (λs8 vv wr=>∃j:Nat,j<=n/\vv=.int .i64 (j:Int)/\s8=.string ((Z14 Z (r.take j)).getLastD Z)/\Hid (Bk wr g 9 (svs (Z52 Z r j)).toArray)/\Hid (Fr (only b) w wr)) (λ_ vv _=>(n-intOf vv).toNat);case atStart=>exact⟨0,Nat.zero_le _,rfl,rfl,nW,bW⟩
  case round=>
   clear bW nW;obtain⟨j,hj,rfl,rfl,hk,hf⟩:=hrel;by_cases ab:j<n
   ·have cK:j<r.length:=(by rw[Hn.o];exact ab);have hc:=hk.o.cell j;rw[List.getElem?_toArray,Zjx Z r j cK] at hc;have nX:=Zaw (l:=r) cH.o GV.o j;have cC:=h_ (Hv.o r[j] _ (List.getElem_mem _) nX);have aT:=h_ (Zgt Z r j cK);have hlen:=Zgu Z r j (by omega);have eW:=h_ (ZnY Z r j cK);obtain⟨S,hS⟩:∃S,r[j]=S:=⟨_,rfl⟩;rw[hS] at hc cC aT eW;have aq:=h_ (show j<(Z52 Z r j).length by rw[hlen];exact cK);obtain⟨T,hT⟩:∃T,bs (mixV (toL S) (toL ((Z14 Z (r.take j)).getLastD Z))).1=T:=⟨_,rfl⟩;rw[hT] at cC aT eW;clear hS hT cK hlen nX;generalize ((mixV (toL S) (toL ((Z14 Z (r.take j)).getLastD Z))).2:Int)=E at*;generalize (Z14 Z (r.take j)).getLastD Z=U at*;have di:(j:Int)<(n:Int):=(by omega);have hU:(0:Int)<=(j:Int):=(by omega);go_wp2_with fail;refine(cC.o _).mono ?_;rintro x w1 ⟨rfl,a7⟩;have aP:=hk.o.below a7 hk.o.lt;have hcell:=aP.cell j;rw[List.getElem?_toArray,Z1p _ _ aq.o] at hcell;have eU:=aP.frozen j;have aj:=Z5W aP j T;rw[aT.o] at aj;have av:=h_ aj
    have GY:(w1.setCell ⟨g,j,none⟩ (.string T)).cell? ⟨g,j,none⟩=some (.string T):=by
     rw[aj.cell j,<-aT.o,List.getElem?_toArray];unfold svs;rw[List.getElem?_map,List.getElem?_set_self aq.o];rfl
    have bW:=h_ ((hf.o.below a7).setCell (p:=⟨g,j,none⟩) (.inr (by have:=Hg.o;simp only;omega)) (.string T));generalize (Z52 Z r j)[j]=OLD at*;clear a7 cC hf hk aP aj aT aq;go_wp2;refine⟨⟨j+1,ab,by go_num,by rw[eW.o],av,bW⟩,?_⟩;simp[intOf]<;>omega
   ·have im:j=n:=(by omega);have aP:=hk.o;rw[im,<-Hn.o,Zgv] at aP;have fP:=h_ aP;have Hl:=h_ (show(Z14 Z r).length=n by rw[Z2A,Hn.o]);clear aP hk Hv;generalize (Z14 Z (r.take j)).getLastD Z=U at*;go_wp2;go_returns;refine⟨hf.o,?_⟩;rw[aV.o];exact⟨g,by rw[Hl.o];rfl,by have:=Hg.o;omega,fP.o⟩
theorem Z1C (a:List Int) (x:Int):ivs (a++[x])=ivs a++[.int .i64 x]:=by simp[ivs,iv]
theorem Zgw (a b:ByteArray) (ha:a.size<=1099511627776) (hb:b.size<=1099511627776) (W:World):
  Calls Tryz.prog 207 #[.string a,.string b] W λx w'=>x=.returned (.tuple #[.string (bs (addV (toL a) (toL b)).1),.bool (addV (toL a) (toL b)).2])/\Below W.heap.size W w':=by
 have:=Ziz (toL a) (toL b) (by rw[Z01];exact ha) (by rw[Z01];exact hb) W;rw[Z09,Z09] at this;exact this
theorem getD_at {l:List ByteArray} {i:Nat} (h:i<l.length):l.getD i default=l[i]:=by
 rw[List.getD_eq_getElem?_getD,List.getElem?_eq_getElem h];rfl
theorem Zjy {w:World} {A:Option Addr} {l:List ByteArray} (ha:At w A (svs l)) (ad:∀s∈l,s.size<=1099511627776) (n cap:Nat) (hn:n=l.length) (hm:n<=4096) (st:ByteArray) (aN:st.size<=1099511627776):
  Calls Tryz.prog 168 #[.slice A n cap,.string st] w λx w'=>∃v,x=.returned v/\IRes w' v (exI l st)/\Below w.heap.size w w':=by
 have Ha:=h_ ha;have Hn:=h_ hn;have Hv:=h_ (λ(v:ByteArray) (hv:v∈l) W2=>Zgw v st (ad v hv) aN W2);have jO:=h_ (Z0p (w:=w) (base:=w.heap.size) (e:=3) (size:=1));have aA:=h_ (Below.refl w.heap.size w);clear ha hn ad aN;go_enter Tryz.func168,Tryz.ntmps168;go_wp2;go_loopw [5,6] (λs5 s6 wr=>∃k:Nat,(k=0\/k+1<=n)/\s6=.int .i64 ((k:Int)+1)/\Hid (wr.ownsRow w.heap.size 3 1 s5 (exP l st k).length (ivs (exP l st k)))/\Hid (Below w.heap.size w wr)) (λ_ s6 _=>(n-intOf s6).toNat);case atStart=>exact⟨0,.inl rfl,rfl,jO,aA⟩
 case round=>
  clear jO aA;obtain⟨k,hk,rfl,aa,hb⟩:=hrel;obtain⟨A5,M5,bk,rfl⟩:=Z0c aa.o;by_cases ab:k+1<n
  ·have bz:k+1<l.length:=(by rw[<-Hn.o];exact ab);have lU:k<l.length:=(by omega);obtain⟨b,o,rfl,cl,hc⟩:=Z1c (Ha.o.below hb.o) k lU
   have As:∀W2,Below wr.heap.size wr W2->W2.cell? ⟨b,o+(k+1),none⟩=some (.string l[k+1]):=λW2 hW=>by
    obtain⟨b2,o2,he,_,dF⟩:=Z1c ((Ha.o.below hb.o).mono (Nat.le_refl _) hW) (k+1) bz;injection he with he;injection he with h1 h2;subst h1;subst h2;exact dF
   have fy:=h_ As;have cC:=h_ (Hv.o l[k] (List.getElem_mem _))
   have bG:okA l st k=decide (addV (toL l[k]) (toL st)=(toL l[k+1],true)):=by
    unfold okA;rw[getD_at lU,getD_at bz]
   have nY:=Zio l st k;have hle:=Z9X l st k;obtain⟨S0,nU⟩:∃S,l[k]=S:=⟨_,rfl⟩;obtain⟨S1,lQ⟩:∃S,l[k+1]=S:=⟨_,rfl⟩;rw[nU] at hc cC bG;rw[lQ] at fy bG;obtain⟨⟨r,q⟩,hr⟩:∃r,addV (toL S0) (toL st)=r:=⟨_,rfl⟩;rw[hr] at cC bG;simp only at cC
   have jb:okA l st k=(q&&decide (bs r=S1)):=by
    rw[bG,Bool.eq_iff_iff,Bool.and_eq_true,decide_eq_true_iff,decide_eq_true_iff,Prod.mk.injEq];constructor
    ·rintro⟨h1,h2⟩;exact⟨h2,by rw[h1,Z09]⟩
    ·rintro⟨h1,h2⟩;exact⟨by rw[<-h2,Z0d],h1⟩
   have tw:=h_ jb;have Au:=h_ nY
   have cA:∀X:ByteArray,bs r=X->(if q=true/\X=S1 then exP l st (k+1)=exP l st k else exP l st (k+1)=exP l st k++[(k:Int)+1]):=λX hX=>by
    subst hX;rw[Au.o,tw.o];by_cases hq:q=true
    ·by_cases hx:bs r=S1
     ·rw[if_pos ⟨hq,hx⟩,hq,decide_eq_true hx];rfl
     ·rw[if_neg (λh=>hx h.2),decide_eq_false hx,Bool.and_false,if_neg (by simp)]
    ·rw[if_neg (λh=>hq h.1),if_neg (by simp[hq])]
   obtain⟨X,hX⟩:∃X,bs r=X:=⟨_,rfl⟩;have qJ:=h_ (cA X hX);rw[hX] at cC;have kQ:(exP l st k).length+1<=4096:=(by omega);have dR:=h_ kQ;have i1:IntKind.i64.wrap ((k:Int)+1-1)=(k:Int):=(by rw[IntWalk.i64_in _ (by omega)];omega);have bU:(0:Int)<=(k:Int):=(by omega);have aP:(k:Int)<(n:Int):=(by omega);have cE:(k:Int)+1<(n:Int):=(by omega);have e1:(k:Int)+1-1=(k:Int):=(by omega);clear bz lU nU lQ hr bG jb cA hX nY hle tw Au kQ As;go_wp2_with fail;refine(cC.o _).mono ?_;rintro x w1 ⟨rfl,a7⟩;have bY:=fy.o w1 a7
   have vw:w1.cell? ⟨b,o+((k:Int)+1).toNat,none⟩=some (.string S1):=by
    rw[show((k:Int)+1).toNat=k+1 by omega];exact bY
   have e2:((k:Int)+1).toNat=k+1:=(by omega);have ai:=Z0v aa.o (Fr.of_below (S:=nob) a7) (λ_ _ f=>f);have an:=h_ (hb.o.trans (a7.mono hb.o.size));obtain⟨v',w4,ag,af,aG,_⟩:=Z1X (P:=Tryz.prog) 31 3 _ _ Tryz.underlying31 Z0R rfl (w:=w1) ai an.o an.o.size (.int .i64 ((k:Int)+1)) rfl (by have:=dR.o;unfold maxLen;omega) (by have:=dR.o;omega);have ao:=h_ ag;have az:=h_ af;have cQ:=h_ aG;have aE:=h_ ai;clear a7 cC aa hb hc fy ag af aG ai;cases q with
   |false=>
    have gU:=h_ (show exP l st (k+1)=exP l st k++[(k:Int)+1] by
     have:=qJ.o
     rwa [if_neg (by simp)] at this)
    have eZ:=h_ (show w4.ownsRow w.heap.size 3 1 v' (exP l st (k+1)).length (ivs (exP l st (k+1))) by
     rw[gU.o,Z1C,List.length_append];exact az.o)
    clear aE az gU bY vw qJ
    go_wp2_with (
     at_builtin;refine Z04 (by with_reducible rfl) rfl _ _ _ rfl _ _ (by rfl) (by rfl) ao.o ?_)
    refine⟨⟨k+1,.inr ab,by go_num,eZ,cQ⟩,?_⟩;simp[intOf]<;>omega
   |true=>
    by_cases hx:X=S1
    ·have gU:=h_ (show exP l st (k+1)=exP l st k by
      have:=qJ.o
      rwa [if_pos ⟨rfl,hx⟩] at this)
     have ay:(X.toList !=S1.toList)=false:=(by rw[Z6K,hx];simp);have heq:(X.toList==S1.toList)=true:=(by rw[Z3F,hx];simp)
     have eZ:=h_ (show w1.ownsRow w.heap.size 3 1 (.slice A5 M5 bk) (exP l st (k+1)).length (ivs (exP l st (k+1))) by
      rw[gU.o];exact aE.o)
     clear aE az gU vw qJ ao cQ hx;go_wp2;refine⟨⟨k+1,.inr ab,by go_num,eZ,an⟩,?_⟩;simp[intOf]<;>omega
    ·have gU:=h_ (show exP l st (k+1)=exP l st k++[(k:Int)+1] by
      have:=qJ.o
      rwa [if_neg (λh=>hx h.2)] at this)
     have ay:(X.toList !=S1.toList)=true:=(by rw[Z6K,decide_eq_false hx];rfl);have heq:(X.toList==S1.toList)=false:=(by rw[Z3F,decide_eq_false hx]);have MP:=ao
     have eZ:=h_ (show w4.ownsRow w.heap.size 3 1 v' (exP l st (k+1)).length (ivs (exP l st (k+1))) by
      rw[gU.o,Z1C,List.length_append];exact az.o)
     clear aE az gU vw qJ hx
     go_wp2_with (
      at_builtin;refine Z04 (by with_reducible rfl) rfl _ _ _ rfl _ _ (by rfl) (by rfl) ao.o ?_)
     refine⟨⟨k+1,.inr ab,by go_num,eZ,cQ⟩,?_⟩;simp[intOf]<;>omega
  ·have ef:n-1=k:=(by omega);have bK:¬(k:Int)+1<(n:Int):=(by omega)
   have aD:Hid (IRes wr (.slice A5 M5 bk) (exI l st)):=h_ (by
    obtain⟨A6,jc,hv,ak⟩:=Z0q aa.o;unfold exI;rw[<-Hn.o,ef];exact⟨A6,jc,hv,ak⟩)
   clear aa ef Hv;go_wp2;go_returns;exact⟨_,rfl,aD.o,hb.o⟩
end Go.Proofs.YtchokmkfobandaaGreatDoor
namespace Wv
open Go Go.RowKit Wv.Ru
open Classical in
noncomputable def lk (l:List MapEntry) (k:Value):Option Value:=(l.find? (λe=>decide (e.key=k))).map (·.val)
theorem Z2T {e:MapEntry} {t:List MapEntry} {k:Value} (h:e.key=k):lk (e::t) k=some e.val:=by
 unfold lk;rw[List.find?_cons_of_pos (by simpa using h)];rfl
theorem Z1q {e:MapEntry} {t:List MapEntry} {k:Value} (h:e.key≠k):lk (e::t) k=lk t k:=by
 unfold lk;rw[List.find?_cons_of_neg (by simpa using h)]
theorem Z7Z {d:TypeDesc} {k:Value} (hk:MapKept.IsKey d k):∀(l:List MapEntry) (i:Nat),(∀x∈l,MapKept.IsKey d x.key)->
  (Instr.findNow d k l i=some none/\lk l k=none)\/∃j v,Instr.findNow d k l i=some (some (i+j,v))/\lk l k=some v/\(∃e,l[j]? =some e/\e.key=k)/\
   ∀u,lk (l.modify j λe=> { e with key:=k,val:=u }) k=some u/\∀k',k'≠k->lk (l.modify j λe=> { e with key:=k,val:=u }) k'=lk l k'
 |[],i,_=>.inl ⟨rfl,rfl⟩
 |e::t,i,h=>by
  obtain⟨r,hr,oR⟩:=MapKept.sameNow_of_keys hk (h e (.head _));cases r with
  |true=>
   have he:=oR.1 rfl;refine .inr ⟨0,e.val,by simp[Instr.findNow,hr],Z2T he.symm,⟨e,rfl,he.symm⟩,λu=>⟨?_,λk' tr=> ?_⟩⟩
   ·show lk ({ e with key:=k,val:=u } ::t) k=_;rw[Z2T rfl]
   ·show lk ({ e with key:=k,val:=u } ::t) k'=_;rw[Z1q (λh=>tr h.symm),Z1q (λh=>tr (by rw[<-h,<-he]))]
  |false=>
   have ay:e.key≠k:=λq=>(by have:=oR.2 q.symm;cases this);rcases Z7Z hk t (i+1) (λx hx=>h x (.tail _ hx)) with ⟨h1,h2⟩|⟨j,v,h1,h2,⟨e',h3,h4⟩,h5⟩
   ·exact .inl ⟨by simp[Instr.findNow,hr,h1],by rw[Z1q ay,h2]⟩
   ·refine .inr ⟨j+1,v,by simp[Instr.findNow,hr,h1];omega,by rw[Z1q ay,h2],⟨e',by simpa using h3,h4⟩,λu=>⟨?_,λk' tr=> ?_⟩⟩
    ·show lk (e::t.modify j _) k=_;rw[Z1q ay];exact(h5 u).1
    ·show lk (e::t.modify j _) k'=_;by_cases h6:e.key=k'
     ·rw[Z2T h6,Z2T h6]
     ·rw[Z1q h6,Z1q h6];exact(h5 u).2 k' tr
theorem Zgx (l:List MapEntry) (e:MapEntry) (h:lk l e.key=none):lk (l++[e]) e.key=some e.val/\∀k,k≠e.key->lk (l++[e]) k=lk l k:=by
 induction l with
 |nil=>exact⟨Z2T rfl,λk hk=>Z1q (λh=>hk h.symm)⟩
 |cons a t ih=>
  by_cases ha:a.key=e.key
  ·rw[Z2T ha] at h;cases h
  ·rw[Z1q ha] at h;obtain⟨i1,i2⟩:=ih h;refine⟨?_,λk hk=> ?_⟩
   ·rw[List.cons_append,Z1q ha,i1]
   ·rw[List.cons_append];by_cases h2:a.key=k
    ·rw[Z2T h2,Z2T h2]
    ·rw[Z1q h2,Z1q h2,i2 k hk]
def MpV (d:TypeDesc) (w:World) (b:Nat) (M:Value->Option Value):Prop:=∃es clock,w.heap[b]? =some (.map es clock)/\(∀x∈es.toList,MapKept.IsKey d x.key)/\∀k,MapKept.IsKey d k->lk es.toList k=M k
section
variable {P:Program} {d:TypeDesc} {w w':World} {b:Nat} {M:Value->Option Value} {t kt et:TypeId}
theorem MpV.lt (h:MpV d w b M):b<w.heap.size:=by
 obtain⟨es,c,h1,_⟩:=h;exact(Array.getElem?_eq_some_iff.1 h1).1
theorem MpV.of (h:MpV d w b M) (he:w'.heap[b]? =w.heap[b]?):MpV d w' b M:=by
 obtain⟨es,c,h1,h2⟩:=h;exact⟨es,c,he.trans h1,h2⟩
theorem MpV.below {B:Nat} (h:MpV d w b M) (hb:Below B w w') (hB:b<B):MpV d w' b M:=h.of (hb.block b hB)
theorem MpV.fr {S:Nat->Prop} (h:MpV d w b M) (hf:Fr S w w') (hS:¬S b):MpV d w' b M:=h.of (hf.block b h.lt hS)
theorem MpV.alloc (h:MpV d w b M) (o:Obj):MpV d (w.alloc o) b M:=h.of (Below.heap_alloc w o b h.lt)
theorem MpV.new (d:TypeDesc) (w:World):MpV d (w.alloc (.map #[] 0)) w.heap.size (λ_=>none):=⟨#[],0,heap_alloc_new w _,(λx hx=>by simp at hx),λk _=>rfl⟩
theorem MpV.get (ht:P.underlying t=some (.map kt et)) (hd:P.underlying kt=some d) (h:MpV d w b M) (k v:Value) (hk:MapKept.IsKey d k) (hv:M k=some v):
  (Instr.lookup t (.map (some b)) k false).run P w=.ok v w/\(Instr.lookup t (.map (some b)) k true).run P w=.ok (.tuple #[v,.bool true]) w:=by
 obtain⟨es,c,h1,h2,h3⟩:=h;have ck:=λe=>MapKept.run_checkKey (w:=w) hd hk e 9999;rcases Z7Z hk es.toList 0 h2 with ⟨f1,f2⟩|⟨j,v',f1,f2,_,_⟩
 ·rw[h3 k hk,hv] at f2;cases f2
 ·rw[h3 k hk,hv] at f2;injection f2 with f2;subst f2;constructor
  ·unfold Instr.lookup;simp only[Sem.run_bind,Sem.run_pure,run_underlying ht,Result.andThen_ok,MapKept.run_getObj_map h1,ck,MapKept.run_findKey hd f1];rfl
  ·unfold Instr.lookup;simp only[Sem.run_bind,Sem.run_pure,run_underlying ht,Result.andThen_ok,MapKept.run_getObj_map h1,ck,MapKept.run_findKey hd f1];rfl
theorem MpV.miss (ht:P.underlying t=some (.map kt et)) (hd:P.underlying kt=some d) (h:MpV d w b M) (k z:Value) (hk:MapKept.IsKey d k) (hv:M k=none) (hz:(zeroValue et).run P w=.ok z w):
  (Instr.lookup t (.map (some b)) k false).run P w=.ok z w/\(Instr.lookup t (.map (some b)) k true).run P w=.ok (.tuple #[z,.bool false]) w:=by
 obtain⟨es,c,h1,h2,h3⟩:=h;have ck:=λe=>MapKept.run_checkKey (w:=w) hd hk e 9999;rcases Z7Z hk es.toList 0 h2 with ⟨f1,f2⟩|⟨j,v',f1,f2,_,_⟩
 ·constructor
  ·unfold Instr.lookup;simp only[Sem.run_bind,Sem.run_pure,run_underlying ht,Result.andThen_ok,MapKept.run_getObj_map h1,ck,MapKept.run_findKey hd f1,hz];rfl
  ·unfold Instr.lookup;simp only[Sem.run_bind,Sem.run_pure,run_underlying ht,Result.andThen_ok,MapKept.run_getObj_map h1,ck,MapKept.run_findKey hd f1,hz];rfl
 ·rw[h3 k hk,hv] at f2;cases f2
theorem MpV.put (ht:P.underlying t=some (.map kt et)) (hd:P.underlying kt=some d) (h:MpV d w b M) (k v:Value) (hk:MapKept.IsKey d k):
  ∃w',(Instr.mapUpdate t (.map (some b)) k v).run P w=.ok () w'/\(∀M',M' k=some v->(∀x,x≠k->M' x=M x)->MpV d w' b M')/\Fr (λj=>j=b) w w'/\w'.heap.size=w.heap.size:=by
 have ab:=h.lt;obtain⟨es,c,h1,h2,h3⟩:=h;have ck:=MapKept.run_checkKey (w:=w) hd hk false 9999
 have ey:∀o,Fr (λj=>j=b) w { w with heap:=w.heap.setIfInBounds b o } :=λo=>⟨rfl,rfl,rfl,by simp,λr hr hn=>by
  have:b≠r:=λe=>hn e.symm;simp[this]⟩
 rcases Z7Z hk es.toList 0 h2 with ⟨f1,f2⟩|⟨j,v',f1,f2,⟨e,f3,f4⟩,f5⟩
 ·refine⟨{ w with heap:=w.heap.setIfInBounds b (.map (es.push { key:=k,val:=v,born:=c }) (c+1)) },?_,λM' GZ pP=> ?_,ey _,by simp⟩
  ·unfold Instr.mapUpdate;simp only[Sem.run_bind,run_underlying ht,Result.andThen_ok,MapKept.run_getObj_map h1,ck,MapKept.run_findKey hd f1,MapKept.run_setObj_map _ h1]
  ·refine⟨_,_,(MapKept.heap_set h1).1,?_,?_⟩
   ·intro x hx;rw[Array.toList_push,List.mem_append,List.mem_singleton] at hx;rcases hx with hx|rfl
    ·exact h2 x hx
    ·exact hk
   ·intro x hx;rw[Array.toList_push];by_cases vx:x=k
    ·subst vx;rw[GZ];exact(Zgx _ { key:=x,val:=v,born:=c } f2).1
    ·rw[pP x vx,<-h3 x hx];exact(Zgx _ { key:=k,val:=v,born:=c } f2).2 x vx
 ·have hj:es[j]? =some e:=(by simpa using f3);refine⟨{ w with heap:=w.heap.setIfInBounds b (.map (es.modify j λe=> { e with key:=k,val:=v }) c) },?_,λM' GZ pP=> ?_,ey _,by simp⟩
  ·simp[Instr.mapUpdate,run_underlying ht,MapKept.run_getObj_map h1,ck,MapKept.run_findKey hd f1,hj,f4,MapKept.run_keyThatStays hk,MapKept.run_setObj_map _ h1,Result.andThen]
  ·refine⟨_,_,(MapKept.heap_set h1).1,?_,?_⟩
   ·exact MapKept.isKey_modify h2 _ _ (λe' MQ=>by rw[hj] at MQ;cases MQ;exact f4.symm)
   ·intro x hx;rw[Array.toList_modify];by_cases vx:x=k
    ·subst vx;rw[GZ];exact(f5 v).1
    ·rw[pP x vx,<-h3 x hx];exact(f5 v).2 x vx
end
end Wv
