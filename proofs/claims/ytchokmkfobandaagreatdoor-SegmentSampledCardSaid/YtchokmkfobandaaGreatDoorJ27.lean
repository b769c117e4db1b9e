import Derived.Test.YtchokmkfobandaaGreatDoorJ24
import Derived.Test.YtchokmkfobandaaGreatDoorJ20
set_option linter.unusedVariables false
set_option linter.unusedSimpArgs false
set_option maxRecDepth 100000
set_option maxHeartbeats 8000000
namespace Go.Proofs.YtchokmkfobandaaGreatDoor
open Go.RowKit Go.Proofs Wv Wv.Vi Wv.Rc Wv.Mo Wv.Ru Wv.Bc
def RdrR (b:Nat) (w:World) (o:Option (List ByteArray)) (x:Ending) (w':World):Prop:=Fr (only b) w w'/\match o with
 |none=>∃A,x=.returned (.tuple #[.slice A 0 0,.bool false])
 |some r=>∃g,x=.returned (.tuple #[.slice (some ⟨g,0,none⟩) r.length r.length,.bool true])/\w.heap.size<=g/\Bk w' g 9 (svs r).toArray
theorem Z0n (s:ByteArray):ZC s 0 (s.size:Int)=(s,bs [],0):=by
 unfold ZC;rw[Vaf rfl,Vad (by omega),Vad (by omega),Vav,Vah (by rw[Z1];exact UZz),Vbf (by rw[Z1];exact UZz),Zc]
theorem Z2X {w:World} {b:Nat} {s:ByteArray} (h:RV w b s 0) (hs:s.size<=1000000000) (W:Int):
  Calls Tryz.prog 159 #[.agg #[.int .i64 W],.pointer (some ⟨b,0,none⟩)] w λx w'=>RdrR b w (Xn W (toL s)) x w':=by
 have ab:=Bk.lt h;have bO:=Bk.new w 127 #[.int .i64 W];have aB:=Zy w (.cells #[.int .i64 W] 127);have h0:RV (w.alloc (.cells #[.int .i64 W] 127)) b s 0:=Bk.alloc h _;have HL:=h_ (Zt h0 (by omega));have HT:=h_ (Zu h0 (by omega) (s.size:Int));rw[Z0n] at HT;have HD:=h_ (λW2=>Qv (w:=W2) s hs 4096)
 have el:((dec (toL s) 4096).2≠0/\(dec (toL s) 4096).1=[])\/((dec (toL s) 4096).2=0/\(∀t∈(dec (toL s) 4096).1,t.size<=128)/\(dec (toL s) 4096).1.length<=4096):=by
  rcases Qw (toL s) 4096 with (h|h)|⟨l,h,he,hr,qf,eu⟩
  ·rw[h];exact .inl ⟨by simp,rfl⟩
  ·rw[h];exact .inl ⟨by simp,rfl⟩
  ·rw[h];exact .inr ⟨rfl,qf,by simpa using eu⟩
 have fp:Xn W (toL s)=if(dec (toL s) 4096).2≠0 then none else extL W (dec (toL s) 4096).1:=rfl
 rw[fp];generalize dec (toL s) 4096=D at*;obtain⟨tl,e⟩:=D;simp only at el⊢;clear fp
 have ad:(∀t∈tl,t.size<=1099511627776)/\tl.length<=1099511627776:=by
  rcases el with ⟨_,h2⟩|⟨_,h2,h3⟩
  ·rw[h2];exact⟨λt ht=>(by cases ht),Vat _⟩
  ·exact⟨λt ht=>by have:=h2 t ht;omega,by omega⟩
 have HG:=h_ (λW2 (A:Option Addr) (cap:Nat) (ak:At W2 A (svs tl))=>Z0j ak ad.1 tl.length cap rfl ad.2 W);have iY:=h_ bO;have aL:=h_ aB;have vX:=h_ el;have je:=h_ ab;have H:=h_ h;obtain⟨R,hR⟩:∃R,(if e≠0 then none else extL W tl)=R:=⟨_,rfl⟩;rw[hR];have HR:=h_ hR;clear h0 hs h bO aB el ad ab hR;go_enter Tryz.func159,Tryz.ntmps159;go_wp2_with fail;refine(HL.o).mono ?_;rintro x w1 ⟨rfl,rfl⟩;clear HL;go_wp2_with fail;refine(HT.o).mono ?_;rintro x w1 ⟨rfl,Ir,aC⟩;clear HT;have cP:=h_ ((Fr.of_below (S:=only b) aL.o).trans aC)
 have fL:=h_ (iY.o.fr aC (by
  have:=je.o;unfold only;omega))
 clear aC Ir;have Ak:=h_ (HD.o w1);clear HD;go_wp2_with fail;refine(Ak.o).mono ?_;rintro x w2 ⟨v,rfl,⟨A,cap,rfl,ak⟩,a8⟩;have cl:=h_ (cP.o.below a8);have im:=h_ (fL.o.below a8 fL.o.lt);have mu:=h_ (HG.o w2 A cap ak);have hcell:w2.cell? ⟨w.heap.size,0,none⟩=some (.int .i64 W):=im.o.cell 0;clear cP fL Ak HG ak a8 aL iY;go_wp2_with fail;refine(mu.o).mono ?_;rintro x w3 ⟨af,hx⟩;have gN:=h_ (cl.o.below af);have FP:=h_ cl.o.size;clear af cl im mu;cases ho:extL W tl with
 |none=>
  rw[ho] at hx;obtain⟨A2,rfl⟩:=hx;have aN:=h_ (show R=none by rw[<-HR.o,ho];split<;>rfl);clear hcell;go_wp2;go_returns;refine⟨gN.o,?_⟩;rw[aN.o];exact⟨_,rfl⟩
 |some r=>
  rw[ho] at hx;obtain⟨g,rfl,hg,hk⟩:=hx;have Hk:=h_ hk;by_cases he:e=0
  ·have Hg:=h_ hg;have aN:=h_ (show R=some r by rw[<-HR.o,ho,Vad (by simpa using he)]);clear hk hg hcell vX;subst he;go_wp2;go_returns;refine⟨gN.o,?_⟩;rw[aN.o];exact⟨g,rfl,Vaq FP.o Hg.o,Hk.o⟩
  ·have aN:=h_ (show R=none by rw[<-HR.o,ho,Vaf he])
   have fQ:r.length=0:=by
    rcases vX.o with ⟨_,h2⟩|⟨h2,_⟩
    ·rw[h2] at ho;injection ho with ho;rw[<-ho];rfl
    ·exact absurd h2 he
   have az:(((e:Nat):Int)==0)=false:=by
    rw[Vam];omega
   rw[fQ];clear hk hg hcell vX he ho fQ;go_wp2;go_returns;refine⟨gN.o,?_⟩;rw[aN.o];exact⟨_,rfl⟩
theorem Z5h (v:ByteArray):∀(p:List ByteArray) (last:ByteArray),mixL last (p++[v])=mixL last p++[bs (mixV (toL v) (toL (p.getLastD last))).1]
 |[],last=>rfl
 |a::r,last=>by
  rw[Vbs,mixL,Z5h v r a,mixL,Vbs];cases r<;>rfl
theorem Z0L (v:ByteArray):∀(p:List ByteArray) (last:ByteArray),Y4 last (p++[v])=Y4 last p++[bs (mixV (toL v) (toL ((Y4 last p).getLastD last))).1]
 |[],last=>rfl
 |a::r,last=>by
  rw[Vbs,Y4,Z0L v r,Y4,Vbs];cases r<;>rfl
theorem Xz (l:List ByteArray):∀last,(Y4 last l).length=l.length:=by
 induction l with
 |nil=>intro _;rfl
 |cons v r ih=>intro last;simp[Y4,ih]
theorem Z2Y (p:List ByteArray) (v d:ByteArray):(p++[v]).getLastD d=v:=by
 rw[List.getLastD_eq_getLast?,List.getLast?_concat];rfl
theorem Z7X (a b:List UInt8):(mixV a b).1.length<=a.length:=by
 unfold mixV;split
 ·exact Vat _
 ·split
  ·exact Vat _
  ·show(List.zipWith mx a b).length<=_;rw[Vb9];omega
theorem Z7Y (w:Int) (c:UInt8):(allV w c).length<=128:=by
 unfold allV;split
 ·exact Vat _
 ·rename_i h;rw[Vaw];omega
theorem Zct {p r:List ByteArray} {x y:ByteArray} {j:Nat} (h:p.length=j):(p++x::r).set j y=(p++[y])++r:=by
 rw[Va8 _ _ (by omega),h,Va7,List.set_cons_zero,Vay];rfl
theorem Z9g {l:List ByteArray} {N:Nat} (h:∀s∈l,s.size<=N):∀last,∀s∈mixL last l,s.size<=N:=by
 induction l with
 |nil=>intro last s hs;cases hs
 |cons v r ih=>
  intro last s hs;rcases Vba.1 hs with rfl|hs
  ·rw[Z0];have:=Z7X (toL v) (toL last);rw[Z1] at this;exact Vaq this (h v Vap)
  ·exact ih (λx hx=>h x (Var _ hx)) v s hs
theorem Zcu (a b:ByteArray) (ha:a.size<=1099511627776) (hb:b.size<=1099511627776) (W:World):
  Calls Tryz.prog 170 #[.string a,.string b] W λx w'=>x=.returned (.tuple #[.string (bs (mixV (toL a) (toL b)).1),.int .i64 ((mixV (toL a) (toL b)).2:Int)])/\Below W.heap.size W w':=by
 have:=ZeT (toL a) (toL b) (by rw[Z1];exact ha) (by rw[Z1];exact hb) W;rw[Zc,Zc] at this;exact this
def Z0M (last:ByteArray) (l:List ByteArray) (j:Nat):List ByteArray:=mixL last (l.take j)++List.replicate (l.length-j) ⟨#[]⟩
theorem Ziy (last:ByteArray) (l:List ByteArray):(svs (Z0M last l 0)).toArray=Array.replicate l.length (.string ⟨#[]⟩:Value):=by
 unfold Z0M;rw[Vbw,Nat.sub_zero];show(svs (List.replicate l.length ⟨#[]⟩)).toArray=_;unfold svs;rw[List.map_replicate];rfl
theorem Zcv (last:ByteArray) (l:List ByteArray) (j:Nat) (h:j<l.length):(Z0M last l j).set j (bs (mixV (toL l[j]) (toL ((l.take j).getLastD last))).1)=Z0M last l (j+1):=by
 unfold Z0M;rw[show l.length-j=(l.length-(j+1))+1 by omega,Vbg,Zct (by rw[Z08,Vau];omega),<-Z5h,<-Vac h]
theorem Zcw (last:ByteArray) (l:List ByteArray) (j:Nat) (h:j<=l.length):(Z0M last l j).length=l.length:=by
 unfold Z0M;rw[Vab,Z08,Vau,Vaw];omega
theorem Zcx (last:ByteArray) (l:List ByteArray):Z0M last l l.length=mixL last l:=by
 unfold Z0M;rw[Vbx,Va7,List.replicate_zero,Va3]
theorem Z9h {w:World} {A:Option Addr} {l:List ByteArray} (ha:At w A (svs l)) (ad:∀s∈l,s.size<=1099511627776) (n cap:Nat) (hn:n=l.length) (hm:n<=4096) (W:Int):
  Calls Tryz.prog 122 #[.agg #[.int .i64 W],.slice A n cap] w λx w'=>x=.returned (.tuple #[.string (bs (codM W l)),.bool true])/\Below w.heap.size w w':=by
 have bO:=Bk.new w 127 #[.int .i64 W];have aB:=Zy w (.cells #[.int .i64 W] 127);have bG:=Yg (P:=Tryz.prog) 64 9 (.string ⟨#[]⟩) 16 Tryz.underlying64 YC rfl (n:Int) n rfl (by omega) (by omega) (w.alloc (.cells #[.int .i64 W] 127));have cj:=Bk.new (w.alloc (.cells #[.int .i64 W] 127)) 9 (Array.replicate n (.string ⟨#[]⟩));have cq:=bO.alloc (.cells (Array.replicate n (.string ⟨#[]⟩)) 9);have a7:=h_ (aB.alloc aB.size (.cells (Array.replicate n (.string ⟨#[]⟩)) 9));obtain⟨Z,hZ⟩:∃Z,bs (allV W 48)=Z:=⟨_,rfl⟩;have B6:Z.size<=128:=(by rw[<-hZ,Z0];exact Z7Y W 48);have fQ:Array.replicate n (.string ⟨#[]⟩:Value)=(svs (Z0M Z l 0)).toArray:=(by rw[hn,Ziy]);have lx:=h_ (λW2=>Zbl W 48 W2);rw[hZ,show(((48:UInt8).toNat:Nat):Int)=48 from rfl] at lx;rw[World.size_alloc] at bG cj;have hcell:((w.alloc (.cells #[.int .i64 W] 127)).alloc (.cells (Array.replicate n (.string ⟨#[]⟩)) 9)).cell? ⟨w.heap.size,0,none⟩=some (.int .i64 W):=cq.cell 0;have Ha:=h_ ha;have Hv:=h_ (λ(v u:ByteArray) (hv:v∈l) (hu:u.size<=1099511627776) W2=>Zcu v u (ad v hv) hu W2);have cH:=h_ ad;have jX:=h_ fQ;have dy:=h_ cj;have Hn:=h_ hn;have eR:n=(mixL Z l).length:=(by rw[Z08];exact hn);have HS:=h_ (λ(W2:World) (B:Option Addr) (h:At W2 B (svs (mixL Z l)))=>Z0J h (Z9g ad Z) n n eR (by omega));have fJ:n=(ZF (mixL Z l)).length:=(by unfold ZF;rw[Vag];exact eR);have om:=XP (l:=mixL Z l) (by omega);have HE:=h_ (λW2 (B:Option Addr) (c:Nat) (h:At W2 B (svs (ZF (mixL Z l))))=>Ys h (λs hs=>by have:=om.2 s hs;omega) n c fJ (by omega));have cO:=Qf (l:=mixL Z l) (by omega);unfold codM;rw[hZ];unfold ERes at HE;rw[cO.2] at HE;generalize bs (enc (ZF (mixL Z l))).1=SR at*;generalize (w.alloc (.cells #[.int .i64 W] 127)).alloc (.cells (Array.replicate n (.string ⟨#[]⟩)) 9)=W0 at*;rw[jX.o] at dy;have Is:=h_ B6;clear ha ad hn cj fQ jX bO aB cq eR fJ om cO hZ B6;go_enter Tryz.func122,Tryz.ntmps122;go_wp2_with fail;refine(lx.o _).mono ?_;rintro x w1 ⟨rfl,ym⟩;have an:=h_ (a7.o.trans (ym.mono a7.o.size));have oo:=h_ (dy.o.below ym dy.o.lt);clear ym dy a7 bG hcell lx;go_wp2;go_loopw [7,20] (λs7 It wr=>∃j:Nat,j<=n/\It=.int .i64 (j:Int)/\s7=.string ((l.take j).getLastD Z)/\Hid (Bk wr (w.heap.size+1) 9 (svs (Z0M Z l j)).toArray)/\Hid (Below w.heap.size w wr)) (λ_ It _=>(n-intOf It).toNat);case atStart=>exact⟨0,Vat _,rfl,rfl,oo,an⟩
 case round=>
  clear an oo;obtain⟨j,hj,rfl,rfl,hk,hb⟩:=hrel;by_cases ab:j<n
  ·have cN:j<l.length:=(by rw[<-Hn.o];exact ab);obtain⟨b,o,rfl,cD,hc⟩:=Yb (Ha.o.below hb.o) j cN
   have kj:((l.take j).getLastD Z).size<=1099511627776:=by
    cases hp:(l.take j).getLast? with
    |none=>rw[List.getLastD_eq_getLast?,hp];have:=Is.o;show Z.size<=_;omega
    |some u=>
     rw[List.getLastD_eq_getLast?,hp];exact cH.o u (Vcd (List.mem_of_getLast? hp))
   have cI:=h_ (Hv.o l[j] ((l.take j).getLastD Z) (Vak _) kj);have aW:=h_ (Zcv Z l j cN);have hlen:=Zcw Z l j (by omega);have cw:l.take (j+1)=l.take j++[l[j]]:=Vac cN;obtain⟨S,hS⟩:∃S,l[j]=S:=⟨_,rfl⟩;rw[hS] at hc cI aW cw;have fk:=h_ (show S=(l.take (j+1)).getLastD Z by rw[cw,Z2Y]);have av:=h_ (show j<(Z0M Z l j).length by rw[hlen];exact cN);obtain⟨T,hT⟩:∃T,bs (mixV (toL S) (toL ((l.take j).getLastD Z))).1=T:=⟨_,rfl⟩;rw[hT] at cI aW;clear hS hT cN hlen cw kj;generalize ((mixV (toL S) (toL ((l.take j).getLastD Z))).2:Int)=E at*;generalize (l.take j).getLastD Z=U at*;have dp:(j:Int)<(n:Int):=(by omega);have gI:(0:Int)<=(j:Int):=(by omega);go_wp2_with fail;refine(cI.o _).mono ?_;rintro x w1 ⟨rfl,a7⟩;have aZ:=hk.o.below a7 hk.o.lt;have hcell:=aZ.cell j;rw[Vbe,Yr _ _ av.o] at hcell;have fi:=aZ.frozen j;have aj:=Z1Z aZ j T;rw[aW.o] at aj;have aA:=h_ aj;have an:=h_ ((hb.o.trans (a7.mono hb.o.size)).setCell (p:=⟨w.heap.size+1,j,none⟩) (by simp) (.string T));generalize (Z0M Z l j)[j]=OLD at*;clear a7 cI hb hk aZ aj aW av;go_wp2;refine⟨⟨j+1,ab,by go_num,by rw[<-fk.o],aA,an⟩,?_⟩;simp[intOf]<;>omega
  ·have iB:j=n:=(by omega);have aZ:=hk.o;rw[iB,Hn.o,Zcx] at aZ;have ak:=aZ.at_;rw[Vcl] at ak;have B7:=h_ (HS.o wr _ ak);clear aZ hk Hv ak HS;generalize (l.take j).getLastD Z=U at*;go_wp2_with fail;refine(B7.o).mono ?_;rintro x w2 ⟨g,rfl,dm,Td,bL,a8⟩;have aS:=hb.o.trans (a8.mono hb.o.size);have rl:=h_ (HE.o w2 _ n bL);clear a8 hb B7 HE bL;go_wp2_with fail;refine(rl.o).mono ?_;rintro x w3 ⟨rfl,af⟩;have oa:=aS.trans (af.mono aS.size);clear af aS rl;go_wp2;go_returns;exact⟨rfl,oa⟩
theorem Z20 {l:List ByteArray} {N:Nat} (h:∀s∈l,s.size<=N):∀last,∀s∈Y4 last l,s.size<=N:=by
 induction l with
 |nil=>intro last s hs;cases hs
 |cons v r ih=>
  intro last s hs;rcases Vba.1 hs with rfl|hs
  ·rw[Z0];have:=Z7X (toL v) (toL last);rw[Z1] at this;exact Vaq this (h v Vap)
  ·exact ih (λx hx=>h x (Var _ hx)) _ s hs
def Z15 (last:ByteArray) (l:List ByteArray) (j:Nat):List ByteArray:=Y4 last (l.take j)++l.drop j
theorem Zcy (last:ByteArray) (l:List ByteArray) (j:Nat) (h:j<l.length):(Z15 last l j).set j (bs (mixV (toL l[j]) (toL ((Y4 last (l.take j)).getLastD last))).1)=Z15 last l (j+1):=by
 unfold Z15;rw[Va4 h,Zct (by rw[Xz,Vau];omega),<-Z0L,<-Vac h]
theorem Zcz (last:ByteArray) (l:List ByteArray) (j:Nat) (h:j<=l.length):(Z15 last l j).length=l.length:=by
 unfold Z15;rw[Vab,Xz,Vau,Va2];omega
theorem ZfK (last:ByteArray) (l:List ByteArray) (j:Nat) (h:j<l.length):(svs (Z15 last l j))[j]? =some (.string l[j]):=by
 unfold Z15 svs;rw[Vbb,Vbc (by rw[Xz,Vau];omega),Xz,Vau,show j-min j l.length=0 by omega,List.getElem?_drop,Vb3,Van h];rfl
theorem ZcA (last:ByteArray) (l:List ByteArray):Z15 last l l.length=Y4 last l:=by
 unfold Z15;rw[Vbx,Vcm,Va3]
theorem Zkr (last:ByteArray) (l:List ByteArray) (j:Nat) (h:j<l.length):(Y4 last (l.take (j+1))).getLastD last=bs (mixV (toL l[j]) (toL ((Y4 last (l.take j)).getLastD last))).1:=by
 rw[Vac h,Z0L,Z2Y]
theorem Z6y {last:ByteArray} {l:List ByteArray} {N:Nat} (h:∀s∈l,s.size<=N) (h2:last.size<=N) (j:Nat):((Y4 last (l.take j)).getLastD last).size<=N:=by
 rw[List.getLastD_eq_getLast?];cases hp:(Y4 last (l.take j)).getLast? with
 |none=>exact h2
 |some u=>exact Z20 (λs hs=>h s (Vcd hs)) last u (List.mem_of_getLast? hp)
theorem Qh {W:Int} {s:List UInt8} {r:List ByteArray} (h:Xn W s=some r):(∀v∈r,v.size<=128)/\r.length<=4096:=by
 unfold Xn at h;split at h
 ·cases h
 ·obtain⟨h1,h2⟩:=Z0A h;refine⟨λv hv=> ?_,?_⟩
  ·have:=(Zv.1 (ZM.1 (h1 v hv)).1).2.2;rw[Z1] at this;exact this
  ·rw[h2];rcases Qw s 4096 with (h|h)|⟨l,h,_,_,_,h4⟩
   ·rw[h];exact Vat _
   ·rw[h];exact Vat _
   ·rw[h];exact h4
theorem Z9i {w:World} {b:Nat} {s:ByteArray} (h:RV w b s 0) (hs:s.size<=1000000000) (W:Int):
  Calls Tryz.prog 158 #[.agg #[.int .i64 W],.pointer (some ⟨b,0,none⟩)] w λx w'=>RdrR b w ((Xn W (toL s)).map (Y4 (bs (allV W 48)))) x w':=by
 have ab:=Bk.lt h;have bO:=Bk.new w 127 #[.int .i64 W];have aB:=Zy w (.cells #[.int .i64 W] 127);have h0:RV (w.alloc (.cells #[.int .i64 W] 127)) b s 0:=Bk.alloc h _;have HW:=h_ (Z2X h0 hs W);have lx:=h_ (λW2=>Zbl W 48 W2);obtain⟨Z,hZ⟩:∃Z,bs (allV W 48)=Z:=⟨_,rfl⟩;have B6:Z.size<=128:=(by rw[<-hZ,Z0];exact Z7Y W 48);rw[hZ,show(((48:UInt8).toNat:Nat):Int)=48 from rfl] at lx;rw[hZ];have vY:(w.alloc (.cells #[.int .i64 W] 127)).cell? ⟨w.heap.size,0,none⟩=some (.int .i64 W):=bO.cell 0;have FG:=λr=>Qh (W:=W) (s:=toL s) (r:=r);generalize Xn W (toL s)=O at*;have HR:=h_ (rfl:O.map (Y4 Z)=O.map (Y4 Z));obtain⟨R,hR⟩:∃R,O.map (Y4 Z)=R:=⟨_,rfl⟩;rw[hR];have HR:=h_ hR;have iY:=h_ bO;have aL:=h_ aB;have Is:=h_ B6;have MY:=h_ FG;have je:=h_ ab;have Ed:(w.alloc (.cells #[.int .i64 W] 127)).heap.size=w.heap.size+1:=World.size_alloc _ _;have MZ:=h_ Ed;clear h0 hs h bO aB hR hZ B6 FG ab Ed;go_enter Tryz.func158,Tryz.ntmps158;go_wp2_with fail;refine(HW.o).mono ?_;rintro x w1 ⟨aC,hx⟩;have cP:=h_ ((Fr.of_below (S:=only b) aL.o).trans aC)
 have cq:=iY.o.fr aC (by
  have:=je.o;unfold only;omega)
 have qg:w1.cell? ⟨w.heap.size,0,none⟩=some (.int .i64 W):=cq.cell 0;clear HW aC vY iY aL;cases O with
 |none=>
  obtain⟨A,rfl⟩:=hx;have aN:=h_ (show R=none from HR.o.symm);clear cq HR;go_wp2_with fail;refine(lx.o _).mono ?_;rintro x w2 ⟨rfl,a8⟩;have cl:=h_ (cP.o.below a8);clear a8 qg;go_wp2;go_loopw [22] (λvZ wr=>vZ=.int .i64 0/\Hid (Fr (only b) w wr)) (λ_ _=>0);case atStart=>exact⟨rfl,cl⟩
  case round=>
   clear cl;obtain⟨rfl,hf⟩:=hrel;go_wp2;go_returns;refine⟨hf.o,?_⟩;rw[aN.o];exact⟨_,rfl⟩
 |some r=>
  obtain⟨g,rfl,hg,hk⟩:=hx;have aN:=h_ (show R=some (Y4 Z r) from HR.o.symm);have Hg:=h_ (show w.heap.size+1<=g by have:=MZ.o;omega);have ad:=MY.o r rfl;have Hk:=h_ hk;have cH:=h_ ad.1;have gO:=ad.2;have Hv:=h_ (λ(v u:ByteArray) (hv:v∈r) (hu:u.size<=128) W2=>Zcu v u (by have:=ad.1 v hv;omega) (by omega) W2);obtain⟨n,hn⟩:∃n,r.length=n:=⟨_,rfl⟩;have Hn:=h_ hn;rw[hn] at gO⊢;clear cq HR hg hk MY MZ ad hn;go_wp2_with fail;refine(lx.o _).mono ?_;rintro x w2 ⟨rfl,a8⟩;have cl:=h_ (cP.o.below a8);have oo:=h_ (Hk.o.below a8 Hk.o.lt);clear a8 qg Hk cP lx;go_wp2;go_loopw [8,22] (λs8 vZ wr=>∃j:Nat,j<=n/\vZ=.int .i64 (j:Int)/\s8=.string ((Y4 Z (r.take j)).getLastD Z)/\Hid (Bk wr g 9 (svs (Z15 Z r j)).toArray)/\Hid (Fr (only b) w wr)) (λ_ vZ _=>(n-intOf vZ).toNat);case atStart=>exact⟨0,Vat _,rfl,rfl,oo,cl⟩
  case round=>
   clear cl oo;obtain⟨j,hj,rfl,rfl,hk,hf⟩:=hrel;by_cases ab:j<n
   ·have cN:j<r.length:=(by rw[Hn.o];exact ab);have hc:=hk.o.cell j;rw[Vbe,ZfK Z r j cN] at hc;have kj:=Z6y (l:=r) cH.o Is.o j;have cI:=h_ (Hv.o r[j] _ (Vak _) kj);have aW:=h_ (Zcy Z r j cN);have hlen:=Zcz Z r j (by omega);have fk:=h_ (Zkr Z r j cN);obtain⟨S,hS⟩:∃S,r[j]=S:=⟨_,rfl⟩;rw[hS] at hc cI aW fk;have av:=h_ (show j<(Z15 Z r j).length by rw[hlen];exact cN);obtain⟨T,hT⟩:∃T,bs (mixV (toL S) (toL ((Y4 Z (r.take j)).getLastD Z))).1=T:=⟨_,rfl⟩;rw[hT] at cI aW fk;clear hS hT cN hlen kj;generalize ((mixV (toL S) (toL ((Y4 Z (r.take j)).getLastD Z))).2:Int)=E at*;generalize (Y4 Z (r.take j)).getLastD Z=U at*;have dp:(j:Int)<(n:Int):=(by omega);have gI:(0:Int)<=(j:Int):=(by omega);go_wp2_with fail;refine(cI.o _).mono ?_;rintro x w1 ⟨rfl,a7⟩;have aZ:=hk.o.below a7 hk.o.lt;have hcell:=aZ.cell j;rw[Vbe,Yr _ _ av.o] at hcell;have fi:=aZ.frozen j;have aj:=Z1Z aZ j T;rw[aW.o] at aj;have aA:=h_ aj
    have Iu:(w1.setCell ⟨g,j,none⟩ (.string T)).cell? ⟨g,j,none⟩=some (.string T):=by
     rw[aj.cell j,<-aW.o,Vbe];unfold svs;rw[Vbb,List.getElem?_set_self av.o];rfl
    have cl:=h_ ((hf.o.below a7).setCell (p:=⟨g,j,none⟩) (.inr (by have:=Hg.o;simp only;omega)) (.string T));generalize (Z15 Z r j)[j]=OLD at*;clear a7 cI hf hk aZ aj aW av;go_wp2;refine⟨⟨j+1,ab,by go_num,by rw[fk.o],aA,cl⟩,?_⟩;simp[intOf]<;>omega
   ·have iB:j=n:=(by omega);have aZ:=hk.o;rw[iB,<-Hn.o,ZcA] at aZ;have fo:=h_ aZ;have Hl:=h_ (show(Y4 Z r).length=n by rw[Xz,Hn.o]);clear aZ hk Hv;generalize (Y4 Z (r.take j)).getLastD Z=U at*;go_wp2;go_returns;refine⟨hf.o,?_⟩;rw[aN.o];exact⟨g,by rw[Hl.o];rfl,by have:=Hg.o;omega,fo.o⟩
theorem YH (a:List Int) (x:Int):ivs (a++[x])=ivs a++[.int .i64 x]:=by simp[ivs,iv]
theorem ZcB (a b:ByteArray) (ha:a.size<=1099511627776) (hb:b.size<=1099511627776) (W:World):
  Calls Tryz.prog 207 #[.string a,.string b] W λx w'=>x=.returned (.tuple #[.string (bs (addV (toL a) (toL b)).1),.bool (addV (toL a) (toL b)).2])/\Below W.heap.size W w':=by
 have:=ZeQ (toL a) (toL b) (by rw[Z1];exact ha) (by rw[Z1];exact hb) W;rw[Zc,Zc] at this;exact this
theorem getD_at {l:List ByteArray} {i:Nat} (h:i<l.length):l.getD i default=l[i]:=by
 rw[Vbn,Van h];rfl
theorem ZfL {w:World} {A:Option Addr} {l:List ByteArray} (ha:At w A (svs l)) (ad:∀s∈l,s.size<=1099511627776) (n cap:Nat) (hn:n=l.length) (hm:n<=4096) (st:ByteArray) (aQ:st.size<=1099511627776):
  Calls Tryz.prog 168 #[.slice A n cap,.string st] w λx w'=>∃v,x=.returned v/\IRes w' v (exI l st)/\Below w.heap.size w w':=by
 have Ha:=h_ ha;have Hn:=h_ hn;have Hv:=h_ (λ(v:ByteArray) (hv:v∈l) W2=>ZcB v st (ad v hv) aQ W2);have kl:=h_ (Zk (w:=w) (base:=w.heap.size) (e:=3) (size:=1));have aB:=h_ (Vae w.heap.size w);clear ha hn ad aQ;go_enter Tryz.func168,Tryz.ntmps168;go_wp2;go_loopw [5,6] (λs5 s6 wr=>∃k:Nat,(k=0\/k+1<=n)/\s6=.int .i64 ((k:Int)+1)/\Hid (wr.ownsRow w.heap.size 3 1 s5 (exP l st k).length (ivs (exP l st k)))/\Hid (Below w.heap.size w wr)) (λ_ s6 _=>(n-intOf s6).toNat);case atStart=>exact⟨0,.inl rfl,rfl,kl,aB⟩
 case round=>
  clear kl aB;obtain⟨k,hk,rfl,aa,hb⟩:=hrel;obtain⟨A5,M5,aY,rfl⟩:=Zd aa.o;by_cases ab:k+1<n
  ·have bu:k+1<l.length:=(by rw[<-Hn.o];exact ab);have mw:k<l.length:=(by omega);obtain⟨b,o,rfl,cD,hc⟩:=Yb (Ha.o.below hb.o) k mw
   have Ba:∀W2,Below wr.heap.size wr W2->W2.cell? ⟨b,o+(k+1),none⟩=some (.string l[k+1]):=λW2 hW=>by
    obtain⟨b2,o2,he,_,dI⟩:=Yb ((Ha.o.below hb.o).mono UZz hW) (k+1) bu;injection he with he;injection he with h1 h2;subst h1;subst h2;exact dI
   have fL:=h_ Ba;have cI:=h_ (Hv.o l[k] (Vak _))
   have bH:okA l st k=decide (addV (toL l[k]) (toL st)=(toL l[k+1],true)):=by
    unfold okA;rw[getD_at mw,getD_at bu]
   have oq:=ZeF l st k;have hle:=Z61 l st k;obtain⟨S0,oj⟩:∃S,l[k]=S:=⟨_,rfl⟩;obtain⟨S1,mo⟩:∃S,l[k+1]=S:=⟨_,rfl⟩;rw[oj] at hc cI bH;rw[mo] at fL bH;obtain⟨⟨r,q⟩,hr⟩:∃r,addV (toL S0) (toL st)=r:=⟨_,rfl⟩;rw[hr] at cI bH;simp only at cI
   have ju:okA l st k=(q&&decide (bs r=S1)):=by
    rw[bH,Vbl,Va1,Vas,Vas,Prod.mk.injEq];constructor
    ·rintro⟨h1,h2⟩;exact⟨h2,by rw[h1,Zc]⟩
    ·rintro⟨h1,h2⟩;exact⟨by rw[<-h2,Ze],h1⟩
   have u7:=h_ ju;have Bb:=h_ oq
   have cF:∀X:ByteArray,bs r=X->(if q=true/\X=S1 then exP l st (k+1)=exP l st k else exP l st (k+1)=exP l st k++[(k:Int)+1]):=λX hX=>by
    subst hX;rw[Bb.o,u7.o];by_cases hq:q=true
    ·by_cases hx:bs r=S1
     ·rw[Vaf ⟨hq,hx⟩,hq,Vao hx];rfl
     ·rw[Vad (λh=>hx h.2),Vai hx,Bool.and_false,Vad (by simp)]
    ·rw[Vad (λh=>hq h.1),Vad (by simp[hq])]
   obtain⟨X,hX⟩:∃X,bs r=X:=⟨_,rfl⟩;have rf:=h_ (cF X hX);rw[hX] at cI;have ly:(exP l st k).length+1<=4096:=(by omega);have dX:=h_ ly;have i1:IntKind.i64.wrap ((k:Int)+1-1)=(k:Int):=(by rw[IntWalk.i64_in _ (by omega)];omega);have cj:(0:Int)<=(k:Int):=(by omega);have aZ:(k:Int)<(n:Int):=(by omega);have cL:(k:Int)+1<(n:Int):=(by omega);have e1:(k:Int)+1-1=(k:Int):=(by omega);clear bu mw oj mo hr bH ju cF hX oq hle u7 Bb ly Ba;go_wp2_with fail;refine(cI.o _).mono ?_;rintro x w1 ⟨rfl,a7⟩;have cq:=fL.o w1 a7
   have wh:w1.cell? ⟨b,o+((k:Int)+1).toNat,none⟩=some (.string S1):=by
    rw[show((k:Int)+1).toNat=k+1 by omega];exact cq
   have e2:((k:Int)+1).toNat=k+1:=(by omega);have ah:=Zn aa.o (Fr.of_below (S:=nob) a7) (λ_ _ f=>f);have ao:=h_ (hb.o.trans (a7.mono hb.o.size));obtain⟨v',w4,ag,ae,aF,_⟩:=Yq (P:=Tryz.prog) 31 3 _ _ Tryz.underlying31 ZQ rfl (w:=w1) ah ao.o ao.o.size (.int .i64 ((k:Int)+1)) rfl (by have:=dX.o;unfold maxLen;omega) (by have:=dX.o;omega);have aq:=h_ ag;have aw:=h_ ae;have cE:=h_ aF;have aI:=h_ ah;clear a7 cI aa hb hc fL ag ae aF ah;cases q with
   |false=>
    have ie:=h_ (show exP l st (k+1)=exP l st k++[(k:Int)+1] by
     have:=rf.o
     rwa [Vad (by simp)] at this)
    have fl:=h_ (show w4.ownsRow w.heap.size 3 1 v' (exP l st (k+1)).length (ivs (exP l st (k+1))) by
     rw[ie.o,YH,Vab];exact aw.o)
    clear aI aw ie cq wh rf
    go_wp2_with (
     at_builtin;refine Z3 (by with_reducible rfl) rfl _ _ _ rfl _ _ (by rfl) (by rfl) aq.o ?_)
    refine⟨⟨k+1,.inr ab,by go_num,fl,cE⟩,?_⟩;simp[intOf]<;>omega
   |true=>
    by_cases hx:X=S1
    ·have ie:=h_ (show exP l st (k+1)=exP l st k by
      have:=rf.o
      rwa [Vaf ⟨rfl,hx⟩] at this)
     have az:(X.toList !=S1.toList)=false:=(by rw[Z2Q,hx];simp);have heq:(X.toList==S1.toList)=true:=(by rw[QG,hx];simp)
     have fl:=h_ (show w1.ownsRow w.heap.size 3 1 (.slice A5 M5 aY) (exP l st (k+1)).length (ivs (exP l st (k+1))) by
      rw[ie.o];exact aI.o)
     clear aI aw ie wh rf aq cE hx;go_wp2;refine⟨⟨k+1,.inr ab,by go_num,fl,ao⟩,?_⟩;simp[intOf]<;>omega
    ·have ie:=h_ (show exP l st (k+1)=exP l st k++[(k:Int)+1] by
      have:=rf.o
      rwa [Vad (λh=>hx h.2)] at this)
     have az:(X.toList !=S1.toList)=true:=(by rw[Z2Q,Vai hx];rfl);have heq:(X.toList==S1.toList)=false:=(by rw[QG,Vai hx]);have N0:=aq
     have fl:=h_ (show w4.ownsRow w.heap.size 3 1 v' (exP l st (k+1)).length (ivs (exP l st (k+1))) by
      rw[ie.o,YH,Vab];exact aw.o)
     clear aI aw ie wh rf hx
     go_wp2_with (
      at_builtin;refine Z3 (by with_reducible rfl) rfl _ _ _ rfl _ _ (by rfl) (by rfl) aq.o ?_)
     refine⟨⟨k+1,.inr ab,by go_num,fl,cE⟩,?_⟩;simp[intOf]<;>omega
  ·have eH:n-1=k:=(by omega);have bQ:¬(k:Int)+1<(n:Int):=(by omega)
   have aG:Hid (IRes wr (.slice A5 M5 aY) (exI l st)):=h_ (by
    obtain⟨A6,iJ,hv,ak⟩:=Zl aa.o;unfold exI;rw[<-Hn.o,eH];exact⟨A6,iJ,hv,ak⟩)
   clear aa eH Hv;go_wp2;go_returns;exact⟨_,rfl,aG.o,hb.o⟩
end Go.Proofs.YtchokmkfobandaaGreatDoor
namespace Wv
open Go Go.RowKit Wv.Ru
open Classical in
noncomputable def lk (l:List MapEntry) (k:Value):Option Value:=(l.find? (λe=>decide (e.key=k))).map (·.val)
theorem XS {e:MapEntry} {t:List MapEntry} {k:Value} (h:e.key=k):lk (e::t) k=some e.val:=by
 unfold lk;rw[List.find?_cons_of_pos (by simpa using h)];rfl
theorem Yt {e:MapEntry} {t:List MapEntry} {k:Value} (h:e.key≠k):lk (e::t) k=lk t k:=by
 unfold lk;rw[List.find?_cons_of_neg (by simpa using h)]
theorem Z3Y {d:TypeDesc} {k:Value} (hk:MapKept.IsKey d k):∀(l:List MapEntry) (i:Nat),(∀x∈l,MapKept.IsKey d x.key)->
  (Instr.findNow d k l i=some none/\lk l k=none)\/∃j v,Instr.findNow d k l i=some (some (i+j,v))/\lk l k=some v/\(∃e,l[j]? =some e/\e.key=k)/\
   ∀u,lk (l.modify j λe=> { e with key:=k,val:=u }) k=some u/\∀k',k'≠k->lk (l.modify j λe=> { e with key:=k,val:=u }) k'=lk l k'
 |[],i,_=>.inl ⟨rfl,rfl⟩
 |e::t,i,h=>by
  obtain⟨r,hr,pn⟩:=MapKept.sameNow_of_keys hk (h e (.head _));cases r with
  |true=>
   have he:=pn.1 rfl;refine .inr ⟨0,e.val,by simp[Instr.findNow,hr],XS he.symm,⟨e,rfl,he.symm⟩,λu=>⟨?_,λk' tZ=> ?_⟩⟩
   ·show lk ({ e with key:=k,val:=u } ::t) k=_;rw[XS rfl]
   ·show lk ({ e with key:=k,val:=u } ::t) k'=_;rw[Yt (λh=>tZ h.symm),Yt (λh=>tZ (by rw[<-h,<-he]))]
  |false=>
   have az:e.key≠k:=λq=>(by have:=pn.2 q.symm;cases this);rcases Z3Y hk t (i+1) (λx hx=>h x (.tail _ hx)) with ⟨h1,h2⟩|⟨j,v,h1,h2,⟨e',h3,h4⟩,h5⟩
   ·exact .inl ⟨by simp[Instr.findNow,hr,h1],by rw[Yt az,h2]⟩
   ·refine .inr ⟨j+1,v,by simp[Instr.findNow,hr,h1];omega,by rw[Yt az,h2],⟨e',by simpa using h3,h4⟩,λu=>⟨?_,λk' tZ=> ?_⟩⟩
    ·show lk (e::t.modify j _) k=_;rw[Yt az];exact(h5 u).1
    ·show lk (e::t.modify j _) k'=_;by_cases h6:e.key=k'
     ·rw[XS h6,XS h6]
     ·rw[Yt h6,Yt h6];exact(h5 u).2 k' tZ
theorem ZcC (l:List MapEntry) (e:MapEntry) (h:lk l e.key=none):lk (l++[e]) e.key=some e.val/\∀k,k≠e.key->lk (l++[e]) k=lk l k:=by
 induction l with
 |nil=>exact⟨XS rfl,λk hk=>Yt (λh=>hk h.symm)⟩
 |cons a t ih=>
  by_cases ha:a.key=e.key
  ·rw[XS ha] at h;cases h
  ·rw[Yt ha] at h;obtain⟨i1,i2⟩:=ih h;refine⟨?_,λk hk=> ?_⟩
   ·rw[Vbs,Yt ha,i1]
   ·rw[Vbs];by_cases h2:a.key=k
    ·rw[XS h2,XS h2]
    ·rw[Yt h2,Yt h2,i2 k hk]
def MpV (d:TypeDesc) (w:World) (b:Nat) (M:Value->Option Value):Prop:=∃es clock,w.heap[b]? =some (.map es clock)/\(∀x∈es.toList,MapKept.IsKey d x.key)/\∀k,MapKept.IsKey d k->lk es.toList k=M k
section
variable {P:Program} {d:TypeDesc} {w w':World} {b:Nat} {M:Value->Option Value} {t kt et:TypeId}
theorem MpV.lt (h:MpV d w b M):b<w.heap.size:=by
 obtain⟨es,c,h1,_⟩:=h;exact(Array.getElem?_eq_some_iff.1 h1).1
theorem MpV.of (h:MpV d w b M) (he:w'.heap[b]? =w.heap[b]?):MpV d w' b M:=by
 obtain⟨es,c,h1,h2⟩:=h;exact⟨es,c,he.trans h1,h2⟩
theorem MpV.below {B:Nat} (h:MpV d w b M) (hb:Below B w w') (hB:b<B):MpV d w' b M:=h.of (hb.block b hB)
theorem MpV.fr {S:Nat->Prop} (h:MpV d w b M) (hf:Fr S w w') (hS:¬S b):MpV d w' b M:=h.of (hf.block b h.lt hS)
theorem MpV.alloc (h:MpV d w b M) (o:Obj):MpV d (w.alloc o) b M:=h.of (Below.heap_alloc w o b h.lt)
theorem MpV.new (d:TypeDesc) (w:World):MpV d (w.alloc (.map #[] 0)) w.heap.size (λ_=>none):=⟨#[],0,heap_alloc_new w _,(λx hx=>by simp at hx),λk _=>rfl⟩
theorem MpV.get (ht:P.underlying t=some (.map kt et)) (hd:P.underlying kt=some d) (h:MpV d w b M) (k v:Value) (hk:MapKept.IsKey d k) (hv:M k=some v):
  (Instr.lookup t (.map (some b)) k false).run P w=.ok v w/\(Instr.lookup t (.map (some b)) k true).run P w=.ok (.tuple #[v,.bool true]) w:=by
 obtain⟨es,c,h1,h2,h3⟩:=h;have ck:=λe=>MapKept.run_checkKey (w:=w) hd hk e 9999;rcases Z3Y hk es.toList 0 h2 with ⟨f1,f2⟩|⟨j,v',f1,f2,_,_⟩
 ·rw[h3 k hk,hv] at f2;cases f2
 ·rw[h3 k hk,hv] at f2;injection f2 with f2;subst f2;constructor
  ·unfold Instr.lookup;simp only[Sem.run_bind,Sem.run_pure,run_underlying ht,Result.andThen_ok,MapKept.run_getObj_map h1,ck,MapKept.run_findKey hd f1];rfl
  ·unfold Instr.lookup;simp only[Sem.run_bind,Sem.run_pure,run_underlying ht,Result.andThen_ok,MapKept.run_getObj_map h1,ck,MapKept.run_findKey hd f1];rfl
theorem MpV.miss (ht:P.underlying t=some (.map kt et)) (hd:P.underlying kt=some d) (h:MpV d w b M) (k z:Value) (hk:MapKept.IsKey d k) (hv:M k=none) (hz:(zeroValue et).run P w=.ok z w):
  (Instr.lookup t (.map (some b)) k false).run P w=.ok z w/\(Instr.lookup t (.map (some b)) k true).run P w=.ok (.tuple #[z,.bool false]) w:=by
 obtain⟨es,c,h1,h2,h3⟩:=h;have ck:=λe=>MapKept.run_checkKey (w:=w) hd hk e 9999;rcases Z3Y hk es.toList 0 h2 with ⟨f1,f2⟩|⟨j,v',f1,f2,_,_⟩
 ·constructor
  ·unfold Instr.lookup;simp only[Sem.run_bind,Sem.run_pure,run_underlying ht,Result.andThen_ok,MapKept.run_getObj_map h1,ck,MapKept.run_findKey hd f1,hz];rfl
  ·unfold Instr.lookup;simp only[Sem.run_bind,Sem.run_pure,run_underlying ht,Result.andThen_ok,MapKept.run_getObj_map h1,ck,MapKept.run_findKey hd f1,hz];rfl
 ·rw[h3 k hk,hv] at f2;cases f2
theorem MpV.put (ht:P.underlying t=some (.map kt et)) (hd:P.underlying kt=some d) (h:MpV d w b M) (k v:Value) (hk:MapKept.IsKey d k):
  ∃w',(Instr.mapUpdate t (.map (some b)) k v).run P w=.ok () w'/\(∀M',M' k=some v->(∀x,x≠k->M' x=M x)->MpV d w' b M')/\Fr (λj=>j=b) w w'/\w'.heap.size=w.heap.size:=by
 have ab:=h.lt;obtain⟨es,c,h1,h2,h3⟩:=h;have ck:=MapKept.run_checkKey (w:=w) hd hk false 9999
 have fa:∀o,Fr (λj=>j=b) w { w with heap:=w.heap.setIfInBounds b o } :=λo=>⟨rfl,rfl,rfl,by simp,λr hr hn=>by
  have:b≠r:=λe=>hn e.symm;simp[this]⟩
 rcases Z3Y hk es.toList 0 h2 with ⟨f1,f2⟩|⟨j,v',f1,f2,⟨e,f3,f4⟩,f5⟩
 ·refine⟨{ w with heap:=w.heap.setIfInBounds b (.map (es.push { key:=k,val:=v,born:=c }) (c+1)) },?_,λM' Iv sF=> ?_,fa _,by simp⟩
  ·unfold Instr.mapUpdate;simp only[Sem.run_bind,run_underlying ht,Result.andThen_ok,MapKept.run_getObj_map h1,ck,MapKept.run_findKey hd f1,MapKept.run_setObj_map _ h1]
  ·refine⟨_,_,(MapKept.heap_set h1).1,?_,?_⟩
   ·intro x hx;rw[Array.toList_push,Va9,Vax] at hx;rcases hx with hx|rfl
    ·exact h2 x hx
    ·exact hk
   ·intro x hx;rw[Array.toList_push];by_cases wj:x=k
    ·subst wj;rw[Iv];exact(ZcC _ { key:=x,val:=v,born:=c } f2).1
    ·rw[sF x wj,<-h3 x hx];exact(ZcC _ { key:=k,val:=v,born:=c } f2).2 x wj
 ·have hj:es[j]? =some e:=(by simpa using f3);refine⟨{ w with heap:=w.heap.setIfInBounds b (.map (es.modify j λe=> { e with key:=k,val:=v }) c) },?_,λM' Iv sF=> ?_,fa _,by simp⟩
  ·simp[Instr.mapUpdate,run_underlying ht,MapKept.run_getObj_map h1,ck,MapKept.run_findKey hd f1,hj,f4,MapKept.run_keyThatStays hk,MapKept.run_setObj_map _ h1,Result.andThen]
  ·refine⟨_,_,(MapKept.heap_set h1).1,?_,?_⟩
   ·exact MapKept.isKey_modify h2 _ _ (λe' N6=>by rw[hj] at N6;cases N6;exact f4.symm)
   ·intro x hx;rw[Array.toList_modify];by_cases wj:x=k
    ·subst wj;rw[Iv];exact(f5 v).1
    ·rw[sF x wj,<-h3 x hx];exact(f5 v).2 x wj
end
end Wv
