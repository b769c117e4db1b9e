import Derived.Test.YtchokmkfobandaaGreatDoorM24
import Derived.Test.YtchokmkfobandaaGreatDoorM20
set_option linter.unusedVariables false
set_option linter.unusedSimpArgs false
set_option maxRecDepth 100000
set_option maxHeartbeats 8000000
namespace Go.Proofs.YtchokmkfobandaaGreatDoor
open Go.RowKit Go.Proofs Wv Wv.Vi Wv.Rc Wv.Mo Wv.Ru Wv.Bc
def RdrR (b:Nat) (w:World) (o:Option (List ByteArray)) (x:Ending) (w':World):Prop:=Fr (only b) w w'/\match o with
 |none=>∃A,x=.returned (.tuple #[.slice A 0 0,.bool false])
 |some r=>∃g,x=.returned (.tuple #[.slice (some ⟨g,0,none⟩) r.length r.length,.bool true])/\w.heap.size<=g/\Bk w' g 9 (svs r).toArray
theorem Z0q (s:ByteArray):ZB s 0 (s.size:Int)=(s,bs [],0):=by
 unfold ZB;rw[Vaf rfl,Vad (by omega),Vad (by omega),Vav,Vai (by rw[Z1];exact UZz),Vbb (by rw[Z1];exact UZz),Za]
theorem Z34 {w:World} {b:Nat} {s:ByteArray} (h:RV w b s 0) (hs:s.size<=1000000000) (W:Int):
  Calls Tryz.prog 159 #[.agg #[.int .i64 W],.pointer (some ⟨b,0,none⟩)] w λx w'=>RdrR b w (Xm W (toL s)) x w':=by
 have ab:=Bk.lt h;have bP:=Bk.new w 127 #[.int .i64 W];have aD:=Zx w (.cells #[.int .i64 W] 127);have h0:RV (w.alloc (.cells #[.int .i64 W] 127)) b s 0:=Bk.alloc h _;have HL:=h_ (Zt h0 (by omega));have HT:=h_ (Zu h0 (by omega) (s.size:Int));rw[Z0q] at HT;have HD:=h_ (λW2=>Qx (w:=W2) s hs 4096)
 have ey:((dec (toL s) 4096).2≠0/\(dec (toL s) 4096).1=[])\/((dec (toL s) 4096).2=0/\(∀t∈(dec (toL s) 4096).1,t.size<=128)/\(dec (toL s) 4096).1.length<=4096):=by
  rcases Xw (toL s) 4096 with (h|h)|⟨l,h,he,hr,qj,el⟩
  ·rw[h];exact .inl ⟨by simp,rfl⟩
  ·rw[h];exact .inl ⟨by simp,rfl⟩
  ·rw[h];exact .inr ⟨rfl,qj,by simpa using el⟩
 have fu:Xm W (toL s)=if(dec (toL s) 4096).2≠0 then none else extL W (dec (toL s) 4096).1:=rfl
 rw[fu];generalize dec (toL s) 4096=D at*;obtain⟨tl,e⟩:=D;simp only at ey⊢;clear fu
 have ad:(∀t∈tl,t.size<=1099511627776)/\tl.length<=1099511627776:=by
  rcases ey with ⟨_,h2⟩|⟨_,h2,h3⟩
  ·rw[h2];exact⟨λt ht=>(by cases ht),Var _⟩
  ·exact⟨λt ht=>by have:=h2 t ht;omega,by omega⟩
 have HG:=h_ (λW2 (A:Option Addr) (cap:Nat) (an:At W2 A (svs tl))=>Z0m an ad.1 tl.length cap rfl ad.2 W);have iR:=h_ bP;have aP:=h_ aD;have vV:=h_ ey;have iW:=h_ ab;have H:=h_ h;obtain⟨R,hR⟩:∃R,(if e≠0 then none else extL W tl)=R:=⟨_,rfl⟩;rw[hR];have HR:=h_ hR;clear h0 hs h bP aD ey ad ab hR;go_enter Tryz.func159,Tryz.ntmps159;go_wp2_with fail;refine(HL.o).mono ?_;rintro x w1 ⟨rfl,rfl⟩;clear HL;go_wp2_with fail;refine(HT.o).mono ?_;rintro x w1 ⟨rfl,Ir,aC⟩;clear HT;have cS:=h_ ((Fr.of_below (S:=only b) aP.o).trans aC)
 have fL:=h_ (iR.o.fr aC (by
  have:=iW.o;unfold only;omega))
 clear aC Ir;have Ar:=h_ (HD.o w1);clear HD;go_wp2_with fail;refine(Ar.o).mono ?_;rintro x w2 ⟨v,rfl,⟨A,cap,rfl,an⟩,a8⟩;have cl:=h_ (cS.o.below a8);have il:=h_ (fL.o.below a8 fL.o.lt);have gV:=h_ (HG.o w2 A cap an);have hcell:w2.cell? ⟨w.heap.size,0,none⟩=some (.int .i64 W):=il.o.cell 0;clear cS fL Ar HG an a8 aP iR;go_wp2_with fail;refine(gV.o).mono ?_;rintro x w3 ⟨af,hx⟩;have gM:=h_ (cl.o.below af);have FP:=h_ cl.o.size;clear af cl il gV;cases ho:extL W tl with
 |none=>
  rw[ho] at hx;obtain⟨A2,rfl⟩:=hx;have aQ:=h_ (show R=none by rw[<-HR.o,ho];split<;>rfl);clear hcell;go_wp2;go_returns;refine⟨gM.o,?_⟩;rw[aQ.o];exact⟨_,rfl⟩
 |some r=>
  rw[ho] at hx;obtain⟨g,rfl,hg,hk⟩:=hx;have Hk:=h_ hk;by_cases he:e=0
  ·have Hg:=h_ hg;have aQ:=h_ (show R=some r by rw[<-HR.o,ho,Vad (by simpa using he)]);clear hk hg hcell vV;subst he;go_wp2;go_returns;refine⟨gM.o,?_⟩;rw[aQ.o];exact⟨g,rfl,Vas FP.o Hg.o,Hk.o⟩
  ·have aQ:=h_ (show R=none by rw[<-HR.o,ho,Vaf he])
   have fP:r.length=0:=by
    rcases vV.o with ⟨_,h2⟩|⟨h2,_⟩
    ·rw[h2] at ho;injection ho with ho;rw[<-ho];rfl
    ·exact absurd h2 he
   have ay:(((e:Nat):Int)==0)=false:=by
    rw[Van];omega
   rw[fP];clear hk hg hcell vV he ho fP;go_wp2;go_returns;refine⟨gM.o,?_⟩;rw[aQ.o];exact⟨_,rfl⟩
theorem Z5n (v:ByteArray):∀(p:List ByteArray) (last:ByteArray),mixL last (p++[v])=mixL last p++[bs (mixV (toL v) (toL (p.getLastD last))).1]
 |[],last=>rfl
 |a::r,last=>by
  rw[Vbt,mixL,Z5n v r a,mixL,Vbt];cases r<;>rfl
theorem Z0N (v:ByteArray):∀(p:List ByteArray) (last:ByteArray),Y8 last (p++[v])=Y8 last p++[bs (mixV (toL v) (toL ((Y8 last p).getLastD last))).1]
 |[],last=>rfl
 |a::r,last=>by
  rw[Vbt,Y8,Z0N v r,Y8,Vbt];cases r<;>rfl
theorem Xy (l:List ByteArray):∀last,(Y8 last l).length=l.length:=by
 induction l with
 |nil=>intro _;rfl
 |cons v r ih=>intro last;simp[Y8,ih]
theorem Z35 (p:List ByteArray) (v d:ByteArray):(p++[v]).getLastD d=v:=by
 rw[List.getLastD_eq_getLast?,List.getLast?_concat];rfl
theorem Z7X (a b:List UInt8):(mixV a b).1.length<=a.length:=by
 unfold mixV;split
 ·exact Var _
 ·split
  ·exact Var _
  ·show(List.zipWith mx a b).length<=_;rw[Vb9];omega
theorem Z7Y (w:Int) (c:UInt8):(allV w c).length<=128:=by
 unfold allV;split
 ·exact Var _
 ·rename_i h;rw[Vaw];omega
theorem Zct {p r:List ByteArray} {x y:ByteArray} {j:Nat} (h:p.length=j):(p++x::r).set j y=(p++[y])++r:=by
 rw[Va8 _ _ (by omega),h,Va7,List.set_cons_zero,Vay];rfl
theorem Z9g {l:List ByteArray} {N:Nat} (h:∀s∈l,s.size<=N):∀last,∀s∈mixL last l,s.size<=N:=by
 induction l with
 |nil=>intro last s hs;cases hs
 |cons v r ih=>
  intro last s hs;rcases Va9.1 hs with rfl|hs
  ·rw[Z0];have:=Z7X (toL v) (toL last);rw[Z1] at this;exact Vas this (h v Vap)
  ·exact ih (λx hx=>h x (Vat _ hx)) v s hs
theorem Zcu (a b:ByteArray) (ha:a.size<=1099511627776) (hb:b.size<=1099511627776) (W:World):
  Calls Tryz.prog 170 #[.string a,.string b] W λx w'=>x=.returned (.tuple #[.string (bs (mixV (toL a) (toL b)).1),.int .i64 ((mixV (toL a) (toL b)).2:Int)])/\Below W.heap.size W w':=by
 have:=ZeY (toL a) (toL b) (by rw[Z1];exact ha) (by rw[Z1];exact hb) W;rw[Za,Za] at this;exact this
def Z0O (last:ByteArray) (l:List ByteArray) (j:Nat):List ByteArray:=mixL last (l.take j)++List.replicate (l.length-j) ⟨#[]⟩
theorem ZiD (last:ByteArray) (l:List ByteArray):(svs (Z0O last l 0)).toArray=Array.replicate l.length (.string ⟨#[]⟩:Value):=by
 unfold Z0O;rw[Vbw,Nat.sub_zero];show(svs (List.replicate l.length ⟨#[]⟩)).toArray=_;unfold svs;rw[List.map_replicate];rfl
theorem Zcv (last:ByteArray) (l:List ByteArray) (j:Nat) (h:j<l.length):(Z0O last l j).set j (bs (mixV (toL l[j]) (toL ((l.take j).getLastD last))).1)=Z0O last l (j+1):=by
 unfold Z0O;rw[show l.length-j=(l.length-(j+1))+1 by omega,Vbg,Zct (by rw[Z0b,Vau];omega),<-Z5n,<-Vac h]
theorem Zcw (last:ByteArray) (l:List ByteArray) (j:Nat) (h:j<=l.length):(Z0O last l j).length=l.length:=by
 unfold Z0O;rw[Vab,Z0b,Vau,Vaw];omega
theorem Zcx (last:ByteArray) (l:List ByteArray):Z0O last l l.length=mixL last l:=by
 unfold Z0O;rw[Vbx,Va7,List.replicate_zero,Va3]
theorem Z9h {w:World} {A:Option Addr} {l:List ByteArray} (ha:At w A (svs l)) (ad:∀s∈l,s.size<=1099511627776) (n cap:Nat) (hn:n=l.length) (hm:n<=4096) (W:Int):
  Calls Tryz.prog 122 #[.agg #[.int .i64 W],.slice A n cap] w λx w'=>x=.returned (.tuple #[.string (bs (codM W l)),.bool true])/\Below w.heap.size w w':=by
 have bP:=Bk.new w 127 #[.int .i64 W];have aD:=Zx w (.cells #[.int .i64 W] 127);have bG:=Yi (P:=Tryz.prog) 64 9 (.string ⟨#[]⟩) 16 Tryz.underlying64 YC rfl (n:Int) n rfl (by omega) (by omega) (w.alloc (.cells #[.int .i64 W] 127));have cg:=Bk.new (w.alloc (.cells #[.int .i64 W] 127)) 9 (Array.replicate n (.string ⟨#[]⟩));have cq:=bP.alloc (.cells (Array.replicate n (.string ⟨#[]⟩)) 9);have a7:=h_ (aD.alloc aD.size (.cells (Array.replicate n (.string ⟨#[]⟩)) 9));obtain⟨Z,hZ⟩:∃Z,bs (allV W 48)=Z:=⟨_,rfl⟩;have Bh:Z.size<=128:=(by rw[<-hZ,Z0];exact Z7Y W 48);have fP:Array.replicate n (.string ⟨#[]⟩:Value)=(svs (Z0O Z l 0)).toArray:=(by rw[hn,ZiD]);have lu:=h_ (λW2=>Zbm W 48 W2);rw[hZ,show(((48:UInt8).toNat:Nat):Int)=48 from rfl] at lu;rw[World.size_alloc] at bG cg;have hcell:((w.alloc (.cells #[.int .i64 W] 127)).alloc (.cells (Array.replicate n (.string ⟨#[]⟩)) 9)).cell? ⟨w.heap.size,0,none⟩=some (.int .i64 W):=cq.cell 0;have Ha:=h_ ha;have Hv:=h_ (λ(v u:ByteArray) (hv:v∈l) (hu:u.size<=1099511627776) W2=>Zcu v u (ad v hv) hu W2);have cC:=h_ ad;have jQ:=h_ fP;have dF:=h_ cg;have Hn:=h_ hn;have eS:n=(mixL Z l).length:=(by rw[Z0b];exact hn);have HS:=h_ (λ(W2:World) (B:Option Addr) (h:At W2 B (svs (mixL Z l)))=>Z0L h (Z9g ad Z) n n eS (by omega));have fK:n=(ZE (mixL Z l)).length:=(by unfold ZE;rw[Vag];exact eS);have ow:=XO (l:=mixL Z l) (by omega);have HE:=h_ (λW2 (B:Option Addr) (c:Nat) (h:At W2 B (svs (ZE (mixL Z l))))=>Yt h (λs hs=>by have:=ow.2 s hs;omega) n c fK (by omega));have cR:=Qh (l:=mixL Z l) (by omega);unfold codM;rw[hZ];unfold ERes at HE;rw[cR.2] at HE;generalize bs (enc (ZE (mixL Z l))).1=SR at*;generalize (w.alloc (.cells #[.int .i64 W] 127)).alloc (.cells (Array.replicate n (.string ⟨#[]⟩)) 9)=W0 at*;rw[jQ.o] at dF;have Is:=h_ Bh;clear ha ad hn cg fP jQ bP aD cq eS fK ow cR hZ Bh;go_enter Tryz.func122,Tryz.ntmps122;go_wp2_with fail;refine(lu.o _).mono ?_;rintro x w1 ⟨rfl,yr⟩;have ak:=h_ (a7.o.trans (yr.mono a7.o.size));have ox:=h_ (dF.o.below yr dF.o.lt);clear yr dF a7 bG hcell lu;go_wp2;go_loopw [7,20] (λs7 It wr=>∃j:Nat,j<=n/\It=.int .i64 (j:Int)/\s7=.string ((l.take j).getLastD Z)/\Hid (Bk wr (w.heap.size+1) 9 (svs (Z0O Z l j)).toArray)/\Hid (Below w.heap.size w wr)) (λ_ It _=>(n-intOf It).toNat);case atStart=>exact⟨0,Var _,rfl,rfl,ox,ak⟩
 case round=>
  clear ak ox;obtain⟨j,hj,rfl,rfl,hk,hb⟩:=hrel;by_cases ab:j<n
  ·have cP:j<l.length:=(by rw[<-Hn.o];exact ab);obtain⟨b,o,rfl,cF,hc⟩:=Yf (Ha.o.below hb.o) j cP
   have jZ:((l.take j).getLastD Z).size<=1099511627776:=by
    cases hp:(l.take j).getLast? with
    |none=>rw[List.getLastD_eq_getLast?,hp];have:=Is.o;show Z.size<=_;omega
    |some u=>
     rw[List.getLastD_eq_getLast?,hp];exact cC.o u (Vcd (List.mem_of_getLast? hp))
   have cL:=h_ (Hv.o l[j] ((l.take j).getLastD Z) (Vaj _) jZ);have aZ:=h_ (Zcv Z l j cP);have hlen:=Zcw Z l j (by omega);have cw:l.take (j+1)=l.take j++[l[j]]:=Vac cP;obtain⟨S,hS⟩:∃S,l[j]=S:=⟨_,rfl⟩;rw[hS] at hc cL aZ cw;have fo:=h_ (show S=(l.take (j+1)).getLastD Z by rw[cw,Z35]);have av:=h_ (show j<(Z0O Z l j).length by rw[hlen];exact cP);obtain⟨T,hT⟩:∃T,bs (mixV (toL S) (toL ((l.take j).getLastD Z))).1=T:=⟨_,rfl⟩;rw[hT] at cL aZ;clear hS hT cP hlen cw jZ;generalize ((mixV (toL S) (toL ((l.take j).getLastD Z))).2:Int)=E at*;generalize (l.take j).getLastD Z=U at*;have dw:(j:Int)<(n:Int):=(by omega);have gx:(0:Int)<=(j:Int):=(by omega);go_wp2_with fail;refine(cL.o _).mono ?_;rintro x w1 ⟨rfl,a7⟩;have bk:=hk.o.below a7 hk.o.lt;have hcell:=bk.cell j;rw[Vbf,Ys _ _ av.o] at hcell;have fj:=bk.frozen j;have aj:=Z26 bk j T;rw[aZ.o] at aj;have az:=h_ aj;have ak:=h_ ((hb.o.trans (a7.mono hb.o.size)).setCell (p:=⟨w.heap.size+1,j,none⟩) (by simp) (.string T));generalize (Z0O Z l j)[j]=OLD at*;clear a7 cL hb hk bk aj aZ av;go_wp2;refine⟨⟨j+1,ab,by go_num,by rw[<-fo.o],az,ak⟩,?_⟩;simp[intOf]<;>omega
  ·have iB:j=n:=(by omega);have bk:=hk.o;rw[iB,Hn.o,Zcx] at bk;have an:=bk.at_;rw[Vck] at an;have Bi:=h_ (HS.o wr _ an);clear bk hk Hv an HS;generalize (l.take j).getLastD Z=U at*;go_wp2_with fail;refine(Bi.o).mono ?_;rintro x w2 ⟨g,rfl,du,SV,bL,a8⟩;have aW:=hb.o.trans (a8.mono hb.o.size);have kF:=h_ (HE.o w2 _ n bL);clear a8 hb Bi HE bL;go_wp2_with fail;refine(kF.o).mono ?_;rintro x w3 ⟨rfl,af⟩;have oe:=aW.trans (af.mono aW.size);clear af aW kF;go_wp2;go_returns;exact⟨rfl,oe⟩
theorem Z27 {l:List ByteArray} {N:Nat} (h:∀s∈l,s.size<=N):∀last,∀s∈Y8 last l,s.size<=N:=by
 induction l with
 |nil=>intro last s hs;cases hs
 |cons v r ih=>
  intro last s hs;rcases Va9.1 hs with rfl|hs
  ·rw[Z0];have:=Z7X (toL v) (toL last);rw[Z1] at this;exact Vas this (h v Vap)
  ·exact ih (λx hx=>h x (Vat _ hx)) _ s hs
def Z19 (last:ByteArray) (l:List ByteArray) (j:Nat):List ByteArray:=Y8 last (l.take j)++l.drop j
theorem Zcy (last:ByteArray) (l:List ByteArray) (j:Nat) (h:j<l.length):(Z19 last l j).set j (bs (mixV (toL l[j]) (toL ((Y8 last (l.take j)).getLastD last))).1)=Z19 last l (j+1):=by
 unfold Z19;rw[Va4 h,Zct (by rw[Xy,Vau];omega),<-Z0N,<-Vac h]
theorem Zcz (last:ByteArray) (l:List ByteArray) (j:Nat) (h:j<=l.length):(Z19 last l j).length=l.length:=by
 unfold Z19;rw[Vab,Xy,Vau,Va2];omega
theorem ZfP (last:ByteArray) (l:List ByteArray) (j:Nat) (h:j<l.length):(svs (Z19 last l j))[j]? =some (.string l[j]):=by
 unfold Z19 svs;rw[Vbc,Vbd (by rw[Xy,Vau];omega),Xy,Vau,show j-min j l.length=0 by omega,List.getElem?_drop,Vb3,Vao h];rfl
theorem ZcA (last:ByteArray) (l:List ByteArray):Z19 last l l.length=Y8 last l:=by
 unfold Z19;rw[Vbx,Vcl,Va3]
theorem Zkv (last:ByteArray) (l:List ByteArray) (j:Nat) (h:j<l.length):(Y8 last (l.take (j+1))).getLastD last=bs (mixV (toL l[j]) (toL ((Y8 last (l.take j)).getLastD last))).1:=by
 rw[Vac h,Z0N,Z35]
theorem Z6B {last:ByteArray} {l:List ByteArray} {N:Nat} (h:∀s∈l,s.size<=N) (h2:last.size<=N) (j:Nat):((Y8 last (l.take j)).getLastD last).size<=N:=by
 rw[List.getLastD_eq_getLast?];cases hp:(Y8 last (l.take j)).getLast? with
 |none=>exact h2
 |some u=>exact Z27 (λs hs=>h s (Vcd hs)) last u (List.mem_of_getLast? hp)
theorem Qj {W:Int} {s:List UInt8} {r:List ByteArray} (h:Xm W s=some r):(∀v∈r,v.size<=128)/\r.length<=4096:=by
 unfold Xm at h;split at h
 ·cases h
 ·obtain⟨h1,h2⟩:=Z0C h;refine⟨λv hv=> ?_,?_⟩
  ·have:=(Zv.1 (ZL.1 (h1 v hv)).1).2.2;rw[Z1] at this;exact this
  ·rw[h2];rcases Xw s 4096 with (h|h)|⟨l,h,_,_,_,h4⟩
   ·rw[h];exact Var _
   ·rw[h];exact Var _
   ·rw[h];exact h4
theorem Z9i {w:World} {b:Nat} {s:ByteArray} (h:RV w b s 0) (hs:s.size<=1000000000) (W:Int):
  Calls Tryz.prog 158 #[.agg #[.int .i64 W],.pointer (some ⟨b,0,none⟩)] w λx w'=>RdrR b w ((Xm W (toL s)).map (Y8 (bs (allV W 48)))) x w':=by
 have ab:=Bk.lt h;have bP:=Bk.new w 127 #[.int .i64 W];have aD:=Zx w (.cells #[.int .i64 W] 127);have h0:RV (w.alloc (.cells #[.int .i64 W] 127)) b s 0:=Bk.alloc h _;have HW:=h_ (Z34 h0 hs W);have lu:=h_ (λW2=>Zbm W 48 W2);obtain⟨Z,hZ⟩:∃Z,bs (allV W 48)=Z:=⟨_,rfl⟩;have Bh:Z.size<=128:=(by rw[<-hZ,Z0];exact Z7Y W 48);rw[hZ,show(((48:UInt8).toNat:Nat):Int)=48 from rfl] at lu;rw[hZ];have vW:(w.alloc (.cells #[.int .i64 W] 127)).cell? ⟨w.heap.size,0,none⟩=some (.int .i64 W):=bP.cell 0;have FG:=λr=>Qj (W:=W) (s:=toL s) (r:=r);generalize Xm W (toL s)=O at*;have HR:=h_ (rfl:O.map (Y8 Z)=O.map (Y8 Z));obtain⟨R,hR⟩:∃R,O.map (Y8 Z)=R:=⟨_,rfl⟩;rw[hR];have HR:=h_ hR;have iR:=h_ bP;have aP:=h_ aD;have Is:=h_ Bh;have MV:=h_ FG;have iW:=h_ ab;have Ed:(w.alloc (.cells #[.int .i64 W] 127)).heap.size=w.heap.size+1:=World.size_alloc _ _;have MW:=h_ Ed;clear h0 hs h bP aD hR hZ Bh FG ab Ed;go_enter Tryz.func158,Tryz.ntmps158;go_wp2_with fail;refine(HW.o).mono ?_;rintro x w1 ⟨aC,hx⟩;have cS:=h_ ((Fr.of_below (S:=only b) aP.o).trans aC)
 have cq:=iR.o.fr aC (by
  have:=iW.o;unfold only;omega)
 have qk:w1.cell? ⟨w.heap.size,0,none⟩=some (.int .i64 W):=cq.cell 0;clear HW aC vW iR aP;cases O with
 |none=>
  obtain⟨A,rfl⟩:=hx;have aQ:=h_ (show R=none from HR.o.symm);clear cq HR;go_wp2_with fail;refine(lu.o _).mono ?_;rintro x w2 ⟨rfl,a8⟩;have cl:=h_ (cS.o.below a8);clear a8 qk;go_wp2;go_loopw [22] (λvX wr=>vX=.int .i64 0/\Hid (Fr (only b) w wr)) (λ_ _=>0);case atStart=>exact⟨rfl,cl⟩
  case round=>
   clear cl;obtain⟨rfl,hf⟩:=hrel;go_wp2;go_returns;refine⟨hf.o,?_⟩;rw[aQ.o];exact⟨_,rfl⟩
 |some r=>
  obtain⟨g,rfl,hg,hk⟩:=hx;have aQ:=h_ (show R=some (Y8 Z r) from HR.o.symm);have Hg:=h_ (show w.heap.size+1<=g by have:=MW.o;omega);have ad:=MV.o r rfl;have Hk:=h_ hk;have cC:=h_ ad.1;have gN:=ad.2;have Hv:=h_ (λ(v u:ByteArray) (hv:v∈r) (hu:u.size<=128) W2=>Zcu v u (by have:=ad.1 v hv;omega) (by omega) W2);obtain⟨n,hn⟩:∃n,r.length=n:=⟨_,rfl⟩;have Hn:=h_ hn;rw[hn] at gN⊢;clear cq HR hg hk MV MW ad hn;go_wp2_with fail;refine(lu.o _).mono ?_;rintro x w2 ⟨rfl,a8⟩;have cl:=h_ (cS.o.below a8);have ox:=h_ (Hk.o.below a8 Hk.o.lt);clear a8 qk Hk cS lu;go_wp2;go_loopw [8,22] (λs8 vX wr=>∃j:Nat,j<=n/\vX=.int .i64 (j:Int)/\s8=.string ((Y8 Z (r.take j)).getLastD Z)/\Hid (Bk wr g 9 (svs (Z19 Z r j)).toArray)/\Hid (Fr (only b) w wr)) (λ_ vX _=>(n-intOf vX).toNat);case atStart=>exact⟨0,Var _,rfl,rfl,ox,cl⟩
  case round=>
   clear cl ox;obtain⟨j,hj,rfl,rfl,hk,hf⟩:=hrel;by_cases ab:j<n
   ·have cP:j<r.length:=(by rw[Hn.o];exact ab);have hc:=hk.o.cell j;rw[Vbf,ZfP Z r j cP] at hc;have jZ:=Z6B (l:=r) cC.o Is.o j;have cL:=h_ (Hv.o r[j] _ (Vaj _) jZ);have aZ:=h_ (Zcy Z r j cP);have hlen:=Zcz Z r j (by omega);have fo:=h_ (Zkv Z r j cP);obtain⟨S,hS⟩:∃S,r[j]=S:=⟨_,rfl⟩;rw[hS] at hc cL aZ fo;have av:=h_ (show j<(Z19 Z r j).length by rw[hlen];exact cP);obtain⟨T,hT⟩:∃T,bs (mixV (toL S) (toL ((Y8 Z (r.take j)).getLastD Z))).1=T:=⟨_,rfl⟩;rw[hT] at cL aZ fo;clear hS hT cP hlen jZ;generalize ((mixV (toL S) (toL ((Y8 Z (r.take j)).getLastD Z))).2:Int)=E at*;generalize (Y8 Z (r.take j)).getLastD Z=U at*;have dw:(j:Int)<(n:Int):=(by omega);have gx:(0:Int)<=(j:Int):=(by omega);go_wp2_with fail;refine(cL.o _).mono ?_;rintro x w1 ⟨rfl,a7⟩;have bk:=hk.o.below a7 hk.o.lt;have hcell:=bk.cell j;rw[Vbf,Ys _ _ av.o] at hcell;have fj:=bk.frozen j;have aj:=Z26 bk j T;rw[aZ.o] at aj;have az:=h_ aj
    have Iu:(w1.setCell ⟨g,j,none⟩ (.string T)).cell? ⟨g,j,none⟩=some (.string T):=by
     rw[aj.cell j,<-aZ.o,Vbf];unfold svs;rw[Vbc,List.getElem?_set_self av.o];rfl
    have cl:=h_ ((hf.o.below a7).setCell (p:=⟨g,j,none⟩) (.inr (by have:=Hg.o;simp only;omega)) (.string T));generalize (Z19 Z r j)[j]=OLD at*;clear a7 cL hf hk bk aj aZ av;go_wp2;refine⟨⟨j+1,ab,by go_num,by rw[fo.o],az,cl⟩,?_⟩;simp[intOf]<;>omega
   ·have iB:j=n:=(by omega);have bk:=hk.o;rw[iB,<-Hn.o,ZcA] at bk;have ft:=h_ bk;have Hl:=h_ (show(Y8 Z r).length=n by rw[Xy,Hn.o]);clear bk hk Hv;generalize (Y8 Z (r.take j)).getLastD Z=U at*;go_wp2;go_returns;refine⟨hf.o,?_⟩;rw[aQ.o];exact⟨g,by rw[Hl.o];rfl,by have:=Hg.o;omega,ft.o⟩
theorem YH (a:List Int) (x:Int):ivs (a++[x])=ivs a++[.int .i64 x]:=by simp[ivs,iv]
theorem ZcB (a b:ByteArray) (ha:a.size<=1099511627776) (hb:b.size<=1099511627776) (W:World):
  Calls Tryz.prog 207 #[.string a,.string b] W λx w'=>x=.returned (.tuple #[.string (bs (addV (toL a) (toL b)).1),.bool (addV (toL a) (toL b)).2])/\Below W.heap.size W w':=by
 have:=ZeV (toL a) (toL b) (by rw[Z1];exact ha) (by rw[Z1];exact hb) W;rw[Za,Za] at this;exact this
theorem getD_at {l:List ByteArray} {i:Nat} (h:i<l.length):l.getD i default=l[i]:=by
 rw[Vbn,Vao h];rfl
theorem ZfQ {w:World} {A:Option Addr} {l:List ByteArray} (ha:At w A (svs l)) (ad:∀s∈l,s.size<=1099511627776) (n cap:Nat) (hn:n=l.length) (hm:n<=4096) (st:ByteArray) (aT:st.size<=1099511627776):
  Calls Tryz.prog 168 #[.slice A n cap,.string st] w λx w'=>∃v,x=.returned v/\IRes w' v (exI l st)/\Below w.heap.size w w':=by
 have Ha:=h_ ha;have Hn:=h_ hn;have Hv:=h_ (λ(v:ByteArray) (hv:v∈l) W2=>ZcB v st (ad v hv) aT W2);have ka:=h_ (Zk (w:=w) (base:=w.heap.size) (e:=3) (size:=1));have aD:=h_ (Vae w.heap.size w);clear ha hn ad aT;go_enter Tryz.func168,Tryz.ntmps168;go_wp2;go_loopw [5,6] (λs5 s6 wr=>∃k:Nat,(k=0\/k+1<=n)/\s6=.int .i64 ((k:Int)+1)/\Hid (wr.ownsRow w.heap.size 3 1 s5 (exP l st k).length (ivs (exP l st k)))/\Hid (Below w.heap.size w wr)) (λ_ s6 _=>(n-intOf s6).toNat);case atStart=>exact⟨0,.inl rfl,rfl,ka,aD⟩
 case round=>
  clear ka aD;obtain⟨k,hk,rfl,aa,hb⟩:=hrel;obtain⟨A5,M5,bo,rfl⟩:=Zg aa.o;by_cases ab:k+1<n
  ·have aX:k+1<l.length:=(by rw[<-Hn.o];exact ab);have mB:k<l.length:=(by omega);obtain⟨b,o,rfl,cF,hc⟩:=Yf (Ha.o.below hb.o) k mB
   have Bj:∀W2,Below wr.heap.size wr W2->W2.cell? ⟨b,o+(k+1),none⟩=some (.string l[k+1]):=λW2 hW=>by
    obtain⟨b2,o2,he,_,dN⟩:=Yf ((Ha.o.below hb.o).mono UZz hW) (k+1) aX;injection he with he;injection he with h1 h2;subst h1;subst h2;exact dN
   have fL:=h_ Bj;have cL:=h_ (Hv.o l[k] (Vaj _))
   have bH:okA l st k=decide (addV (toL l[k]) (toL st)=(toL l[k+1],true)):=by
    unfold okA;rw[getD_at mB,getD_at aX]
   have oy:=ZeK l st k;have hle:=Z65 l st k;obtain⟨S0,oq⟩:∃S,l[k]=S:=⟨_,rfl⟩;obtain⟨S1,my⟩:∃S,l[k+1]=S:=⟨_,rfl⟩;rw[oq] at hc cL bH;rw[my] at fL bH;obtain⟨⟨r,q⟩,hr⟩:∃r,addV (toL S0) (toL st)=r:=⟨_,rfl⟩;rw[hr] at cL bH;simp only at cL
   have jl:okA l st k=(q&&decide (bs r=S1)):=by
    rw[bH,Vbl,Va0,Vaq,Vaq,Prod.mk.injEq];constructor
    ·rintro⟨h1,h2⟩;exact⟨h2,by rw[h1,Za]⟩
    ·rintro⟨h1,h2⟩;exact⟨by rw[<-h2,Zd],h1⟩
   have ua:=h_ jl;have Bl:=h_ oy
   have cI:∀X:ByteArray,bs r=X->(if q=true/\X=S1 then exP l st (k+1)=exP l st k else exP l st (k+1)=exP l st k++[(k:Int)+1]):=λX hX=>by
    subst hX;rw[Bl.o,ua.o];by_cases hq:q=true
    ·by_cases hx:bs r=S1
     ·rw[Vaf ⟨hq,hx⟩,hq,Vam hx];rfl
     ·rw[Vad (λh=>hx h.2),Vah hx,Bool.and_false,Vad (by simp)]
    ·rw[Vad (λh=>hq h.1),Vad (by simp[hq])]
   obtain⟨X,hX⟩:∃X,bs r=X:=⟨_,rfl⟩;have rk:=h_ (cI X hX);rw[hX] at cL;have lx:(exP l st k).length+1<=4096:=(by omega);have ec:=h_ lx;have i1:IntKind.i64.wrap ((k:Int)+1-1)=(k:Int):=(by rw[IntWalk.i64_in _ (by omega)];omega);have cg:(0:Int)<=(k:Int):=(by omega);have bk:(k:Int)<(n:Int):=(by omega);have cK:(k:Int)+1<(n:Int):=(by omega);have e1:(k:Int)+1-1=(k:Int):=(by omega);clear aX mB oq my hr bH jl cI hX oy hle ua Bl lx Bj;go_wp2_with fail;refine(cL.o _).mono ?_;rintro x w1 ⟨rfl,a7⟩;have cq:=fL.o w1 a7
   have vY:w1.cell? ⟨b,o+((k:Int)+1).toNat,none⟩=some (.string S1):=by
    rw[show((k:Int)+1).toNat=k+1 by omega];exact cq
   have e2:((k:Int)+1).toNat=k+1:=(by omega);have ah:=Zl aa.o (Fr.of_below (S:=nob) a7) (λ_ _ f=>f);have al:=h_ (hb.o.trans (a7.mono hb.o.size));obtain⟨v',w4,ag,ae,aG,_⟩:=Yr (P:=Tryz.prog) 31 3 _ _ Tryz.underlying31 ZS rfl (w:=w1) ah al.o al.o.size (.int .i64 ((k:Int)+1)) rfl (by have:=ec.o;unfold maxLen;omega) (by have:=ec.o;omega);have ar:=h_ ag;have aw:=h_ ae;have cH:=h_ aG;have aJ:=h_ ah;clear a7 cL aa hb hc fL ag ae aG ah;cases q with
   |false=>
    have ie:=h_ (show exP l st (k+1)=exP l st k++[(k:Int)+1] by
     have:=rk.o
     rwa [Vad (by simp)] at this)
    have fp:=h_ (show w4.ownsRow w.heap.size 3 1 v' (exP l st (k+1)).length (ivs (exP l st (k+1))) by
     rw[ie.o,YH,Vab];exact aw.o)
    clear aJ aw ie cq vY rk
    go_wp2_with (
     at_builtin;refine Z4 (by with_reducible rfl) rfl _ _ _ rfl _ _ (by rfl) (by rfl) ar.o ?_)
    refine⟨⟨k+1,.inr ab,by go_num,fp,cH⟩,?_⟩;simp[intOf]<;>omega
   |true=>
    by_cases hx:X=S1
    ·have ie:=h_ (show exP l st (k+1)=exP l st k by
      have:=rk.o
      rwa [Vaf ⟨rfl,hx⟩] at this)
     have ay:(X.toList !=S1.toList)=false:=(by rw[Z2X,hx];simp);have heq:(X.toList==S1.toList)=true:=(by rw[QI,hx];simp)
     have fp:=h_ (show w1.ownsRow w.heap.size 3 1 (.slice A5 M5 bo) (exP l st (k+1)).length (ivs (exP l st (k+1))) by
      rw[ie.o];exact aJ.o)
     clear aJ aw ie vY rk ar cH hx;go_wp2;refine⟨⟨k+1,.inr ab,by go_num,fp,al⟩,?_⟩;simp[intOf]<;>omega
    ·have ie:=h_ (show exP l st (k+1)=exP l st k++[(k:Int)+1] by
      have:=rk.o
      rwa [Vad (λh=>hx h.2)] at this)
     have ay:(X.toList !=S1.toList)=true:=(by rw[Z2X,Vah hx];rfl);have heq:(X.toList==S1.toList)=false:=(by rw[QI,Vah hx]);have MX:=ar
     have fp:=h_ (show w4.ownsRow w.heap.size 3 1 v' (exP l st (k+1)).length (ivs (exP l st (k+1))) by
      rw[ie.o,YH,Vab];exact aw.o)
     clear aJ aw ie vY rk hx
     go_wp2_with (
      at_builtin;refine Z4 (by with_reducible rfl) rfl _ _ _ rfl _ _ (by rfl) (by rfl) ar.o ?_)
     refine⟨⟨k+1,.inr ab,by go_num,fp,cH⟩,?_⟩;simp[intOf]<;>omega
  ·have dY:n-1=k:=(by omega);have bS:¬(k:Int)+1<(n:Int):=(by omega)
   have aI:Hid (IRes wr (.slice A5 M5 bo) (exI l st)):=h_ (by
    obtain⟨A6,gm,hv,an⟩:=Zm aa.o;unfold exI;rw[<-Hn.o,dY];exact⟨A6,gm,hv,an⟩)
   clear aa dY Hv;go_wp2;go_returns;exact⟨_,rfl,aI.o,hb.o⟩
end Go.Proofs.YtchokmkfobandaaGreatDoor
namespace Wv
open Go Go.RowKit Wv.Ru
open Classical in
noncomputable def lk (l:List MapEntry) (k:Value):Option Value:=(l.find? (λe=>decide (e.key=k))).map (·.val)
theorem XR {e:MapEntry} {t:List MapEntry} {k:Value} (h:e.key=k):lk (e::t) k=some e.val:=by
 unfold lk;rw[List.find?_cons_of_pos (by simpa using h)];rfl
theorem Yu {e:MapEntry} {t:List MapEntry} {k:Value} (h:e.key≠k):lk (e::t) k=lk t k:=by
 unfold lk;rw[List.find?_cons_of_neg (by simpa using h)]
theorem Z45 {d:TypeDesc} {k:Value} (hk:MapKept.IsKey d k):∀(l:List MapEntry) (i:Nat),(∀x∈l,MapKept.IsKey d x.key)->
  (Instr.findNow d k l i=some none/\lk l k=none)\/∃j v,Instr.findNow d k l i=some (some (i+j,v))/\lk l k=some v/\(∃e,l[j]? =some e/\e.key=k)/\
   ∀u,lk (l.modify j λe=> { e with key:=k,val:=u }) k=some u/\∀k',k'≠k->lk (l.modify j λe=> { e with key:=k,val:=u }) k'=lk l k'
 |[],i,_=>.inl ⟨rfl,rfl⟩
 |e::t,i,h=>by
  obtain⟨r,hr,py⟩:=MapKept.sameNow_of_keys hk (h e (.head _));cases r with
  |true=>
   have he:=py.1 rfl;refine .inr ⟨0,e.val,by simp[Instr.findNow,hr],XR he.symm,⟨e,rfl,he.symm⟩,λu=>⟨?_,λk' u9=> ?_⟩⟩
   ·show lk ({ e with key:=k,val:=u } ::t) k=_;rw[XR rfl]
   ·show lk ({ e with key:=k,val:=u } ::t) k'=_;rw[Yu (λh=>u9 h.symm),Yu (λh=>u9 (by rw[<-h,<-he]))]
  |false=>
   have ay:e.key≠k:=λq=>(by have:=py.2 q.symm;cases this);rcases Z45 hk t (i+1) (λx hx=>h x (.tail _ hx)) with ⟨h1,h2⟩|⟨j,v,h1,h2,⟨e',h3,h4⟩,h5⟩
   ·exact .inl ⟨by simp[Instr.findNow,hr,h1],by rw[Yu ay,h2]⟩
   ·refine .inr ⟨j+1,v,by simp[Instr.findNow,hr,h1];omega,by rw[Yu ay,h2],⟨e',by simpa using h3,h4⟩,λu=>⟨?_,λk' u9=> ?_⟩⟩
    ·show lk (e::t.modify j _) k=_;rw[Yu ay];exact(h5 u).1
    ·show lk (e::t.modify j _) k'=_;by_cases h6:e.key=k'
     ·rw[XR h6,XR h6]
     ·rw[Yu h6,Yu h6];exact(h5 u).2 k' u9
theorem ZcC (l:List MapEntry) (e:MapEntry) (h:lk l e.key=none):lk (l++[e]) e.key=some e.val/\∀k,k≠e.key->lk (l++[e]) k=lk l k:=by
 induction l with
 |nil=>exact⟨XR rfl,λk hk=>Yu (λh=>hk h.symm)⟩
 |cons a t ih=>
  by_cases ha:a.key=e.key
  ·rw[XR ha] at h;cases h
  ·rw[Yu ha] at h;obtain⟨i1,i2⟩:=ih h;refine⟨?_,λk hk=> ?_⟩
   ·rw[Vbt,Yu ha,i1]
   ·rw[Vbt];by_cases h2:a.key=k
    ·rw[XR h2,XR h2]
    ·rw[Yu h2,Yu h2,i2 k hk]
def MpV (d:TypeDesc) (w:World) (b:Nat) (M:Value->Option Value):Prop:=∃es clock,w.heap[b]? =some (.map es clock)/\(∀x∈es.toList,MapKept.IsKey d x.key)/\∀k,MapKept.IsKey d k->lk es.toList k=M k
section
variable {P:Program} {d:TypeDesc} {w w':World} {b:Nat} {M:Value->Option Value} {t kt et:TypeId}
theorem MpV.lt (h:MpV d w b M):b<w.heap.size:=by
 obtain⟨es,c,h1,_⟩:=h;exact(Array.getElem?_eq_some_iff.1 h1).1
theorem MpV.of (h:MpV d w b M) (he:w'.heap[b]? =w.heap[b]?):MpV d w' b M:=by
 obtain⟨es,c,h1,h2⟩:=h;exact⟨es,c,he.trans h1,h2⟩
theorem MpV.below {B:Nat} (h:MpV d w b M) (hb:Below B w w') (hB:b<B):MpV d w' b M:=h.of (hb.block b hB)
theorem MpV.fr {S:Nat->Prop} (h:MpV d w b M) (hf:Fr S w w') (hS:¬S b):MpV d w' b M:=h.of (hf.block b h.lt hS)
theorem MpV.alloc (h:MpV d w b M) (o:Obj):MpV d (w.alloc o) b M:=h.of (Below.heap_alloc w o b h.lt)
theorem MpV.new (d:TypeDesc) (w:World):MpV d (w.alloc (.map #[] 0)) w.heap.size (λ_=>none):=⟨#[],0,heap_alloc_new w _,(λx hx=>by simp at hx),λk _=>rfl⟩
theorem MpV.get (ht:P.underlying t=some (.map kt et)) (hd:P.underlying kt=some d) (h:MpV d w b M) (k v:Value) (hk:MapKept.IsKey d k) (hv:M k=some v):
  (Instr.lookup t (.map (some b)) k false).run P w=.ok v w/\(Instr.lookup t (.map (some b)) k true).run P w=.ok (.tuple #[v,.bool true]) w:=by
 obtain⟨es,c,h1,h2,h3⟩:=h;have ck:=λe=>MapKept.run_checkKey (w:=w) hd hk e 9999;rcases Z45 hk es.toList 0 h2 with ⟨f1,f2⟩|⟨j,v',f1,f2,_,_⟩
 ·rw[h3 k hk,hv] at f2;cases f2
 ·rw[h3 k hk,hv] at f2;injection f2 with f2;subst f2;constructor
  ·unfold Instr.lookup;simp only[Sem.run_bind,Sem.run_pure,run_underlying ht,Result.andThen_ok,MapKept.run_getObj_map h1,ck,MapKept.run_findKey hd f1];rfl
  ·unfold Instr.lookup;simp only[Sem.run_bind,Sem.run_pure,run_underlying ht,Result.andThen_ok,MapKept.run_getObj_map h1,ck,MapKept.run_findKey hd f1];rfl
theorem MpV.miss (ht:P.underlying t=some (.map kt et)) (hd:P.underlying kt=some d) (h:MpV d w b M) (k z:Value) (hk:MapKept.IsKey d k) (hv:M k=none) (hz:(zeroValue et).run P w=.ok z w):
  (Instr.lookup t (.map (some b)) k false).run P w=.ok z w/\(Instr.lookup t (.map (some b)) k true).run P w=.ok (.tuple #[z,.bool false]) w:=by
 obtain⟨es,c,h1,h2,h3⟩:=h;have ck:=λe=>MapKept.run_checkKey (w:=w) hd hk e 9999;rcases Z45 hk es.toList 0 h2 with ⟨f1,f2⟩|⟨j,v',f1,f2,_,_⟩
 ·constructor
  ·unfold Instr.lookup;simp only[Sem.run_bind,Sem.run_pure,run_underlying ht,Result.andThen_ok,MapKept.run_getObj_map h1,ck,MapKept.run_findKey hd f1,hz];rfl
  ·unfold Instr.lookup;simp only[Sem.run_bind,Sem.run_pure,run_underlying ht,Result.andThen_ok,MapKept.run_getObj_map h1,ck,MapKept.run_findKey hd f1,hz];rfl
 ·rw[h3 k hk,hv] at f2;cases f2
theorem MpV.put (ht:P.underlying t=some (.map kt et)) (hd:P.underlying kt=some d) (h:MpV d w b M) (k v:Value) (hk:MapKept.IsKey d k):
  ∃w',(Instr.mapUpdate t (.map (some b)) k v).run P w=.ok () w'/\(∀M',M' k=some v->(∀x,x≠k->M' x=M x)->MpV d w' b M')/\Fr (λj=>j=b) w w'/\w'.heap.size=w.heap.size:=by
 have ab:=h.lt;obtain⟨es,c,h1,h2,h3⟩:=h;have ck:=MapKept.run_checkKey (w:=w) hd hk false 9999
 have dB:∀o,Fr (λj=>j=b) w { w with heap:=w.heap.setIfInBounds b o } :=λo=>⟨rfl,rfl,rfl,by simp,λr hr hn=>by
  have:b≠r:=λe=>hn e.symm;simp[this]⟩
 rcases Z45 hk es.toList 0 h2 with ⟨f1,f2⟩|⟨j,v',f1,f2,⟨e,f3,f4⟩,f5⟩
 ·refine⟨{ w with heap:=w.heap.setIfInBounds b (.map (es.push { key:=k,val:=v,born:=c }) (c+1)) },?_,λM' Iv sH=> ?_,dB _,by simp⟩
  ·unfold Instr.mapUpdate;simp only[Sem.run_bind,run_underlying ht,Result.andThen_ok,MapKept.run_getObj_map h1,ck,MapKept.run_findKey hd f1,MapKept.run_setObj_map _ h1]
  ·refine⟨_,_,(MapKept.heap_set h1).1,?_,?_⟩
   ·intro x hx;rw[Array.toList_push,Vba,Vax] at hx;rcases hx with hx|rfl
    ·exact h2 x hx
    ·exact hk
   ·intro x hx;rw[Array.toList_push];by_cases vZ:x=k
    ·subst vZ;rw[Iv];exact(ZcC _ { key:=x,val:=v,born:=c } f2).1
    ·rw[sH x vZ,<-h3 x hx];exact(ZcC _ { key:=k,val:=v,born:=c } f2).2 x vZ
 ·have hj:es[j]? =some e:=(by simpa using f3);refine⟨{ w with heap:=w.heap.setIfInBounds b (.map (es.modify j λe=> { e with key:=k,val:=v }) c) },?_,λM' Iv sH=> ?_,dB _,by simp⟩
  ·simp[Instr.mapUpdate,run_underlying ht,MapKept.run_getObj_map h1,ck,MapKept.run_findKey hd f1,hj,f4,MapKept.run_keyThatStays hk,MapKept.run_setObj_map _ h1,Result.andThen]
  ·refine⟨_,_,(MapKept.heap_set h1).1,?_,?_⟩
   ·exact MapKept.isKey_modify h2 _ _ (λe' MY=>by rw[hj] at MY;cases MY;exact f4.symm)
   ·intro x hx;rw[Array.toList_modify];by_cases vZ:x=k
    ·subst vZ;rw[Iv];exact(f5 v).1
    ·rw[sH x vZ,<-h3 x hx];exact(f5 v).2 x vZ
end
end Wv
