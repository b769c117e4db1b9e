import Derived.Test.YtchokmkfobandaaGreatDoorJ12
import Derived.Lib.AppendStr
import Derived.Lib.MinMax
set_option linter.unusedVariables false
set_option linter.unusedSimpArgs false
set_option maxRecDepth 100000
set_option maxHeartbeats 8000000
namespace Go.Proofs.YtchokmkfobandaaGreatDoor
open Go.RowKit Go.Proofs Wv Wv.Dc
def DR (w:World) (v:Value) (d:List UInt8):Prop:=∃A cap,v=.slice A d.length cap/\At w A (d.map bv)/\d.length<=cap/\cap<=maxLen
theorem DR.nil (w:World):DR w (.slice none 0 0) []:=⟨none,0,rfl,At.nil _ _,Nat.le_refl _,Nat.zero_le _⟩
theorem Z6I (c:UInt8) (t:List UInt8):Z1K (c::t)=if c=48 then Z1K t else c::t:=by
 unfold Z1K;rw[List.dropWhile_cons];by_cases h:c=48
 ·subst h;rfl
 ·rw[if_neg h,if_neg (by simpa using h)]
theorem ZlL {w:World} {A:Option Addr} {d:List UInt8} (h:At w A (d.map bv)) (n cap:Nat) (hn:n=d.length) (hc:n<=cap) (hm:cap<=maxLen):
  Calls Tryz.prog 264 #[.slice A n cap,.int .u8 48] w λx w'=>∃v,x=.returned v/\DR w' v (Z1K d)/\Below w.heap.size w w':=by
 have bd:=h_ h;have eA:cap<=9223372036854775807:=(by unfold maxLen at hm;omega);have Hn:=h_ hn;have Hm:=h_ hm;clear h hn hm;go_enter Tryz.func264,Tryz.ntmps264;go_wp2;go_loopw [0] (λv wr=>∃(k m bh:Nat) (A':Option Addr),k<=d.length/\m=d.length-k/\v=.slice A' m bh/\At wr A' ((d.drop k).map bv)/\m<=bh/\bh<=9223372036854775807/\Hid (bh<=maxLen)/\Hid (Z1K (d.drop k)=Z1K d)/\Below w.heap.size w wr) (λv _=>match v with|.slice _ m _=>m|_=>0);case atStart=>exact⟨0,n,cap,A,by omega,by rw[<-Hn.o,Nat.sub_zero],rfl,bd.o,hc,eA,Hm,h_ rfl,Below.refl _ _⟩
 case round=>
  obtain⟨k,m,bh,A',hk,bE,rfl,ak,CU,Fz,yC,p8,hf⟩:=hrel;by_cases h0:0<m
  ·have ab:k<d.length:=(by omega);have hd:d.drop k=d[k]::d.drop (k+1):=List.drop_eq_getElem_cons ab;obtain⟨c,jk⟩:∃c,d[k]=c:=⟨_,rfl⟩;rw[jk] at hd;have mZ:=ak;rw[hd] at ak;obtain⟨b,o,hA,hb,hcell⟩:=ak.get 0 (bv c) rfl;subst hA;have oK:wr.cell? ⟨b,o,none⟩=some (.int .u8 (c.toNat:Int)):=hcell;have lJ:=Zbm ak 1;have FA:=Z6I c (d.drop (k+1));have iX:=p8.o;rw[hd] at iX;rw[FA] at iX;by_cases my:c=48
   ·rw[if_pos my] at iX;subst my;have sZ:=h_ iX;have yf:=h_ lJ;have Hf:=h_ hf;clear iX lJ hf ak mZ hd jk FA p8 hcell;have rH:=h_ bE;have L9:=h_ (show m-1=d.length-(k+1) by omega);clear bE;by_cases bY:bh=1
    ·have Ub:m=1:=(by omega);go_wp2;refine⟨⟨k+1,0,0,some ⟨b,o,none⟩,by omega,by have:=L9.o;omega,rfl,?_,Nat.le_refl _,by omega,h_ (Nat.zero_le _),sZ,Hf.o⟩,by show 0<m;omega⟩;have:d.drop (k+1)=[]:=List.drop_eq_nil_of_le (by have:=rH.o;omega);rw[this];exact At.nil _ _
    ·go_wp2;refine⟨⟨k+1,m-1,bh-1,some ⟨b,o+1,none⟩,by omega,L9.o,by first|rw[if_neg bY]|rfl,?_,by omega,by omega,h_ (by have:=yC.o;omega),sZ,Hf.o⟩,by first|(rw[if_neg bY];show m-1<m;omega)|(show m-1<m;omega)⟩;have:=yf.o;rw[List.map_cons,List.drop_one,List.tail_cons] at this;exact this
   ·rw[if_neg my] at iX
    have ay:((c.toNat:Int)==48)=false:=by
     rw[beq_eq_false_iff_ne];intro e;exact my (UInt8.toNat_inj.1 (by rw[show(48:UInt8).toNat=48 from rfl];omega))
    have sZ:=h_ iX;have FB:=h_ mZ;have Hd:=h_ hd;have rH:=h_ bE;have gh:((m:Int)==0)=false:=(by rw[beq_eq_false_iff_ne];omega);clear iX ak mZ hd jk FA p8 hcell lJ my bE;go_wp2;go_returns;rw[<-sZ.o,<-Hd.o];exact⟨.slice (some ⟨b,o,none⟩) m bh,rfl,⟨_,bh,by rw[List.length_drop,<-rH.o],FB.o,by rw[List.length_drop,<-rH.o];exact CU,yC.o⟩,hf⟩
  ·have gh:m=0:=(by omega);have xa:d.drop k=[]:=List.drop_eq_nil_of_le (by omega);have iX:=p8.o;rw[xa] at iX;have ht:Z1K ([]:List UInt8)=[]:=rfl;rw[ht] at iX;have sZ:=h_ iX;clear p8 xa iX ht ak bE;subst gh;go_wp2;go_returns;rw[<-sZ.o];exact⟨_,rfl,DR.nil _,hf⟩
theorem Z92 {w:World} {A:Option Addr} {d:List UInt8} (h:At w A (d.map bv)) (n cap:Nat) (hn:n=d.length) (hc:n<=cap) (hm:cap<=maxLen):
  Calls Tryz.prog 240 #[.slice A n cap,.string ⟨#[48]⟩] w λx w'=>∃v,x=.returned v/\DR w' v (Z1K d)/\Below w.heap.size w w':=by
 have H:=h_ (ZlL h n cap hn hc hm);by_cases h0:n=0
 ·subst h0;have hd:d=[]:=List.eq_nil_of_length_eq_zero hn.symm;subst hd;clear h hn H hm;go_enter Tryz.func240,Tryz.ntmps240;go_wp2;go_returns;exact⟨_,rfl,DR.nil _,Below.refl _ _⟩
 ·have mo:((n:Int)==0)=false:=(by rw[beq_eq_false_iff_ne];omega);have dO:((⟨#[48]⟩:ByteArray)[0]'Nat.zero_lt_one)=48:=rfl;clear h hn hm h0 hc;go_enter Tryz.func240,Tryz.ntmps240;go_wp2_with (go_at_call 264;refine(H.o).mono ?_;rintro x w1 ⟨v,rfl,hd,hb⟩);go_returns;exact⟨_,rfl,hd,hb⟩
theorem ZcS (d:List UInt8) (c:UInt8):Z1h (d++[c])=if c=48 then Z1h d else d++[c]:=by
 unfold Z1h;rw[List.reverse_append,List.reverse_singleton,List.singleton_append,Z6I];split
 ·rfl
 ·rw[List.reverse_cons,List.reverse_reverse]
theorem ZlM {w:World} {A:Option Addr} {d:List UInt8} (h:At w A (d.map bv)) (n cap:Nat) (hn:n=d.length) (hc:n<=cap) (hm:cap<=maxLen):
  Calls Tryz.prog 268 #[.slice A n cap,.int .u8 48] w λx w'=>x=.returned (.slice A (Z1h d).length cap)/\Below w.heap.size w w':=by
 have bd:=h_ h;have eA:cap<=9223372036854775807:=(by unfold maxLen at hm;omega);have Hn:=h_ hn;clear h hn hm;go_enter Tryz.func268,Tryz.ntmps268;go_wp2;go_loopw [0] (λv wr=>∃k:Nat,k<=n/\v=.slice A k cap/\Hid (Z1h (d.take k)=Z1h d)/\Below w.heap.size w wr) (λv _=>match v with|.slice _ m _=>m|_=>0);case atStart=>exact⟨n,Nat.le_refl _,rfl,h_ (by rw[Hn.o,List.take_length]),Below.refl _ _⟩
 case round=>
  obtain⟨k,hk,rfl,p8,hf⟩:=hrel;by_cases h0:0<k
  ·obtain⟨j,rfl⟩:∃j,k=j+1:=⟨k-1,by omega⟩;have hj:j<d.length:=(by rw[<-Hn.o];omega);have hd:d.take (j+1)=d.take j++[d[j]]:=List.take_succ_eq_append_getElem hj;obtain⟨c,jk⟩:∃c,d[j]=c:=⟨_,rfl⟩;rw[jk] at hd;have iX:=p8.o;rw[hd,ZcS] at iX;obtain⟨b,o,hA,hb,hcell⟩:=(bd.o.below hf).get j (bv c) (by rw[List.getElem?_map,List.getElem?_eq_getElem hj,jk];rfl);have oK:wr.cell? ⟨b,o+j,none⟩=some (.int .u8 (c.toNat:Int)):=hcell;subst hA;by_cases my:c=48
   ·rw[if_pos my] at iX;subst my;have sZ:=h_ iX;clear iX hd jk p8 hcell hj;go_wp2;refine⟨⟨j,by omega,rfl,sZ,hf⟩,by show j<j+1;omega⟩
   ·rw[if_neg my] at iX
    have ay:((c.toNat:Int)==48)=false:=by
     rw[beq_eq_false_iff_ne];intro e;exact my (UInt8.toNat_inj.1 (by rw[show(48:UInt8).toNat=48 from rfl];omega))
    have hlen:(Z1h d).length=j+1:=by
     rw[<-iX,List.length_append,List.length_take];simp;omega
    have aq:=h_ hlen;clear iX hd jk p8 hcell hj my hlen;go_wp2;go_returns;exact⟨by rw[aq.o]<;>rfl,hf⟩
  ·have bU:k=0:=(by omega);subst bU;have hlen:(Z1h d).length=0:=(by rw[<-p8.o];rfl);have aq:=h_ hlen;clear p8 hlen;go_wp2;go_returns;exact⟨by rw[aq.o]<;>rfl,hf⟩
theorem Z7O {w:World} {A:Option Addr} {d:List UInt8} (h:At w A (d.map bv)) (n cap:Nat) (hn:n=d.length) (hc:n<=cap) (hm:cap<=maxLen):
  Calls Tryz.prog 241 #[.slice A n cap,.string ⟨#[48]⟩] w λx w'=>x=.returned (.slice A (Z1h d).length cap)/\Below w.heap.size w w':=by
 have H:=h_ (ZlM h n cap hn hc hm);by_cases h0:n=0
 ·subst h0;have hd:d=[]:=List.eq_nil_of_length_eq_zero hn.symm;subst hd;have ht:(Z1h ([]:List UInt8)).length=0:=rfl;rw[ht];clear h hn H hm ht;go_enter Tryz.func241,Tryz.ntmps241;go_wp2;go_returns;exact⟨rfl,Below.refl _ _⟩
 ·have mo:((n:Int)==0)=false:=(by rw[beq_eq_false_iff_ne];omega);have dO:((⟨#[48]⟩:ByteArray)[0]'Nat.zero_lt_one)=48:=rfl;clear h hn hm h0 hc;go_enter Tryz.func241,Tryz.ntmps241;go_wp2_with (go_at_call 268;refine(H.o).mono ?_;rintro x w1 ⟨rfl,hb⟩);go_returns;exact⟨rfl,hb⟩
theorem Z3s {w0 w:World} {r:Nat} (hr:Bk w r 197 #[.bool false,.slice none 0 0,.int .i64 0]) (hb:Below w0.heap.size w0 w) (h0:w0.heap.size<=r) {L:List UInt8} {A:Option Addr} (ha:At w A (L.map bv)) (b:Bool) (v:Value) (e:Int):
  ∃W,(((w.setCell ⟨r,0,none⟩ (.bool b)).setCell ⟨r,1,none⟩ v).setCell ⟨r,2,none⟩ (.int .i64 e))=W/\W.cell? ⟨r,0,none⟩=some (.bool b)/\W.cell? ⟨r,1,none⟩=some v/\W.cell? ⟨r,2,none⟩=some (.int .i64 e)/\At W A (L.map bv)/\Below w0.heap.size w0 W:=by
 have hf:Fr (only r) w (((w.setCell ⟨r,0,none⟩ (.bool b)).setCell ⟨r,1,none⟩ v).setCell ⟨r,2,none⟩ (.int .i64 e)):=Z1Z (Z1Z (Z1Z (Fr.refl _ _) 0 _) 1 _) 2 _;have hk:=((hr.put 0 (.bool b)).put 1 v).put 2 (.int .i64 e)
 exact⟨_,rfl,hk.cell 0,hk.cell 1,hk.cell 2,Zlo ha hr (λx hx=>by
  obtain⟨q,_,rfl⟩:=List.mem_map.1 hx;simp[bv]) hf,hb.trans (Z5C hf hb.size h0)⟩
theorem ZfT {w:World} {v:Value} {n:Num} (h:NV w v n) (hs:Sz n):
  Calls Tryz.prog 196 #[v] w λx w'=>∃v',x=.returned v'/\NV w' v' (Z28 n)/\Below w.heap.size w w':=by
 obtain⟨A,cap,rfl,ak,hc,hm⟩:=h;obtain⟨b,d,e⟩:=n;obtain⟨s1,s2,s3⟩:=hs;simp only at*;have fE:=Bk.new (w.alloc (.cells #[.bool b,.slice A d.length cap,.int .i64 e] 197)) 197 #[.bool false,.slice none 0 0,.int .i64 0];rw[World.size_alloc] at fE;have ud:Bk ((w.alloc (.cells #[.bool b,.slice A d.length cap,.int .i64 e] 197)).alloc (.cells #[.bool false,.slice none 0 0,.int .i64 0] 197)) w.heap.size 197 #[.bool b,.slice A d.length cap,.int .i64 e]:=Bk.alloc (Bk.new _ _ _) _;have aA:=Z8G w (.cells #[.bool b,.slice A d.length cap,.int .i64 e] 197) (.cells #[.bool false,.slice none 0 0,.int .i64 0] 197);have mZ:=(ak.alloc (.cells #[.bool b,.slice A d.length cap,.int .i64 e] 197)).alloc (.cells #[.bool false,.slice none 0 0,.int .i64 0] 197);have H1:=h_ (Z92 mZ d.length cap rfl hc hm);have p9:=h_ ud;have jJ:=h_ fE;have aI:=h_ aA;clear ak mZ ud fE aA;go_enter Tryz.func196,Tryz.ntmps196;go_wp2_with fail;refine(H1.o).mono ?_;rintro x w1 ⟨v1,rfl,⟨A1,iY,rfl,cI,bY,dh⟩,a7⟩;obtain⟨T,hT⟩:∃T,Z1K d=T:=⟨_,rfl⟩;have fw:T.length<=d.length:=(by rw[<-hT];exact Z5B d);have ox:Z28 ⟨b,d,e⟩=if Z1h T=[] then Z7t else⟨b,Z1h T,e+((T.length-(Z1h T).length:Nat):Int)⟩:=by unfold Z28;simp only[hT]
 rw[hT] at cI bY;obtain⟨R,hR⟩:∃R,Z1h T=R:=⟨_,rfl⟩;have cT:R.length<=T.length:=(by rw[<-hR];exact Z8A T)
 have uI:T.take R.length=R:=by
  obtain⟨k,hk⟩:=Z8z T;rw[hR] at hk;have:T.take R.length=(R++List.replicate k 48).take R.length:=(by rw[<-hk]);rw[this,List.take_left]
 have gS:=Bk.below p9.o a7 (Bk.lt p9.o);have cA:=Bk.below jJ.o a7 (Bk.lt jJ.o);have iq:=aI.o.trans (a7.mono aI.o.size)
 have dt:∀v∈T.map bv,v∉(#[.bool b,.slice A d.length cap,.int .i64 e]:Array Value).toList:=λv hv=>by
  obtain⟨y,_,rfl⟩:=List.mem_map.1 hv;simp[bv]
 have bL:=ZeV cI gS dt 1 (.slice A1 T.length iY);have dN:=gS.put 1 (.slice A1 T.length iY);have bQ:=cA.off (p:=⟨w.heap.size,1,none⟩) (by simp) (.slice A1 T.length iY);have iZ:=iq.setCell (p:=⟨w.heap.size,1,none⟩) (Nat.le_refl _) (.slice A1 T.length iY);have c1:=gS.cell 1;have f1:=gS.frozen 1;simp at c1;have h2:=Z7O bL T.length iY rfl bY dh;rw[hR] at h2;rw[hT];have H2:=h_ h2;have rh:=h_ dN;have fp:=h_ bQ;have kB:=h_ iZ;have kx:=h_ bL;rw[hR] at ox;have CW:=h_ ox;have xq:=h_ uI;clear gS cA iq dt bL dN bQ iZ a7 cI H1 p9 jJ aI ox uI hT hR h2;go_wp2_with fail;refine(H2.o).mono ?_;rintro x w2 ⟨rfl,a8⟩;have nS:=Bk.below rh.o a8 (Bk.lt rh.o);have eJ:=Bk.below fp.o a8 (Bk.lt fp.o);have bH:=kx.o.below a8;have fe:=kB.o.trans (a8.mono kB.o.size);clear c1 f1;have e1:((T.length-R.length:Nat):Int)=(T.length:Int)-(R.length:Int):=(by omega);obtain⟨E,hE⟩:∃E,e+((T.length:Int)-(R.length:Int))=E:=⟨_,rfl⟩
 have dt:∀(L:List UInt8) (x:Bool) (y:Value) (z:Int),y=.slice A1 T.length iY\/y=.slice none 0 0->∀v∈L.map bv,v∉(#[.bool x,y,.int .i64 z]:Array Value).toList:=λL x y z hy v hv=>by
  obtain⟨q,_,rfl⟩:=List.mem_map.1 hv;rcases hy with rfl|rfl<;>simp[bv]
 have kC:Bk w2 w.heap.size 197 #[.bool b,.slice A1 T.length iY,.int .i64 e]:=(by simpa using nS);have CX:Bk (w2.setCell ⟨w.heap.size,2,none⟩ (.int .i64 E)) w.heap.size 197 #[.bool b,.slice A1 T.length iY,.int .i64 E]:=(by simpa using kC.put 2 (.int .i64 E));have dm:=ZeV bH kC (dt _ _ _ _ (.inl rfl)) 2 (.int .i64 E);have cY:=ZeV dm CX (dt _ _ _ _ (.inl rfl)) 1 (.slice A1 R.length R.length);have gA:=(eJ.off (p:=⟨w.heap.size,2,none⟩) (by simp) (.int .i64 E)).off (p:=⟨w.heap.size,1,none⟩) (by simp) (.slice A1 R.length R.length);have ir:=(fe.setCell (p:=⟨w.heap.size,2,none⟩) (Nat.le_refl _) (.int .i64 E)).setCell (p:=⟨w.heap.size,1,none⟩) (Nat.le_refl _) (.slice A1 R.length R.length);have c0:=kC.cell 0;have c1:=kC.cell 1;have c2:=kC.cell 2;have f1:=kC.frozen 1;have f2:=kC.frozen 2;have r0:=eJ.cell 0;have r1:=eJ.cell 1;have r2:=eJ.cell 2;have g0:=eJ.frozen 0;have g1:=eJ.frozen 1;have g2:=eJ.frozen 2;simp at c0 c1 c2 r0 r1 r2;have hz:=h_ dt;have cu:=Zbn cY R.length;rw[<-List.map_take,xq.o] at cu;have gB:=h_ cu;have lM:=h_ gA;have rI:=h_ ir;have Uc: -4000000<=E/\E<=4000000:=(by omega);have HE:=h_ hE;have La:=h_ e1;clear e1;have fB:R.length<=iY:=(by omega);clear nS kC CX bH dm cY cu eJ gA fe ir a8 rh fp kB kx H2 dt;by_cases nN:R=[]
 ·have hl:R.length=0:=(by rw[nN];rfl);have ht:=CW.o;rw[if_pos nN] at ht;have Ht:=h_ ht;obtain⟨WF,gj,u0,u1,u2,gC,eo⟩:=Z3s lM.o rI.o (by omega) gB.o false (.slice none 0 0) 0;have jK:=h_ gj;have gD:=h_ eo;have cZ:((R.length:Int)==0)=true:=(by rw[beq_iff_eq];omega);clear ht CW gj gC eo lM rI gB nN HE La hz xq hl;go_wp2;rw[jK.o];refine bodyPost_ret (by simp[results,Tryz.results196,go_sem,u0,u1,u2];try rfl) rfl ?_;rw[Ht.o];exact⟨_,rfl,⟨none,0,rfl,At.nil _ _,Nat.le_refl _,Nat.zero_le _⟩,gD.o⟩
 ·have hl:((R.length:Int)==0)=false:=by
   rw[beq_eq_false_iff_ne];intro h;exact nN (List.eq_nil_of_length_eq_zero (by omega))
  have ht:=CW.o;rw[if_neg nN] at ht;have Ht:=h_ ht;obtain⟨WF,gj,u0,u1,u2,gC,eo⟩:=Z3s lM.o rI.o (by omega) gB.o b (.slice A1 R.length R.length) E;have jK:=h_ gj;have pa:=h_ gC;have gD:=h_ eo;clear ht nN CW gj gC eo lM rI gB;go_wp2;rw[jK.o];refine bodyPost_ret (by simp[results,Tryz.results196,go_sem,u0,u1,u2];try rfl) rfl ?_;rw[Ht.o];exact⟨_,rfl,⟨A1,R.length,by rw[La.o,HE.o],pa.o,Nat.le_refl _,Nat.le_trans fB dh⟩,gD.o⟩
def hitB (S L:List UInt8) (k:Nat):Bool:=match L[k]? with
 |some c=>S.contains c
 |none=>false
def hitK (S L:List UInt8) (k:Nat):Nat:=if hitB S L k then k+1 else k
theorem byte_at (s:ByteArray) (k:Nat) (h:k<s.size):(toL s)[k]? =some (s[k]'h):=by
 have hl:k<(toL s).length:=h;rw[List.getElem?_eq_getElem hl];simp only[toL,Array.getElem_toList];rfl
theorem ZlN (s:ByteArray) (k:Nat) (h:¬k<s.size):(toL s)[k]? =none:=List.getElem?_eq_none (by rw[Z01];omega)
theorem ZlO {w:World} {ba bb k:Nat} {s:ByteArray} {S:List UInt8} (ha:Bk w ba 3 #[.int .i64 (k:Int)]) (hb:Bk w bb 9 #[.string s]) (hk:k<=s.size) (hs:s.size<=64) (hS:S.length<=2):
  Calls Tryz.prog 194 #[.string (bs S),.pointer (some ⟨ba,0,none⟩),.pointer (some ⟨bb,0,none⟩)] w λx w'=>x=.returned (.bool (hitB S (toL s) k))/\Bk w' ba 3 #[.int .i64 (hitK S (toL s) k:Int)]/\Bk w' bb 9 #[.string s]/\Fr (only ba) w w':=by
 have Ha:=h_ ha;have Hb:=h_ hb;have ad:(bs S).size=S.length:=rfl;by_cases ab:k<s.size
 ·have ak:=byte_at s k ab;obtain⟨c,hc⟩:∃c,s[k]=c:=⟨_,rfl⟩;rw[hc] at ak;have kD:hitB S (toL s) k=S.contains c:=(by unfold hitB;rw[ak]);have oH:((s[k]'ab).toNat:Int)=(c.toNat:Int):=(by rw[hc]);have e9:=h_ (show ∀(i:Nat) (h:i<(bs S).size) (h2:i<S.length),((bs S)[i]'h)=S[i] from λi h h2=>rfl);have lN:=h_ kD;have dw:=h_ (show S.contains c=false->hitK S (toL s) k=k from λh=>by unfold hitK;rw[kD,h];rfl);have fP:=h_ (show S.contains c=true->hitK S (toL s) k=k+1 from λh=>by unfold hitK;rw[kD,h];rfl);obtain⟨C,hC⟩:∃C,c.toNat=C:=⟨_,rfl⟩;rw[hC] at oH;have HC:=h_ hC;generalize bs S=B at*;obtain⟨L,hL⟩:∃L,S.length=L:=⟨_,rfl⟩;have HL:=h_ hL;rw[hL] at ad hS;have cH:=h_ ad;have PX:B.size<=2:=(by omega);clear ha hb kD ad hL ak hc hC;go_enter Tryz.func194,Tryz.ntmps194;go_wp2;go_loopw [8] (λiv wr=>∃i:Nat,i<=B.size/\iv=.int .i64 i/\Bk wr ba 3 #[.int .i64 (k:Int)]/\Bk wr bb 9 #[.string s]/\Hid (∀j,j<i->S[j]? ≠some c)/\Fr (only ba) w wr) (λiv _=>(B.size-intOf iv).toNat);case atStart=>exact⟨0,by omega,rfl,Ha.o,Hb.o,h_ (λj h=>by omega),Fr.refl _ _⟩
  case round=>
   obtain⟨i,hi,rfl,eV,a7,dt,hf⟩:=hrel;have c0:=eV.cell 0;have c1:=a7.cell 0;have f0:=eV.frozen 0;simp at c0 c1;by_cases bz:i<B.size
   ·have qB:i<S.length:=(by rw[HL.o];have:=cH.o;omega);obtain⟨d,hd⟩:∃d,S[i]=d:=⟨_,rfl⟩;obtain⟨D,hD⟩:∃D,d.toNat=D:=⟨_,rfl⟩;have xa:((B[i]'bz).toNat:Int)=(D:Int):=(by rw[e9.o i bz qB,hd,hD]);by_cases iu:c=d
    ·have jI:S.contains c=true:=by
      rw[List.contains_iff_mem,iu,<-hd];exact List.getElem_mem _
     have heq:((C:Int)==(D:Int))=true:=(by rw[beq_iff_eq,<-HC.o,<-hD,iu]);have hh:=lN.o;rw[jI] at hh;have Hh:=h_ hh;have lr:=fP.o jI;have rJ:=h_ lr;clear jI hh lr lN dw fP dt e9 hd hD iu HC HL cH;go_wp2;go_quiet (fail);go_wp2;go_returns;rw[Hh.o,rJ.o];refine⟨rfl,?_,(a7.drewN nq).off (p:=⟨ba,0,none⟩) ?_ _,Z1Z (hf.drewN nq) 0 _⟩
     ·simpa using (eV.drewN nq).put 0 (.int .i64 ((k+1:Nat):Int))
     ·exact λe=>(a7.apart eV (by decide)) e
    ·have ay:((C:Int)==(D:Int))=false:=by
      rw[beq_eq_false_iff_ne,<-HC.o,<-hD];intro e;exact iu (UInt8.toNat_inj.1 (by omega))
     have FC:Hid (∀j,j<i+1->S[j]? ≠some c):=h_ (λj h=>by
      rcases Nat.lt_or_ge j i with h1|h1
      ·exact dt.o j h1
      ·have:j=i:=(by omega);subst this;rw[List.getElem?_eq_getElem qB,hd];intro e;injection e with e;exact iu e.symm)
     clear lN dw fP dt e9 hd hD iu HC HL cH;go_wp2;go_quiet (fail);go_wp2;refine⟨⟨i+1,by omega,by go_num,eV.drewN nq,a7.drewN nq,FC,hf.drewN nq⟩,?_⟩;simp[intOf]<;>omega
   ·have jI:S.contains c=false:=by
     rw[Bool.eq_false_iff];intro h;rw[List.contains_iff_mem] at h;obtain⟨j,hj,he⟩:=List.getElem_of_mem h;exact dt.o j (by have:=HL.o;have:=cH.o;omega) (by rw[List.getElem?_eq_getElem hj,he])
    have hh:=lN.o;rw[jI] at hh;have Hh:=h_ hh;have lr:=dw.o jI;have rJ:=h_ lr;clear jI hh lr lN dw fP dt e9 HC HL cH;go_wp2;go_returns;rw[Hh.o,rJ.o];exact⟨rfl,eV,a7,hf⟩
 ·have kD:hitB S (toL s) k=false:=(by unfold hitB;rw[ZlN s k ab]);have cE:k=s.size:=(by omega);have lN:=h_ kD;have rJ:=h_ (show hitK S (toL s) k=k by unfold hitK;rw[kD];rfl);generalize bs S=B at*;obtain⟨L,hL⟩:∃L,S.length=L:=⟨_,rfl⟩;rw[hL] at ad hS;have cH:=h_ ad;have PX:B.size<=2:=(by omega);clear ha hb kD ad hL;go_enter Tryz.func194,Tryz.ntmps194;go_wp2;go_loopw [8] (λiv wr=>∃i:Nat,i<=B.size/\iv=.int .i64 i/\Bk wr ba 3 #[.int .i64 (k:Int)]/\Bk wr bb 9 #[.string s]/\Fr (only ba) w wr) (λiv _=>(B.size-intOf iv).toNat);case atStart=>exact⟨0,by omega,rfl,Ha.o,Hb.o,Fr.refl _ _⟩
  case round=>
   obtain⟨i,hi,rfl,eV,a7,hf⟩:=hrel;have c0:=eV.cell 0;have c1:=a7.cell 0;simp at c0 c1;by_cases bz:i<B.size
   ·go_wp2;go_quiet (fail);go_wp2;refine⟨⟨i+1,by omega,by go_num,eV.drewN nq,a7.drewN nq,hf.drewN nq⟩,?_⟩;simp[intOf]<;>omega
   ·go_wp2;go_returns;rw[lN.o,rJ.o];exact⟨rfl,by first|exact eV|(rw[cE] at eV;exact eV),a7,hf⟩
theorem ZfU (L:List UInt8):dfr L=L.take (dfr L).length:=by
 have h:=(List.takeWhile_prefix isD (l:=L));exact(List.prefix_iff_eq_take.1 h)
theorem ZlP (L:List UInt8) (j:Nat) (h:j<(dfr L).length):∃c,L[j]? =some c/\isD c=true:=by
 obtain⟨c,hc⟩:∃c,(dfr L)[j]=c:=⟨_,rfl⟩;have hd:isD c=true:=hc▸Z7v L _ (List.getElem_mem _);have h1:(dfr L)[j]? =some c:=(by rw[List.getElem?_eq_getElem h,hc]);have h2:(L.take (dfr L).length)[j]? =some c:=(by rw[<-ZfU L];exact h1);rw[List.getElem?_take,if_pos h] at h2;exact⟨c,h2,hd⟩
theorem ZiX (L:List UInt8):∀c,L[(dfr L).length]? =some c->isD c=false:=by
 unfold dfr;induction L with
 |nil=>intro c h;simp at h
 |cons a t ih=>
  intro c h;rw[List.takeWhile_cons] at h;split at h
  ·rw[List.length_cons,List.getElem?_cons_succ] at h;exact ih c h
  ·rename_i ha;simp at h;subst h;simpa using ha
def amu (b n:Nat) (w:World):Nat:=match w.cell? ⟨b,0,none⟩ with
 |some (.int _ k)=>(n-k).toNat
 |_=>0
theorem Zkv {w:World} {b n k:Nat} (h:Bk w b 3 #[.int .i64 (k:Int)]):amu b n w=((n:Int)-(k:Int)).toNat:=by
 have:=h.cell 0;simp at this;unfold amu;rw[this]
theorem ZlQ (s:ByteArray) (a b:Nat):s.extract a b=bs (((toL s).drop a).take (b-a)):=by
 apply ByteArray.ext;apply Array.toList_inj.1;simp only[bs,toL,ByteArray.data_extract,Array.toList_extract,List.extract_eq_take_drop]
theorem ZlR {w:World} {ba bb k:Nat} {s:ByteArray} (ha:Bk w ba 3 #[.int .i64 (k:Int)]) (hb:Bk w bb 9 #[.string s]) (hk:k<=s.size) (hs:s.size<=64):
  Calls Tryz.prog 195 #[.pointer (some ⟨ba,0,none⟩),.pointer (some ⟨bb,0,none⟩)] w λx w'=>x=.returned (.string (bs (dfr ((toL s).drop k))))/\Bk w' ba 3 #[.int .i64 ((k+(dfr ((toL s).drop k)).length:Nat):Int)]/\Bk w' bb 9 #[.string s]/\Fr (only ba) w w':=by
 have Ha:=h_ ha;have Hb:=h_ hb;have uJ:=ZfU ((toL s).drop k);have e9:=h_ (ZlP ((toL s).drop k));have pb:=h_ (ZiX ((toL s).drop k));obtain⟨D,hD⟩:∃D,dfr ((toL s).drop k)=D:=⟨_,rfl⟩;rw[hD] at uJ e9 pb⊢;obtain⟨m,hm⟩:∃m,k+D.length=m:=⟨_,rfl⟩
 have fQ:D.length<=s.size-k:=by
  have:=Z7x ((toL s).drop k);rw[hD,List.length_drop,Z01] at this;exact this
 have fO:m<=s.size:=by omega
 have hex:s.extract k m=bs D:=by
  rw[ZlQ,show m-k=D.length by omega,<-uJ]
 have gU:=h_ hex;have Hm:=h_ hm;rw[hm];have mY:k<=m:=(by omega)
 have bd:Hid (∀j,k<=j->j<m->∃(h:j<s.size),isD (s[j]'h)=true):=h_ (λj h1 h2=>by
  obtain⟨c,bY,dF⟩:=e9.o (j-k) (by omega);have hj:j<s.size:=(by omega);refine⟨hj,?_⟩;rw[List.getElem?_drop,show k+(j-k)=j by omega,byte_at s j hj] at bY;injection bY with bY;rw[bY];exact dF)
 have dP:Hid (∀(h:m<s.size),isD (s[m]'h)=false):=h_ (λh=>by
  refine pb.o _ ?_;rw[List.getElem?_drop,show k+D.length=m from hm];exact byte_at s m h)
 clear ha hb uJ e9 pb hD fQ hex hm;have PY:=Ha.o.cell 0;simp at PY;go_enter Tryz.func195,Tryz.ntmps195;go_wp2;go_loopw [] (λwr=>∃j:Nat,k<=j/\j<=m/\Bk wr ba 3 #[.int .i64 (j:Int)]/\Bk wr bb 9 #[.string s]/\Fr (only ba) w wr) (λwr=>amu ba m wr);case atStart=>exact⟨k,Nat.le_refl _,mY,Ha.o,Hb.o,Fr.refl _ _⟩
 case round=>
  obtain⟨j,nK,sW,eV,a7,hf⟩:=hrel;have c0:=eV.cell 0;have c1:=a7.cell 0;have f0:=eV.frozen 0;simp at c0 c1;by_cases ab:j<m
  ·obtain⟨Lb,uK⟩:=bd.o j nK ab;obtain⟨C,hC⟩:∃C,(s[j]'Lb).toNat=C:=⟨_,rfl⟩
   have FD:48<=C/\C<=57:=by
    unfold isD at uK;simp at uK;omega
   obtain⟨q1,q2⟩:=FD;have ay:=a7.apart eV (by decide);have aj:=eV.put 0 (.int .i64 ((j+1:Nat):Int));have av:=h_ (show Bk (wr.setCell ⟨ba,0,none⟩ (.int .i64 ((j+1:Nat):Int))) ba 3 #[.int .i64 ((j+1:Nat):Int)] by simpa using aj);have an:=h_ (a7.off (p:=⟨ba,0,none⟩) ay (.int .i64 ((j+1:Nat):Int)));have Hf:=h_ (Z1Z hf 0 (.int .i64 ((j+1:Nat):Int)));have xr:=h_ (Zkv (n:=m) eV);clear uK aj a7 hf eV ay bd dP;go_wp2;have e1:(j:Int)+1=((j+1:Nat):Int):=(by omega);rw[e1];refine⟨⟨j+1,by omega,by omega,av.o,an.o,Hf.o⟩,?_⟩;rw[Zkv av.o,xr.o];omega
  ·have yY:j=m:=(by omega);subst yY;have qC:=h_ eV;have an:=h_ a7;have Hf:=h_ hf;have qz:(k:Int)<=(j:Int):=(by omega);by_cases Lb:j<s.size
   ·have uK:=dP.o Lb;obtain⟨C,hC⟩:∃C,(s[j]'Lb).toNat=C:=⟨_,rfl⟩
    have FD:C<48\/57<C:=by
     unfold isD at uK;simp at uK;omega
    clear uK eV a7 hf bd dP;rcases FD with q1|q1
    all_goals
     go_wp2;go_returns;exact⟨Z7z gU.o,qC.o,an.o,Hf.o⟩
   ·have Ud:¬(j:Int)<(s.size:Int):=(by omega);clear eV a7 hf bd dP;go_wp2;go_returns;exact⟨Z7z gU.o,qC.o,an.o,Hf.o⟩
theorem Zkw {s t:ByteArray} {a b:Int} (h:s=t) (h2:a=b):Ending.returned (.tuple #[.string s,.int .i64 a])=.returned (.tuple #[.string t,.int .i64 b]):=by rw[h,h2]
theorem ZfV {w:World} {v:Value} {n:Num} (h:NV w v n) (hs:Sz n) (ht:Tab w):
  Calls Tryz.prog 152 #[v] w λx w'=>x=.returned (.tuple #[.string (bs (Z29 n).1),.int .i64 ((Z29 n).2:Int)])/\Below w.heap.size w w':=by
 obtain⟨A,cap,rfl,ak,hc,hm⟩:=h;obtain⟨b,d,e⟩:=n;obtain⟨s1,s2,s3⟩:=hs;simp only at*
 have jl:Z29 ⟨b,d,e⟩=if d=[] then([48],0) else if 17<d.length\/e+d.length-1< -400\/400<e+d.length-1 then([],9)
  else((if b then[45] else[])++d.take 1++(if 1<d.length then 46::d.drop 1 else[])++101::decZ (e+d.length-1),0):=rfl
 have aA:=(Below.refl w.heap.size w).alloc (Nat.le_refl _) (.cells #[.bool b,.slice A d.length cap,.int .i64 e] 197);have ud:Bk (w.alloc (.cells #[.bool b,.slice A d.length cap,.int .i64 e] 197)) w.heap.size 197 #[.bool b,.slice A d.length cap,.int .i64 e]:=Bk.new _ _ _;have aI:=h_ aA;have p9:=h_ ud;have bd:=h_ ak;have Ht:=h_ ht;have Hf:=h_ (λW=>Zcx b A d.length cap e s1 s2 s3 W);clear aA ud ak ht;by_cases h0:d=[]
 ·subst h0;have nT:=h_ (jl.trans (if_pos rfl));clear jl Hf;go_enter Tryz.func152,Tryz.ntmps152;go_wp2;go_returns;exact⟨by rw[nT.o]<;>rfl,aI.o⟩
 ·rw[if_neg h0] at jl
  have gk:((d.length:Int)==0)=false:=by
   rw[beq_eq_false_iff_ne];intro h;exact h0 (List.eq_nil_of_length_eq_zero (by omega))
  have PZ:0<d.length:=List.length_pos_iff.2 h0;obtain⟨L,hL⟩:∃L,d.length=L:=⟨_,rfl⟩;obtain⟨F,hF⟩:∃F,e+(L:Int)-1=F:=⟨_,rfl⟩;rw[hL] at jl Hf p9 aI hc gk PZ s3⊢;rw[hF] at jl Hf;by_cases sN:17<L
  ·rw[if_pos (.inl sN)] at jl;have nT:=h_ jl;have FE:(17:Int)<(L:Int):=(by omega);clear jl Hf sN hF;go_enter Tryz.func152,Tryz.ntmps152;go_wp2;go_returns;exact⟨by rw[nT.o]<;>rfl,aI.o⟩
  ·have FE:¬(17:Int)<(L:Int):=(by omega);by_cases iW:F< -400
   ·rw[if_pos (.inr (.inl iW))] at jl;have nT:=h_ jl;clear jl sN hF;go_enter Tryz.func152,Tryz.ntmps152;go_wp2_with fail;refine(Hf.o _).mono ?_;rintro r w1 ⟨rfl,a7⟩;have dA:=aI.o.trans (a7.mono aI.o.size);go_wp2;go_returns;exact⟨by rw[nT.o]<;>rfl,dA⟩
   ·by_cases lq:400<F
    ·rw[if_pos (.inr (.inr lq))] at jl;have nT:=h_ jl;clear jl sN hF;go_enter Tryz.func152,Tryz.ntmps152;go_wp2_with fail;refine(Hf.o _).mono ?_;rintro r w1 ⟨rfl,a7⟩;have gS:=Bk.below p9.o a7 (Bk.lt p9.o);have iq:=aI.o.trans (a7.mono aI.o.size);have c0:=gS.cell 0;have c1:=gS.cell 1;have c2:=gS.cell 2;simp at c0 c1 c2;have lO:=h_ iq;clear gS iq a7;go_wp2_with fail;refine(Hf.o _).mono ?_;rintro r w2 ⟨rfl,a8⟩;have dA:=lO.o.trans (a8.mono lO.o.size);go_wp2;go_returns;exact⟨by rw[nT.o]<;>rfl,dA⟩
    ·rw[if_neg (by omega)] at jl;have nT:=h_ jl;have HL:=h_ hL;clear jl sN hF;go_enter Tryz.func152,Tryz.ntmps152;go_wp2_with fail;refine(Hf.o _).mono ?_;rintro r w1 ⟨rfl,a7⟩;have gS:=Bk.below p9.o a7 (Bk.lt p9.o);have iq:=aI.o.trans (a7.mono aI.o.size);have c0:=gS.cell 0;have c1:=gS.cell 1;have c2:=gS.cell 2;simp at c0 c1 c2;have ow:=h_ gS;have lO:=h_ iq;clear gS iq a7;go_wp2_with fail;refine(Hf.o _).mono ?_;rintro r w2 ⟨rfl,a8⟩;have dN:=Bk.below ow.o a8 (Bk.lt ow.o);have iZ:=lO.o.trans (a8.mono lO.o.size);clear c0 c1 c2;have c0:=dN.cell 0;have c1:=dN.cell 1;have c2:=dN.cell 2;simp at c0 c1 c2;have bL:=bd.o.below iZ;have l1:(d.take 1).length=1:=(by rw[List.length_take,HL.o];omega)
     have EA:(convert 115 9 (.slice A 1 cap)).run Tryz.prog w2=.ok (.string (bs (d.take 1))) w2:=by
      have:=ZeU (P:=Tryz.prog) 115 9 5 Tryz.underlying115 Tryz.underlying5 Tryz.underlying9 (w:=w2) (A:=A) (l:=d.take 1) (by rw[List.map_take];exact Zbn bL 1) cap;rw[l1] at this;exact this
     have Lc:=h_ (λW (h:Below w.heap.size w W)=>ZeX (Ht.o.below h) F (by omega) (by omega))
     have ta:(decZ F).length<=4:=by
      unfold decZ;split
      ·have:=Z3p (n:=(-F).toNat) (k:=3) (by omega) (by omega);rw[List.length_cons];omega
      ·have:=Z3p (n:=F.toNat) (k:=3) (by omega) (by omega);omega
     have z1:(bs (d.take 1)).size<=1:=(by rw[Z00,l1];exact Nat.le_refl _);have z3:(bs (decZ F)).size<=4:=(by rw[Z00];exact ta);have rh:=h_ dN;have kB:=h_ iZ;by_cases Ld:L=1
     ·have jL:=nT.o;rw[if_neg (show ¬1<L by omega),List.append_nil] at jL
      have lP:Hid ((if b then(⟨#[45]⟩:ByteArray)++bs (d.take 1) else bs (d.take 1))++(⟨#[101]⟩:ByteArray)++bs (decZ F)=bs (Z29 ⟨b,d,e⟩).1):=h_ (by
       rw[jL];have e1:(⟨#[101]⟩:ByteArray)=bs [101]:=rfl;have e2:(⟨#[45]⟩:ByteArray)=bs [45]:=rfl;rw[e1,e2];cases b
       ·simp[Z0f]
       ·simp[Z0f])
      have H0:Hid ((Z29 ⟨b,d,e⟩).2=0):=h_ (by rw[jL]);subst Ld;generalize bs (d.take 1)=S1 at*;generalize bs (decZ F)=S3 at*;clear jL nT dN iZ bL l1 ta ow lO p9 aI bd a8;cases b
      all_goals
       go_wp2_with fail;refine(Hf.o _).mono ?_;rintro r w3 ⟨rfl,ae⟩;have fe:=kB.o.trans (ae.mono kB.o.size);go_wp2_with fail;refine(Lc.o _ fe).mono ?_;rintro r w4 ⟨rfl,aw⟩;have ir:=fe.trans (aw.mono fe.size);clear fe ae aw c0 c1 c2;go_wp2;go_returns;exact⟨Zkw (by have:=lP.o;simpa using this) (by rw[H0.o];rfl),ir⟩
     ·have CQ:1<L:=(by omega);have Q0:(1:Int)<(L:Int):=(by omega);have jL:=nT.o;rw[if_pos CQ] at jL;obtain⟨bA,oA,hA,_,_⟩:=bL 0 (by rw[List.length_map,HL.o];omega);subst hA;have l2:(d.drop 1).length=L-1:=(by rw[List.length_drop,HL.o])
      have EB:(convert 115 9 (.slice (some ⟨bA,oA+1,none⟩) (L-1) (cap-1))).run Tryz.prog w2=.ok (.string (bs (d.drop 1))) w2:=by
       have:=ZeU (P:=Tryz.prog) 115 9 5 Tryz.underlying115 Tryz.underlying5 Tryz.underlying9 (w:=w2) (A:=some ⟨bA,oA+1,none⟩) (l:=d.drop 1) (by rw[List.map_drop];exact Zbm bL 1) (cap-1);rw[l2] at this;exact this
      have bY:¬cap=1:=(by omega);have z2:(bs (d.drop 1)).size<=17:=(by rw[Z00,l2];omega)
      have lP:Hid ((if b then(⟨#[45]⟩:ByteArray)++(bs (d.take 1)++((⟨#[46]⟩:ByteArray)++bs (d.drop 1))) else bs (d.take 1)++((⟨#[46]⟩:ByteArray)++bs (d.drop 1)))++(⟨#[101]⟩:ByteArray)++bs (decZ F)=bs (Z29 ⟨b,d,e⟩).1):=h_ (by
       rw[jL];have e1:(⟨#[101]⟩:ByteArray)=bs [101]:=rfl;have e2:(⟨#[45]⟩:ByteArray)=bs [45]:=rfl;have e3:(⟨#[46]⟩:ByteArray)=bs [46]:=rfl;rw[e1,e2,e3];cases b
       ·simp[Z0f]
       ·simp[Z0f])
      have H0:Hid ((Z29 ⟨b,d,e⟩).2=0):=h_ (by rw[jL]);generalize bs (d.take 1)=S1 at*;generalize bs (d.drop 1)=S2 at*;generalize bs (decZ F)=S3 at*;clear jL nT dN iZ bL l1 l2 ta ow lO p9 aI bd a8 Ld;cases b
      all_goals
       go_wp2_with fail;refine(Hf.o _).mono ?_;rintro r w3 ⟨rfl,ae⟩;have fe:=kB.o.trans (ae.mono kB.o.size);go_wp2_with fail;refine(Lc.o _ fe).mono ?_;rintro r w4 ⟨rfl,aw⟩;have ir:=fe.trans (aw.mono fe.size);clear fe ae aw c0 c1 c2;go_wp2;go_returns;exact⟨Zkw (by have:=lP.o;simpa using this) (by rw[H0.o];rfl),ir⟩
def sgK (L:List UInt8) (k:Nat):Nat:=if hitB [45] L k then k+1 else hitK [43] L k
theorem Z3b (S L:List UInt8) (k:Nat):(L.length<=k/\hitB S L k=false/\L.drop k=[])\/(∃c,L[k]? =some c/\k<L.length/\hitB S L k=S.contains c/\L.drop k=c::L.drop (k+1)):=by
 by_cases h:k<L.length
 ·right;refine⟨L[k],List.getElem?_eq_getElem h,h,?_,List.drop_eq_getElem_cons h⟩;unfold hitB;rw[List.getElem?_eq_getElem h]
 ·left;refine⟨by omega,?_,List.drop_eq_nil_of_le (by omega)⟩;unfold hitB;rw[List.getElem?_eq_none (by omega)]
theorem Z93 (L:List UInt8) (k:Nat):sgn (L.drop k)=(hitB [45] L k,L.drop (sgK L k)):=by
 unfold sgK hitK;rcases Z3b [45] L k with ⟨h1,h2,h3⟩|⟨c,h1,h2,h3,h4⟩
 ·have h5:hitB [43] L k=false:=(by unfold hitB;rw[List.getElem?_eq_none h1]);rw[h2,h5,h3];simp[sgn,h3]
 ·have h5:hitB [43] L k=[43].contains c:=(by unfold hitB;rw[h1]);rw[h3,h5,h4,Z7w];by_cases e1:c=45
  ·subst e1;simp
  ·by_cases e2:c=43
   ·subst e2;simp
   ·simp[e1,e2,h4]
theorem Zkx {L:List UInt8} {k:Nat} (hk:k<=L.length):k<=sgK L k/\sgK L k<=L.length:=by
 unfold sgK hitK;rcases Z3b [45] L k with ⟨h1,h2,h3⟩|⟨c,h1,h2,h3,h4⟩
 ·have h5:hitB [43] L k=false:=(by unfold hitB;rw[List.getElem?_eq_none h1]);rw[h2,h5];simp[hk]
 ·split
  ·omega
  ·split<;>omega
theorem Zky {S L:List UInt8} {k:Nat} (h:hitB S L k=true):k<L.length:=by
 rcases Z3b S L k with ⟨h1,h2,h3⟩|⟨c,h1,h2,h3,h4⟩
 ·rw[h2] at h;cases h
 ·exact h2
theorem Z5f {S L:List UInt8} {k:Nat} (h:hitB S L k=true):hitK S L k=k+1:=by unfold hitK;rw[if_pos h]
theorem Z7P {S L:List UInt8} {k:Nat} (h:hitB S L k=false):hitK S L k=k:=by unfold hitK;rw[h];rfl
theorem Z7Q (L:List UInt8) (k:Nat):aft (L.drop k)=L.drop (k+(dfr (L.drop k)).length):=by
 have h:L.drop k=dfr (L.drop k)++aft (L.drop k):=(List.takeWhile_append_dropWhile (p:=isD) (l:=L.drop k)).symm
 have h2:(L.drop k).drop (dfr (L.drop k)).length=aft (L.drop k):=by
  have h3:(dfr (L.drop k)++aft (L.drop k)).drop (dfr (L.drop k)).length=aft (L.drop k):=List.drop_left;rw[<-h] at h3;exact h3
 rw[<-h2,List.drop_drop]
theorem Zab (L:List UInt8) {k:Nat} (hk:k<=L.length):k+(dfr (L.drop k)).length<=L.length:=by
 have:=Z7x (L.drop k);rw[List.length_drop] at this;omega
theorem ZcT (L:List UInt8) (k:Nat):frac (L.drop k)=if hitB [46] L k then(if dfr (L.drop (k+1))=[] then none else some (dfr (L.drop (k+1)),L.drop (k+1+(dfr (L.drop (k+1))).length))) else some ([],L.drop k):=by
 rcases Z3b [46] L k with ⟨h1,h2,h3⟩|⟨c,h1,h2,h3,h4⟩
 ·rw[h2,h3];rfl
 ·rw[h3,h4,Z44];by_cases e:c=46
  ·subst e;simp[Z7Q]
  ·simp[e]
theorem Z6J (f:List UInt8->Nat) (L:List UInt8) (k:Nat):expo f (L.drop k)=if hitB [101,69] L k then(if dfr (L.drop (sgK L (k+1)))=[] then none else some (sg (hitB [45] L (k+1))*(f (dfr (L.drop (sgK L (k+1)))):Int),L.drop (sgK L (k+1)+(dfr (L.drop (sgK L (k+1)))).length))) else some (0,L.drop k):=by
 rcases Z3b [101,69] L k with ⟨h1,h2,h3⟩|⟨c,h1,h2,h3,h4⟩
 ·rw[h2,h3];rfl
 ·rw[h3,h4,Z8B,Z93];by_cases e:c=101\/c=69
  ·have:[101,69].contains c=true:=(by rw[List.contains_iff_mem];simpa using e);rw[this,if_pos e];simp[Z7Q]
  ·have:[101,69].contains c=false:=by
    rw[Bool.eq_false_iff];intro h;rw[List.contains_iff_mem] at h;exact e (by simpa using h)
   rw[this,if_neg e];simp
structure ScSt (w wx:World) (s:ByteArray) (k:Nat) (b:Bool) (v:Value) (D:List UInt8) (e:Int):Prop where
 bs_:Bk wx w.heap.size 9 #[.string s]
 br:Bk wx (w.heap.size+1) 197 #[.bool false,.slice none 0 0,.int .i64 0]
 bn:Bk wx (w.heap.size+1+1) 197 #[.bool b,v,.int .i64 e]
 ba:Bk wx (w.heap.size+1+1+1) 3 #[.int .i64 (k:Int)]
 own:wx.ownsRow w.heap.size 5 1 v D.length (D.map bv)
 bel:Below w.heap.size w wx
theorem ScSt.step {w wx wy:World} {s:ByteArray} {k k':Nat} {b:Bool} {v:Value} {D:List UInt8} {e:Int} (h:ScSt w wx s k b v D e) (hb:Bk wy (w.heap.size+1+1+1) 3 #[.int .i64 (k':Int)]) (hf:Fr (only (w.heap.size+1+1+1)) wx wy):ScSt w wy s k' b v D e where
 bs_:=h.bs_.fr hf (by show ¬_=_;omega)
 br:=h.br.fr hf (by show ¬_=_;omega)
 bn:=h.bn.fr hf (by show ¬_=_;omega)
 ba:=hb
 own:=Z0v h.own hf (λg hg hn=>Z02 h.own h.ba (by decide) (hn▸hg))
 bel:=h.bel.trans (Z5C hf h.bel.size (by omega))
theorem ScSt.num {w wx wy:World} {s:ByteArray} {k:Nat} {b b':Bool} {v:Value} {D:List UInt8} {e e':Int} (h:ScSt w wx s k b v D e) (hb:Bk wy (w.heap.size+1+1) 197 #[.bool b',v,.int .i64 e']) (hf:Fr (only (w.heap.size+1+1)) wx wy):ScSt w wy s k b' v D e' where
 bs_:=h.bs_.fr hf (by show ¬_=_;omega)
 br:=h.br.fr hf (by show ¬_=_;omega)
 bn:=hb
 ba:=h.ba.fr hf (by show ¬_=_;omega)
 own:=Z0v h.own hf (λg hg hn=>Z02 h.own h.bn (by decide) (hn▸hg))
 bel:=h.bel.trans (Z5C hf h.bel.size (by omega))
theorem ScSt.neg {w wx:World} {s:ByteArray} {k:Nat} {b:Bool} {v:Value} {D:List UInt8} {e:Int} (h:ScSt w wx s k b v D e) (b':Bool):ScSt w (wx.setCell ⟨w.heap.size+1+1,0,none⟩ (.bool b')) s k b' v D e:=
 h.num (by simpa using h.bn.put 0 (.bool b')) (Z1Z (Fr.refl _ _) 0 _)
theorem ScSt.exp {w wx:World} {s:ByteArray} {k:Nat} {b:Bool} {v:Value} {D:List UInt8} {e:Int} (h:ScSt w wx s k b v D e) (e':Int):ScSt w (wx.setCell ⟨w.heap.size+1+1,2,none⟩ (.int .i64 e')) s k b v D e':=
 h.num (by simpa using h.bn.put 2 (.int .i64 e')) (Z1Z (Fr.refl _ _) 2 _)
theorem ScSt.app {w wx wy:World} {s:ByteArray} {k:Nat} {b:Bool} {v v':Value} {D E:List UInt8} {e:Int} (h:ScSt w wx s k b v D e) (ho:wy.ownsRow w.heap.size 5 1 v' (D++E).length ((D++E).map bv)) (hg:wx.grownBy wy v.ownBlock):
  Bk wy (w.heap.size+1+1) 197 #[.bool b,v,.int .i64 e]/\ScSt w (wy.setCell ⟨w.heap.size+1+1,1,none⟩ v') s k b v' (D++E) e:=by
 have hn:=h.bn.grown hg (λx=>Z02 h.own h.bn (by decide) x.symm);have hk:=hn.put 1 v';refine⟨hn,?_⟩;refine⟨?_,?_,by simpa using hk,?_,?_,?_⟩
 ·exact(h.bs_.grown hg (λx=>Z02 h.own h.bs_ (by decide) x.symm)).off (p:=⟨w.heap.size+1+1,1,none⟩) (by simp<;>omega) _
 ·exact(h.br.grown hg (λx=>Z02 h.own h.br (by decide) x.symm)).off (p:=⟨w.heap.size+1+1,1,none⟩) (by simp<;>omega) _
 ·exact(h.ba.grown hg (λx=>Z02 h.own h.ba (by decide) x.symm)).off (p:=⟨w.heap.size+1+1,1,none⟩) (by simp<;>omega) _
 ·exact Z2C ho (p:=⟨w.heap.size+1+1,1,none⟩) (Z02 ho hn (by decide)) _
 ·exact(h.bel.grown hg h.bel.size (λk hk=>(h.own.lt k hk).1)).setCell (p:=⟨w.heap.size+1+1,1,none⟩) (by show _<=_+1+1;omega) _
theorem ScSt.one {w wx:World} {s:ByteArray} {k:Nat} {b:Bool} {v:Value} {D:List UInt8} {e:Int} (h:ScSt w wx s k b v D e) (S:List UInt8) (hk:k<=s.size) (hs:s.size<=64) (hS:S.length<=2):
  Calls Tryz.prog 194 #[.string (bs S),.pointer (some ⟨w.heap.size+1+1+1,0,none⟩),.pointer (some ⟨w.heap.size,0,none⟩)] wx λx w'=>x=.returned (.bool (hitB S (toL s) k))/\ScSt w w' s (hitK S (toL s) k) b v D e:=by
 refine(ZlO h.ba h.bs_ hk hs hS).mono ?_;rintro x w' ⟨h1,h2,h3,h4⟩;exact⟨h1,h.step h2 h4⟩
theorem ScSt.dig {w wx:World} {s:ByteArray} {k:Nat} {b:Bool} {v:Value} {D:List UInt8} {e:Int} (h:ScSt w wx s k b v D e) (hk:k<=s.size) (hs:s.size<=64):
  Calls Tryz.prog 195 #[.pointer (some ⟨w.heap.size+1+1+1,0,none⟩),.pointer (some ⟨w.heap.size,0,none⟩)] wx λx w'=>x=.returned (.string (bs (dfr ((toL s).drop k))))/\ScSt w w' s (k+(dfr ((toL s).drop k)).length) b v D e:=by
 refine(ZlR h.ba h.bs_ hk hs).mono ?_;rintro x w' ⟨h1,h2,h3,h4⟩;exact⟨h1,h.step h2 h4⟩
theorem Zac (L:List UInt8):Lib.strCells (bs L)=L.map bv:=by
 unfold Lib.strCells bs bv;simp
def ZfW (w w':World) (o:Option Num) (x:Ending):Prop:=∃v b,x=.returned (.tuple #[v,.bool b])/\Below w.heap.size w w'/\(∃b0 A l c e,v=.agg #[.bool b0,.slice A l c,.int .i64 e])/\(match o with
 |none=>b=false
 |some n=>b=true/\NV w' v n/\Sz n)
theorem ZiY (w:World) (s:ByteArray):
  ScSt w ((((w.alloc (.cells #[.string s] 9)).alloc (.cells #[.bool false,.slice none 0 0,.int .i64 0] 197)).alloc (.cells #[.bool false,.slice none 0 0,.int .i64 0] 197)).alloc (.cells #[.int .i64 0] 3)) s 0 false (.slice none 0 0) [] 0 where
 bs_:=((Bk.new w _ _).alloc _).alloc _|>.alloc _
 br:=by
  have:=Bk.new (w.alloc (.cells #[.string s] 9)) 197 #[.bool false,.slice none 0 0,.int .i64 0];rw[World.size_alloc] at this;exact(this.alloc _).alloc _
 bn:=by
  have:=Bk.new ((w.alloc (.cells #[.string s] 9)).alloc (.cells #[.bool false,.slice none 0 0,.int .i64 0] 197)) 197 #[.bool false,.slice none 0 0,.int .i64 0];rw[World.size_alloc,World.size_alloc] at this;exact this.alloc _
 ba:=by
  have:=Bk.new (((w.alloc (.cells #[.string s] 9)).alloc (.cells #[.bool false,.slice none 0 0,.int .i64 0] 197)).alloc (.cells #[.bool false,.slice none 0 0,.int .i64 0] 197)) 3 #[.int .i64 0];rw[World.size_alloc,World.size_alloc,World.size_alloc] at this;exact this
 own:=Z0p
 bel:=(((Below.refl w.heap.size w).alloc (Nat.le_refl _) _).alloc (by simp) _|>.alloc (by simp<;>omega) _).alloc (by simp<;>omega) _
theorem ZnQ (f:List UInt8->Nat) {L:List UInt8} (h:L.length<=64):scn f L=if dfr (L.drop (sgK L 0))=[] then none else
  match frac (L.drop (sgK L 0+(dfr (L.drop (sgK L 0))).length)) with
  |none=>none
  |some x=>match expo f x.2 with
   |none=>none
   |some y=>if y.2=[] then some ⟨hitB [45] L 0,dfr (L.drop (sgK L 0))++x.1,y.1-x.1.length⟩ else none:=by
 have h0:=Z93 L 0;rw[List.drop_zero] at h0;unfold scn;rw[if_neg (by omega),h0];simp only[Z7Q];rfl
theorem ZfX {w w1:World} {s:ByteArray} {k:Nat} {b:Bool} {v:Value} {D:List UInt8} {e:Int} (h:ScSt w w1 s k b v D e):
  ∃W,(((w1.setCell ⟨w.heap.size+1,0,none⟩ (.bool b)).setCell ⟨w.heap.size+1,1,none⟩ v).setCell ⟨w.heap.size+1,2,none⟩ (.int .i64 e))=W/\W.cell? ⟨w.heap.size+1,0,none⟩=some (.bool b)/\W.cell? ⟨w.heap.size+1,1,none⟩=some v/\W.cell? ⟨w.heap.size+1,2,none⟩=some (.int .i64 e)/\Below w.heap.size w W:=by
 obtain⟨W,h1,h2,h3,h4,_,h5⟩:=Z3s h.br h.bel (by omega) (L:=[]) (At.nil w1 none) b v e;exact⟨W,h1,h2,h3,h4,h5⟩
theorem Zkz {w w1:World} {s:ByteArray} {k:Nat} {b:Bool} {v:Value} {D:List UInt8} {e:Int} (h:ScSt w w1 s k b v D e) (E:List UInt8) (hl:D.length+E.length<=1000):
  ∃v' w',(Builtin.append_ #[115,9] 115 #[v,.string (bs E)]).run Tryz.prog w1=.ok v' w'/\Bk w' (w.heap.size+1+1) 197 #[.bool b,v,.int .i64 e]/\ScSt w (w'.setCell ⟨w.heap.size+1+1,1,none⟩ v') s k b v' (D++E) e:=by
 obtain⟨i,hi,hz,hs,dd⟩:=info_parts Zny;obtain⟨v',w',hr,ho,hg,_⟩:=Lib.run_append_own_string (P:=Tryz.prog) (w:=w1) w.heap.size 115 9 115 5 i Tryz.underlying115 Tryz.underlying9 hi hz hs dd v D.length (D.map bv) h.own (bs E) (by rw[Z00];unfold maxLen;omega) (by rw[Z00];omega) h.bel.size;rw[Zac,<-List.map_append,Z00,<-List.length_append] at ho;obtain⟨h1,h2⟩:=h.app ho hg;exact⟨v',w',hr,h1,h2⟩
theorem Z5L {P:Program} {ops:Array Oper} {rest:List Oper} {o:Oper} {a:Act} {w w0 w':World} {Q:Exit->Act->World->Prop} {v':Value} (hw:w=w0) (tX:o.guard=none) (s x:Operand) (t t2:TypeId)
  (ho:o.op=.call { callee:=.builtin .append,args:= #[s,x],argTypes:= #[t,t2] }) (v u:Value) (hs:a.eval s=v) (hx:a.eval x=u)
  (hr:(Builtin.append_ #[t,t2] o.type #[v,u]).run P w0=.ok v' w') (h:wpList P ops Q rest (a.put o.dst v') w'):wpList P ops Q (o::rest) a w:=by
 subst hw;refine wpList_plain tX λK hK=> ?_;unfold Oper.wp execOp;simp only[ho,resolve,invoke,builtin,Sem.run_bind,Sem.run_pure,Result.andThen_ok,List.map_toArray,List.map_cons,List.map_nil,hs,hx,hr];exact hK _ _ h
theorem ZiZ (p:List UInt8) (i:Nat) (h:i<p.length):cl1 (p.take (i+1))=min 1048576 (10*cl1 (p.take i)+dv p[i]):=by
 unfold cl1;rw[List.take_succ_eq_append_getElem h,List.foldl_append];rfl
theorem ZkA (p:List UInt8):cl1 p<=1048576:=by rw[Zko];exact Nat.min_le_left _ _
theorem ZnR {c:UInt8} (h:isD c=true):48<=c.toNat/\c.toNat<=57/\dv c=c.toNat-48:=by
 unfold isD at h;simp at h;exact⟨h.1,h.2,rfl⟩
theorem ZlS {n:Num} (h1: -1500000<=n.ex) (h2:n.ex<=1500000) (h3:n.dg.length<=1000):Sz n/\Sz (Z28 n):=by
 refine⟨⟨by omega,by omega,by omega⟩,?_⟩;have a1:=Z5B n.dg;have a2:=Z8A (Z1K n.dg);unfold Z28;split
 ·exact⟨by simp[Z7t],by simp[Z7t],by simp[Z7t]⟩
 ·exact⟨by simp only;omega,by simp only;omega,by simp only;omega⟩
theorem ZlT {L:List UInt8} {k:Nat} {E:Int} {r:List UInt8} (h:expo cl1 (L.drop k)=some (E,r)): -1048576<=E/\E<=1048576:=by
 rw[Z6J] at h;have:=ZkA (dfr (L.drop (sgK L (k+1))));generalize cl1 (dfr (L.drop (sgK L (k+1))))=c at*;split at h
 ·split at h
  ·cases h
  ·injection h with h;injection h with h _;rw[<-h];unfold sg;split<;>omega
 ·injection h with h;injection h with h _;rw[<-h];omega
theorem ScSt.keep {w wx wy:World} {s:ByteArray} {k:Nat} {b:Bool} {v:Value} {D:List UInt8} {e:Int} (h:ScSt w wx s k b v D e) (hb:Below wx.heap.size wx wy):ScSt w wy s k b v D e where
 bs_:=h.bs_.below hb h.bs_.lt
 br:=h.br.below hb h.br.lt
 bn:=h.bn.below hb h.bn.lt
 ba:=h.ba.below hb h.ba.lt
 own:=Z0v h.own (Fr.of_below (S:=nob) hb) (λ_ _ f=>f)
 bel:=h.bel.trans (hb.mono h.bel.size)
theorem Z7R (D:List UInt8) (w:World):∃cap W,(convert 9 115 (.string (bs D))).run Tryz.prog w=.ok (.slice (some ⟨w.heap.size,0,none⟩) (bs D).size cap) W/\At W (some ⟨w.heap.size,0,none⟩) (D.map bv)/\Below w.heap.size w W:=by
 have h:=run_bytes_of_string (P:=Tryz.prog) w 9 115 5 (bs D) Tryz.underlying9 Tryz.underlying115 Tryz.underlying5;refine⟨_,_,h,?_,((Below.refl w.heap.size w).drew).alloc (Nat.le_refl _) _⟩;intro i hi;rw[List.length_map] at hi;refine⟨w.heap.size,0,rfl,by rw[World.size_alloc];exact Nat.lt_succ_self _,?_⟩;rw[Nat.zero_add];show(w.drew.alloc _).cell? ⟨w.drew.heap.size,i,none⟩=_;rw[World.cell?_alloc_mark,bytesRow_at _ _ i hi];simp[bv,bs]
theorem Zj0 {w:World} {base e n:Nat} {v:Value} {xs:List Value} (h:w.ownsRow base e 1 v n xs):∃A cap,v=.slice A n cap/\At w A xs/\n<=cap/\cap<=maxLen:=by
 have h2:=h;obtain⟨A,cap,hv,ak⟩:=Z0q h;refine⟨A,cap,hv,ak,?_⟩;rcases h2.2 with ⟨h3,h4⟩|⟨g,bh,cur,h3,_,_,h5,h6,_⟩
 ·rw[hv] at h3;injection h3 with h3 h5 h6;subst h6;subst h4;exact⟨Nat.le_refl _,Nat.zero_le _⟩
 ·rw[hv] at h3;injection h3 with h3 h7 h8;subst h8;exact⟨h5,h6⟩
def ScC (w:World) (s:ByteArray) (k:Nat) (b:Bool) (v:Value) (F:Int) (W:World):Prop:=
 W.cell? ⟨w.heap.size+1+1,0,none⟩=some (.bool b)/\W.cell? ⟨w.heap.size+1+1,1,none⟩=some v/\W.cell? ⟨w.heap.size+1+1,2,none⟩=some (.int .i64 F)/\W.cell? ⟨w.heap.size+1+1+1,0,none⟩=some (.int .i64 (k:Int))/\W.cell? ⟨w.heap.size,0,none⟩=some (.string s)
theorem Z1z {W W':World} {p:Addr} {v:Value} (h:W.cell? p=some v) (hb:Below W.heap.size W W'):W'.cell? p=some v:=(hb.cell (World.block_lt_of_cell? W p h)).trans h
theorem ScC.below {w:World} {s:ByteArray} {k:Nat} {b:Bool} {v:Value} {F:Int} {W W':World} (h:ScC w s k b v F W) (hb:Below W.heap.size W W'):ScC w s k b v F W':=
 ⟨Z1z h.1 hb,Z1z h.2.1 hb,Z1z h.2.2.1 hb,Z1z h.2.2.2.1 hb,Z1z h.2.2.2.2 hb⟩
theorem Z4d {W:World} {g i:Nat} {p:Addr} {v u:Value} (h:W.cell? p=some v) (hn:g≠p.block):(W.setCell ⟨g,i,none⟩ u).cell? p=some v:=by
 have hf:=((Fr.refl (only g) W).setCell (p:=⟨g,i,none⟩) (.inl rfl) u).cell (p:=p) (World.block_lt_of_cell? W p h) (λe=>hn e.symm);exact hf.trans h
theorem ScC.put3 {w:World} {s:ByteArray} {k:Nat} {b:Bool} {v:Value} {F:Int} {W:World} (h:ScC w s k b v F W) (x y z:Value):ScC w s k b v F (((W.setCell ⟨w.heap.size+1,0,none⟩ x).setCell ⟨w.heap.size+1,1,none⟩ y).setCell ⟨w.heap.size+1,2,none⟩ z):=by
 have go:∀ {W:World} (i:Nat) (u:Value),ScC w s k b v F W->ScC w s k b v F (W.setCell ⟨w.heap.size+1,i,none⟩ u):=λi u h=>
  ⟨Z4d h.1 (by simp),Z4d h.2.1 (by simp),Z4d h.2.2.1 (by simp),Z4d h.2.2.2.1 (by simp<;>omega),Z4d h.2.2.2.2 (by simp)⟩
 exact go 2 z (go 1 y (go 0 x h))
theorem ZfY (s : ByteArray) (w : World) :
    Calls Tryz.prog 151 #[.string s] w λx w'=>ZfW w w' ((scn cl1 (toL s)).map Z28) x:=by
  by_cases hs:s.size<=64
  · obtain⟨R,hR⟩:∃R,(scn cl1 (toL s)).map Z28=R:=⟨_,rfl⟩
    rw[hR];have Le:(toL s).length<=64:=(by rw[Z01];exact hs);have Lf:(toL s).length=s.size:=Z01 s;rw[ZnQ cl1 Le] at hR;have hk:=Zkx (L:=toL s) (k:=0) (Nat.zero_le _);obtain⟨b,hb⟩:∃b,hitB [45] (toL s) 0=b:=⟨_,rfl⟩;obtain⟨k1,aP⟩:∃k1,sgK (toL s) 0=k1:=⟨_,rfl⟩;have qK:sgK (toL s) 0=if hitB [45] (toL s) 0 then 0+1 else hitK [43] (toL s) 0:=rfl
    rw[hb,aP] at hR qK;rw[aP,Lf] at hk;have yZ:k1<=s.size:=hk.2;have Hb:=h_ hb;have rK:=h_ qK;have HR:=h_ hR;have aR:=h_ (ZiY w s);have Hz:0<=s.size:=Nat.zero_le _;clear hb aP qK hR hk Le Lf;go_enter Tryz.func151,Tryz.ntmps151;go_upto_if 22 with (go_at_call 194;refine((ScSt.one aR.o [45] Hz hs (by simp)).mono ?_);rintro x w1 ⟨rfl,h1⟩)
    rw[Hb.o];go_cut [] (λwx=>ScSt w wx s k1 b (.slice none 0 0) [] 0)
    case first=>
      cases b
      · have e0:hitK [45] (toL s) 0=0:=Z7P Hb.o
        rw[e0] at h1;have e1:k1=hitK [43] (toL s) 0:=rK.o;have H1:=h_ h1;clear h1;go_wp2_with (go_at_call 194;refine((ScSt.one H1.o [43] Hz hs (by simp)).mono ?_);rintro x w2 ⟨rfl,h2⟩);rw[<-e1] at h2;have H2:=h_ h2;clear h2;go_meet;case rel=>exact H2.o
      · have e0:hitK [45] (toL s) 0=0+1:=Z5f Hb.o
        have e1:k1=0+1:=rK.o;rw[e0,<-e1] at h1;have n0:=h1.bn.cell 0;have n1:=h1.bn.frozen 0;have h3:=h1.neg true;simp at n0;have H3:=h_ h3;clear h1 h3;go_wp2;go_meet;case rel=>exact H3.o
    case rest=>
      have H1:=h_ hcut;clear hcut h1 rK;obtain⟨D,hD⟩:∃D,dfr ((toL s).drop k1)=D:=⟨_,rfl⟩;obtain⟨k2,cE⟩:∃k2,k1+D.length=k2:=⟨_,rfl⟩;have j0:=Zab (toL s) (k:=k1) (by rw[Z01];exact yZ);rw[hD,Z01,cE] at j0;have z7:k2<=s.size:=j0;have sX:D.length<=64:=(by omega);have hR:=HR.o;rw[hD,cE] at hR
      have gE:Hid (∀(wx:World) (b':Bool) (v:Value) (E:List UInt8) (e:Int),ScSt w wx s k1 b' v E e->Calls Tryz.prog 195 #[.pointer (some ⟨w.heap.size+1+1+1,0,none⟩),.pointer (some ⟨w.heap.size,0,none⟩)] wx λx w'=>x=.returned (.string (bs D))/\ScSt w w' s k2 b' v E e):=h_ (λwx b' v E e h=>by
        have:=h.dig yZ hs;rw[hD,cE] at this;exact this)
      clear hD cE j0 HR;go_upto_if 29 with (go_at_call 195;refine((gE.o _ _ _ _ _ H1.o).mono ?_);rintro x w2 ⟨rfl,h2⟩)
      clear gE H1 aR;by_cases n5:D=[]
      · rw[if_pos n5] at hR
        have kE:Hid ((none:Option Num)=R):=h_ hR;have cJ:(bs D).toList.isEmpty=true:=Zlm (by rw[Z00,n5];rfl);obtain⟨WF,gj,u0,u1,u2,eo⟩:=ZfX h2;have n0:=h2.bn.cell 0;have n1:=h2.bn.cell 1;have n2:=h2.bn.cell 2;have r0:=h2.br.cell 0;have r1:=h2.br.cell 1;have r2:=h2.br.cell 2;have g0:=h2.br.frozen 0;have g1:=h2.br.frozen 1;have g2:=h2.br.frozen 2;simp at n0 n1 n2 r0 r1 r2;have jK:=h_ gj;have gD:=h_ eo;rw[cJ];clear hR n5 gj eo cJ h2;go_wp2;rw[jK.o];refine bodyPost_ret (by simp[results,Tryz.results151,go_sem,u0,u1,u2];try rfl) rfl ?_;rw[<-kE.o];exact⟨_,_,rfl,gD.o,⟨_,_,_,_,_,rfl⟩,rfl⟩
      · rw[if_neg n5] at hR
        have HR:=h_ hR;have cJ:(bs D).toList.isEmpty=false:=Zln (by rw[Z00];exact List.length_pos_iff.2 n5);obtain⟨v3,w3,eJ,eD,h3⟩:=Zkz h2 D (by simp;omega);obtain⟨A3,M3,c3,rfl⟩:=Z0c h3.own;rw[List.nil_append] at h3;have n1:=h2.bn.cell 1;have m1:=eD.cell 1;have f1:=eD.frozen 1;simp at n1 m1;have H3:=h_ h3;have lu:=h_ eJ;rw[cJ];clear hR n5 h2 h3 eJ eD cJ;generalize bs D=SD at*
        go_upto_if 37 with (first
          |(at_builtin;refine Z5L (by with_reducible rfl) rfl _ _ _ _ rfl _ _ (by rfl) (by rfl) lu.o ?_)
          |(go_at_call 194;refine((ScSt.one H3.o [46] z7 hs (by simp)).mono ?_);rintro x w4 ⟨rfl,h4⟩))
        clear n1 m1 f1 lu H3;go_cut [] (λwx=>∃v P k3,k3<=s.size/\P.length<=64/\Hid (frac ((toL s).drop k2)=some (P,(toL s).drop k3))/\ScSt w wx s k3 b v (D++P) (-(P.length:Int)))
        case first=>
          have pc:=ZcT (toL s) k2;by_cases kF:hitB [46] (toL s) k2=true
          · rw[if_pos kF] at pc
            rw[Z5f kF] at h4;have uL:k2+1<=s.size:=(by have:=Zky kF;rw[Z01] at this;exact this);obtain⟨P,hP⟩:∃P,dfr ((toL s).drop (k2+1))=P:=⟨_,rfl⟩;obtain⟨k3,eD⟩:∃k3,k2+1+P.length=k3:=⟨_,rfl⟩;have j0:=Zab (toL s) (k:=k2+1) (by rw[Z01];exact uL);rw[hP,Z01,eD] at j0;have FF:P.length<=64:=(by omega);rw[hP,eD] at pc
            have gE:Hid (∀(wx:World) (b':Bool) (v:Value) (E:List UInt8) (e:Int),ScSt w wx s (k2+1) b' v E e->Calls Tryz.prog 195 #[.pointer (some ⟨w.heap.size+1+1+1,0,none⟩),.pointer (some ⟨w.heap.size,0,none⟩)] wx λx w'=>x=.returned (.string (bs P))/\ScSt w w' s k3 b' v E e):=h_ (λwx b' v E e h=>by
              have:=h.dig uL hs;rw[hP,eD] at this;exact this)
            have H4:=h_ h4;rw[kF];clear hP eD h4 kF;by_cases n6:P=[]
            · rw[if_pos n6] at pc
              have hR:=HR.o;rw[pc] at hR;have kE:Hid ((none:Option Num)=R):=h_ hR;have cJ:(bs P).toList.isEmpty=true:=Zlm (by rw[Z00,n6];rfl);clear hR pc n6 HR;go_upto_region 17 with (go_at_call 195;refine((gE.o _ _ _ _ _ H4.o).mono ?_);rintro x w5 ⟨rfl,h5⟩)
              obtain⟨WF,gj,u0,u1,u2,eo⟩:=ZfX h5;have n0:=h5.bn.cell 0;have n1:=h5.bn.cell 1;have n2:=h5.bn.cell 2;have r0:=h5.br.cell 0;have r1:=h5.br.cell 1;have r2:=h5.br.cell 2;have g0:=h5.br.frozen 0;have g1:=h5.br.frozen 1;have g2:=h5.br.frozen 2;simp at n0 n1 n2 r0 r1 r2;have jK:=h_ gj;have gD:=h_ eo;clear gj eo h5 gE H4;go_wp2;rw[jK.o];refine bodyPost_ret (by simp[results,Tryz.results151,go_sem,u0,u1,u2];try rfl) rfl ?_;rw[<-kE.o];exact⟨_,_,rfl,gD.o,⟨_,_,_,_,_,rfl⟩,rfl⟩
            · rw[if_neg n6] at pc
              have FG:=h_ pc;have cJ:(bs P).toList.isEmpty=false:=Zln (by rw[Z00];exact List.length_pos_iff.2 n6);clear pc n6;go_upto_region 18 with (go_at_call 195;refine((gE.o _ _ _ _ _ H4.o).mono ?_);rintro x w5 ⟨rfl,h5⟩)
              obtain⟨v6,w6,z8,za,h6⟩:=Zkz h5 P (by omega);obtain⟨A6,M6,c6,rfl⟩:=Z0c h6.own;have n1:=h5.bn.cell 1;have m1:=za.cell 1;have f1:=za.frozen 1;have p2:=h6.bn.cell 2;have q2:=h6.bn.frozen 2;simp at n1 m1 p2;have h7:=h6.exp (-((bs P).size:Int));have H7:=h_ h7;have FH:=h_ z8;have Ue:(bs P).size<=64:=FF;clear h5 z8 za h6 h7 gE H4;go_wp2_with (at_builtin;refine Z5L (by with_reducible rfl) rfl _ _ _ _ rfl _ _ (by rfl) (by rfl) FH.o ?_);go_meet;case rel=>exact⟨_,P,k3,j0,FF,FG,H7.o⟩
          · rw[if_neg kF] at pc
            have xt:hitB [46] (toL s) k2=false:=(by simpa using kF);rw[Z7P xt] at h4;have FG:=h_ pc;have H4:=h_ h4;rw[xt];clear pc kF xt h4;go_wp2;go_meet;case rel=>exact⟨_,[],k2,z7,by simp,FG,by simpa using H4.o⟩
        case rest=>
          obtain⟨v5,P,k3,zb,FF,ey,aN⟩:=hcut;obtain⟨A5,M5,c5,rfl⟩:=Z0c aN.own;have hR:=HR.o;rw[ey.o] at hR;simp only at hR;have cU:=h_ hR;have H5:=h_ aN;clear hR HR aN ey h4;go_upto_if 53 with (go_at_call 194;refine((ScSt.one H5.o [101,69] zb hs (by simp)).mono ?_);rintro x w6 ⟨rfl,h6⟩)
          go_cut [] (λwx=>∃E k4,k4<=s.size/\Hid (expo cl1 ((toL s).drop k3)=some (E,(toL s).drop k4))/\ScSt w wx s k4 b (.slice A5 M5 c5) (D++P) (E-(P.length:Int)))
          case first=>
            have fT:=Z6J cl1 (toL s) k3;by_cases hE:hitB [101,69] (toL s) k3=true
            · rw[if_pos hE] at fT
              rw[Z5f hE] at h6;have uM:k3+1<=s.size:=(by have:=Zky hE;rw[Z01] at this;exact this);have uN:=(Zkx (L:=toL s) (k:=k3+1) (by rw[Z01];exact uM)).2;have qK:sgK (toL s) (k3+1)=if hitB [45] (toL s) (k3+1) then k3+1+1 else hitK [43] (toL s) (k3+1):=rfl
              obtain⟨bn,cL⟩:∃bn,hitB [45] (toL s) (k3+1)=bn:=⟨_,rfl⟩;obtain⟨k5,FJ⟩:∃k5,sgK (toL s) (k3+1)=k5:=⟨_,rfl⟩;rw[cL,FJ] at fT qK;rw[FJ,Z01] at uN;obtain⟨D3,zc⟩:∃D3,dfr ((toL s).drop k5)=D3:=⟨_,rfl⟩;obtain⟨k7,CY⟩:∃k7,k5+D3.length=k7:=⟨_,rfl⟩;have j0:=Zab (toL s) (k:=k5) (by rw[Z01];exact uN);rw[zc,Z01,CY] at j0;have Q4:D3.length<=64:=(by omega);rw[zc,CY] at fT;have fU:Hid (AllD D3):=h_ (zc▸Z7v _)
              have gE:Hid (∀(wx:World) (b':Bool) (v:Value) (E:List UInt8) (e:Int),ScSt w wx s k5 b' v E e->Calls Tryz.prog 195 #[.pointer (some ⟨w.heap.size+1+1+1,0,none⟩),.pointer (some ⟨w.heap.size,0,none⟩)] wx λx w'=>x=.returned (.string (bs D3))/\ScSt w w' s k7 b' v E e):=h_ (λwx b' v E e h=>by
                have:=h.dig uN hs;rw[zc,CY] at this;exact this)
              have uO:=h_ cL;have rK:=h_ qK;have H6:=h_ h6;have xu:=h_ fT;rw[hE];clear fT hE h6 cL FJ qK zc CY;go_upto_if 57 with (go_at_call 194;refine((ScSt.one H6.o [45] uM hs (by simp)).mono ?_);rintro x w7 ⟨rfl,h7⟩)
              rw[uO.o];go_cut [10] (λkG wx=>kG=.bool bn/\ScSt w wx s k5 b (.slice A5 M5 c5) (D++P) (-(P.length:Int)))
              case first=>
                cases bn
                · have e0:hitK [45] (toL s) (k3+1)=k3+1:=Z7P uO.o
                  rw[e0] at h7;have e1:k5=hitK [43] (toL s) (k3+1):=rK.o;have H7:=h_ h7;clear h7 e0;go_wp2_with (go_at_call 194;refine((ScSt.one H7.o [43] uM hs (by simp)).mono ?_);rintro x w8 ⟨rfl,h8⟩);rw[<-e1] at h8;have H8:=h_ h8;clear h8;go_meet;case rel=>exact⟨rfl,H8.o⟩
                · have e0:hitK [45] (toL s) (k3+1)=k3+1+1:=Z5f uO.o
                  have e1:k5=k3+1+1:=rK.o;rw[e0,<-e1] at h7;have H7:=h_ h7;clear h7 e0;go_wp2;go_meet;case rel=>exact⟨rfl,H7.o⟩
              case rest=>
                obtain⟨rfl,aN⟩:=hcut;have H8:=h_ aN;clear aN h7 H6 H5 rK uO;by_cases n5:D3=[]
                · have hR:=cU.o
                  have fT:=xu.o;rw[if_pos n5] at fT;rw[fT] at hR;have kE:Hid ((none:Option Num)=R):=h_ hR;have cJ:(bs D3).toList.isEmpty=true:=Zlm (by rw[Z00,n5];rfl);clear hR fT cU xu n5 fU;go_upto_region 26 with (go_at_call 195;refine((gE.o _ _ _ _ _ H8.o).mono ?_);rintro x w9 ⟨rfl,h9⟩)
                  obtain⟨WF,gj,u0,u1,u2,eo⟩:=ZfX h9;have n0:=h9.bn.cell 0;have n1:=h9.bn.cell 1;have n2:=h9.bn.cell 2;have r0:=h9.br.cell 0;have r1:=h9.br.cell 1;have r2:=h9.br.cell 2;have g0:=h9.br.frozen 0;have g1:=h9.br.frozen 1;have g2:=h9.br.frozen 2;simp at n0 n1 n2 r0 r1 r2;have jK:=h_ gj;have gD:=h_ eo;clear gj eo h9 gE H8;go_wp2;rw[jK.o];refine bodyPost_ret (by simp[results,Tryz.results151,go_sem,u0,u1,u2];try rfl) rfl ?_;rw[<-kE.o];exact⟨_,_,rfl,gD.o,⟨_,_,_,_,_,rfl⟩,rfl⟩
                · have fT:=xu.o
                  rw[if_neg n5] at fT;have zd:=h_ fT;have cJ:(bs D3).toList.isEmpty=false:=Zln (by rw[Z00];exact List.length_pos_iff.2 n5);clear fT xu cU n5;go_upto_region 28 with (go_at_call 195;refine((gE.o _ _ _ _ _ H8.o).mono ?_);rintro x w9 ⟨rfl,h9⟩)
                  obtain⟨cp,W8,ew,ak,dj⟩:=Z7R D3 w9;have ou:=h9.keep dj;obtain⟨N3,FK⟩:∃N,D3.length=N:=⟨_,rfl⟩;have ze:(bs D3).size=N3:=FK
                  have hcell:∀i (h:i<N3),∃X:Nat,W8.cell? ⟨w9.heap.size,i,none⟩=some (.int .u8 (X:Int))/\48<=X/\X<=57/\cl1 (D3.take (i+1))=min 1048576 (10*cl1 (D3.take i)+(X-48)):=by
                    intro i hi;obtain⟨b',o',hA,eH,hc⟩:=ak i (by rw[List.length_map];omega);injection hA with hA;injection hA with kH eh;subst kH;subst eh;rw[Nat.zero_add,List.getElem_map] at hc;obtain⟨q1,q2,q3⟩:=ZnR (fU.o D3[i] (List.getElem_mem _));exact⟨_,hc,q1,q2,by rw[ZiZ D3 i (by omega),q3]⟩
                  have n2:=ou.bn.cell 2;have f2:=ou.bn.frozen 2;simp at n2;have pd:=h_ hcell;have Q5:=h_ ou;have HN:=h_ FK;rw[ze] at ew;clear ak dj h9 ou hcell gE H8 FK ze fU;have Q6:N3<=64:=(by have:=HN.o;omega);go_upto_region 29 with fail;go_loopw [12,68] (λjD FL wr=>∃i:Nat,i<=N3/\jD=.int .i64 ((cl1 (D3.take i):Nat):Int)/\FL=.int .i64 (i:Int)/\wr=W8) (λ_ FL _=>(N3-intOf FL).toNat);case atStart=>exact⟨0,Nat.zero_le _,rfl,rfl,rfl⟩
                  case round=>
                    obtain⟨i,hi,rfl,rfl,rfl⟩:=hrel;obtain⟨c,hc⟩:∃c,cl1 (D3.take i)=c:=⟨_,rfl⟩;have ia:=ZkA (D3.take i);rw[hc] at ia;by_cases ab:i<N3
                    · obtain⟨X,hX,q1,q2,q3⟩:=pd.o i ab
                      rw[hc] at q3;have Q3:=h_ q3;rw[hc];clear q3 hc n2 f2 pd;go_wp2;refine⟨⟨i+1,ab,?_,by go_num,by first|trivial|rfl⟩,?_⟩
                      · rw[Q3.out]
                        first
                          |(congr 1;omega)
                          |rfl
                      · simp[intOf]<;>omega
                    · have kI:i=N3:=by omega
                      have ax:D3.take i=D3:=List.take_of_length_le (by have:=HN.o;omega);rw[ax] at hc;have fT:=zd.o;rw[hc] at fT;have zf:=h_ fT;have hex:Hid (∀e',ScSt w (wr.setCell ⟨w.heap.size+1+1,2,none⟩ (.int .i64 e')) s k7 b (.slice A5 M5 c5) (D++P) e'):=h_ (λe'=>Q5.o.exp e');rw[ax,hc];subst kI;clear ax hc fT zd pd HN;cases bn
                      · go_wp2
                        go_meet
                        case rel=>exact⟨_,k7,j0,zf,by
                          have:=hex.o (-(P.length:Int)+(c:Int));rw[show sg false*(c:Int)-(P.length:Int)= -(P.length:Int)+(c:Int) by unfold sg;simp;omega];exact this⟩
                      · go_wp2
                        go_meet
                        case rel=>exact⟨_,k7,j0,zf,by
                          have:=hex.o (-(P.length:Int)+ -(c:Int));rw[show sg true*(c:Int)-(P.length:Int)= -(P.length:Int)+ -(c:Int) by unfold sg;simp;omega];exact this⟩
            · rw[if_neg hE] at fT
              have FM:hitB [101,69] (toL s) k3=false:=(by simpa using hE);rw[Z7P FM] at h6;have xu:=h_ fT;have H6:=h_ h6;rw[FM];clear fT hE FM h6 H5;go_wp2;go_meet;case rel=>exact⟨0,k3,zb,xu,by simpa using H6.o⟩
          case rest=>
            obtain⟨E,k4,uL,fT,aN⟩:=hcut;obtain⟨EC,yp⟩:=ZlT fT.o;have hR:=cU.o;rw[fT.o] at hR;simp only at hR;obtain⟨N,hN⟩:∃N:Num,N=⟨b,D++P,E-(P.length:Int)⟩:=⟨_,rfl⟩;obtain⟨ad,zg⟩:Sz N/\Sz (Z28 N):=ZlS (by rw[hN];simp only;omega) (by rw[hN];simp only;omega) (by rw[hN];simp only[List.length_append];omega);obtain⟨A,cap,hv,ak,bY,dF⟩:=Zj0 aN.own;injection hv with aW bj dX;subst aW;subst bj;subst dX;have zh:NV wc (.agg #[.bool b,.slice A5 (D++P).length c5,.int .i64 (E-(P.length:Int))]) N:=⟨A5,c5,by rw[hN],by rw[hN];exact ak,by rw[hN];exact bY,dF⟩;have FN:Hid (∀W,Below wc.heap.size wc W->Calls Tryz.prog 196 #[.agg #[.bool b,.slice A5 (D++P).length c5,.int .i64 (E-(P.length:Int))]] W λx w'=>∃v',x=.returned v'/\NV w' v' (Z28 N)/\Below W.heap.size W w'):=h_ (λW h=>ZfT (zh.below h) ad)
            have fQ:(toL s).drop k4=[]↔k4=s.size:=by
              rw[List.drop_eq_nil_iff,Z01];omega
            have cq:Hid (∀(v':Value) (W:World),Below w.heap.size w W->NV W v' (Z28 N)->ZfW w W R (.returned (.tuple #[v',.bool (decide (k4=s.size))]))):=h_ (λv' W hW hn=>by
              refine⟨v',_,rfl,hW,?_,?_⟩
              · obtain⟨A',FO,rfl,_⟩:=hn
                exact⟨_,_,_,_,_,rfl⟩
              · rw[<-hR]
                by_cases hz:k4=s.size
                · rw[if_pos (fQ.2 hz),<-hN]
                  exact⟨by simpa using hz,hn,zg⟩
                · rw[if_neg (λh=>hz (fQ.1 h))]
                  simpa using hz)
            have aR:=h_ aN;have n0:=aN.bn.cell 0;have n1:=aN.bn.cell 1;have n2:=aN.bn.cell 2;have a0:=aN.ba.cell 0;have s0:=aN.bs_.cell 0;obtain⟨F,hF⟩:∃F,E-(P.length:Int)=F:=⟨_,rfl⟩;obtain⟨M,hM⟩:∃M,(D++P).length=M:=⟨_,rfl⟩;rw[hF] at n2 FN;rw[hM] at n1 FN;simp at n0 n1 n2 a0 s0;clear hR aN ak zh zg ad hN fT cU hF hM EC yp h6 H5 fQ;have H1:ScC w s k4 b (.slice A5 M c5) F wc.drew:=⟨n0,n1,n2,a0,s0⟩;unfold ScC at H1;go_wp2
            go_region_held3 (λW=>W.cell? ⟨w.heap.size+1+1,0,none⟩=some (.bool b)/\W.cell? ⟨w.heap.size+1+1,1,none⟩=some (.slice A5 M c5)/\W.cell? ⟨w.heap.size+1+1,2,none⟩=some (.int .i64 F)/\W.cell? ⟨w.heap.size+1+1+1,0,none⟩=some (.int .i64 (k4:Int))/\W.cell? ⟨w.heap.size,0,none⟩=some (.string s)) (first|exact H1|assumption|exact ScC.below (by assumption) (by assumption)|exact ScC.put3 (by assumption) _ _ _)
              (first
                | (go_at_call 196; refine (FN.o _ ((Below.refl _ _).drew)).mono ?_; rintro x w9 ⟨v', rfl, ⟨A', FO, rfl, zi, CU, Fz⟩, eH⟩
                   have lp:=aR.o.br.below (((Below.refl wc.heap.size wc).drew).trans eH) aR.o.br.lt;have r0:=lp.cell 0;have r1:=lp.cell 1;have r2:=lp.cell 2;have g0:=lp.frozen 0;have g1:=lp.frozen 1;have g2:=lp.frozen 2;simp at r0 r1 r2;have Q7:=h_ lp;have FP:=h_ zi;clear lp zi))
            obtain⟨WF,gj,u0,u1,u2,gC,eo⟩:=Z3s Q7.o (aR.o.bel.trans (((Below.refl wc.heap.size wc).drew.trans eH).mono aR.o.bel.size)) (by omega) FP.o (Z28 N).neg (.slice A' (Z28 N).dg.length FO) (Z28 N).ex;have jK:=h_ gj;have pa:=h_ gC;have gD:=h_ eo
            have hq:((k4:Int)==(s.size:Int))=decide (k4=s.size):=by
              rw[Bool.eq_iff_iff,beq_iff_eq,decide_eq_true_iff];omega
            have Hq:=h_ hq;have Q8:=h_ CU;have Q9:=h_ Fz;clear gj gC eo hq CU Fz H1 n0 n1 n2 a0 s0 r0 r1 r2 g0 g1 g2 eH;go_wp2;rw[jK.o];refine bodyPost_ret (by simp[results,Tryz.results151,go_sem,u0,u1,u2];try rfl) rfl ?_;rw[Hq.o];exact cq.o _ WF gD.o ⟨A',FO,rfl,pa.o,Q8.o,Q9.o⟩
  · have hn : scn cl1 (toL s) = none := by
      unfold scn;rw[if_pos (by rw[Z01];omega)]
    have Hn:=h_ hn;have cO:(64:Int)<(s.size:Int):=(by omega);have aF:=h_ ((Z8G w (.cells #[.string s] 9) (.cells #[.bool false,.slice none 0 0,.int .i64 0] 197)).alloc (by simp<;>omega) (.cells #[.bool false,.slice none 0 0,.int .i64 0] 197));clear hn;go_enter Tryz.func151,Tryz.ntmps151;go_wp2;go_returns;rw[Hn.o];exact⟨_,_,rfl,aF.o,⟨_,_,_,_,_,rfl⟩,rfl⟩
end Go.Proofs.YtchokmkfobandaaGreatDoor
