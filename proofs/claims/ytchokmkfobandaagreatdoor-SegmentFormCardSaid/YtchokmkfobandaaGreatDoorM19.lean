import Derived.Test.YtchokmkfobandaaGreatDoorM11
import Derived.Lib.AppendStr
import Derived.Lib.MinMax
set_option linter.unusedVariables false
set_option linter.unusedSimpArgs false
set_option maxRecDepth 100000
set_option maxHeartbeats 8000000
namespace Go.Proofs.YtchokmkfobandaaGreatDoor
open Go.RowKit Go.Proofs Wv Wv.Dc
def DR (w:World) (v:Value) (d:List UInt8):Prop:=∃A cap,v=.slice A d.length cap/\At w A (d.map bv)/\d.length<=cap/\cap<=maxLen
theorem DR.nil (w:World):DR w (.slice none 0 0) []:=⟨none,0,rfl,At.nil _ _,UZz,Var _⟩
theorem Z2V (c:UInt8) (t:List UInt8):YO (c::t)=if c=48 then YO t else c::t:=by
 unfold YO;rw[List.dropWhile_cons];by_cases h:c=48
 ·subst h;rfl
 ·rw[Vad h,Vad (by simpa using h)]
theorem Zig {w:World} {A:Option Addr} {d:List UInt8} (h:At w A (d.map bv)) (n cap:Nat) (hn:n=d.length) (hc:n<=cap) (hm:cap<=maxLen):
  Calls Tryz.prog 264 #[.slice A n cap,.int .u8 48] w λx w'=>∃v,x=.returned v/\DR w' v (YO d)/\Below w.heap.size w w':=by
 have bJ:=h_ h;have eJ:cap<=9223372036854775807:=(by unfold maxLen at hm;omega);have Hn:=h_ hn;have Hm:=h_ hm;clear h hn hm;go_enter Tryz.func264,Tryz.ntmps264;go_wp2;go_loopw [0] (λv wr=>∃(k m bw:Nat) (A':Option Addr),k<=d.length/\m=d.length-k/\v=.slice A' m bw/\At wr A' ((d.drop k).map bv)/\m<=bw/\bw<=9223372036854775807/\Hid (bw<=maxLen)/\Hid (YO (d.drop k)=YO d)/\Below w.heap.size w wr) (λv _=>match v with|.slice _ m _=>m|_=>0);case atStart=>exact⟨0,n,cap,A,by omega,by rw[<-Hn.o,Nat.sub_zero],rfl,bJ.o,hc,eJ,Hm,h_ rfl,Vae _ _⟩
 case round=>
  obtain⟨k,m,bw,A',hk,bG,rfl,an,DI,Gh,zv,pF,hf⟩:=hrel;by_cases h0:0<m
  ·have ab:k<d.length:=(by omega);have hd:d.drop k=d[k]::d.drop (k+1):=Va4 ab;obtain⟨c,ju⟩:∃c,d[k]=c:=⟨_,rfl⟩;rw[ju] at hd;have nD:=an;rw[hd] at an;obtain⟨b,o,hA,hb,hcell⟩:=an.get 0 (bv c) rfl;subst hA;have pg:wr.cell? ⟨b,o,none⟩=some (.int .u8 (c.toNat:Int)):=hcell;have ph:=Z7q an 1;have Gi:=Z2V c (d.drop (k+1));have je:=pF.o;rw[hd] at je;rw[Gi] at je;by_cases mV:c=48
   ·rw[Vaf mV] at je;subst mV;have tQ:=h_ je;have za:=h_ ph;have Hf:=h_ hf;clear je ph hf an nD hd ju Gi pF hcell;have sl:=h_ bG;have Ls:=h_ (show m-1=d.length-(k+1) by omega);clear bG;by_cases cq:bw=1
    ·have Vm:m=1:=(by omega);go_wp2;refine⟨⟨k+1,0,0,some ⟨b,o,none⟩,by omega,by have:=Ls.o;omega,rfl,?_,UZz,by omega,h_ (Var _),tQ,Hf.o⟩,by show 0<m;omega⟩;have:d.drop (k+1)=[]:=Vbb (by have:=sl.o;omega);rw[this];exact At.nil _ _
    ·go_wp2;refine⟨⟨k+1,m-1,bw-1,some ⟨b,o+1,none⟩,by omega,Ls.o,by first|rw[Vad cq]|rfl,?_,by omega,by omega,h_ (by have:=zv.o;omega),tQ,Hf.o⟩,by first|(rw[Vad cq];show m-1<m;omega)|(show m-1<m;omega)⟩;have:=za.o;rw[Vci,List.drop_one,List.tail_cons] at this;exact this
   ·rw[Vad mV] at je
    have ay:((c.toNat:Int)==48)=false:=by
     rw[Van];intro e;exact mV (UInt8.toNat_inj.1 (by rw[show(48:UInt8).toNat=48 from rfl];omega))
    have tQ:=h_ je;have Gj:=h_ nD;have Hd:=h_ hd;have sl:=h_ bG;have eW:((m:Int)==0)=false:=(by rw[Van];omega);clear je an nD hd ju Gi pF hcell ph mV bG;go_wp2;go_returns;rw[<-tQ.o,<-Hd.o];exact⟨.slice (some ⟨b,o,none⟩) m bw,rfl,⟨_,bw,by rw[Va2,<-sl.o],Gj.o,by rw[Va2,<-sl.o];exact DI,zv.o⟩,hf⟩
  ·have eW:m=0:=(by omega);have xW:d.drop k=[]:=Vbb (by omega);have je:=pF.o;rw[xW] at je;have ht:YO ([]:List UInt8)=[]:=rfl;rw[ht] at je;have tQ:=h_ je;clear pF xW je ht an bG;subst eW;go_wp2;go_returns;rw[<-tQ.o];exact⟨_,rfl,DR.nil _,hf⟩
theorem Z57 {w:World} {A:Option Addr} {d:List UInt8} (h:At w A (d.map bv)) (n cap:Nat) (hn:n=d.length) (hc:n<=cap) (hm:cap<=maxLen):
  Calls Tryz.prog 240 #[.slice A n cap,.string ⟨#[48]⟩] w λx w'=>∃v,x=.returned v/\DR w' v (YO d)/\Below w.heap.size w w':=by
 have H:=h_ (Zig h n cap hn hc hm);by_cases h0:n=0
 ·subst h0;have hd:d=[]:=Vak hn.symm;subst hd;clear h hn H hm;go_enter Tryz.func240,Tryz.ntmps240;go_wp2;go_returns;exact⟨_,rfl,DR.nil _,Vae _ _⟩
 ·have mR:((n:Int)==0)=false:=(by rw[Van];omega);have dW:((⟨#[48]⟩:ByteArray)[0]'Nat.zero_lt_one)=48:=rfl;clear h hn hm h0 hc;go_enter Tryz.func240,Tryz.ntmps240;go_wp2_with (go_at_call 264;refine(H.o).mono ?_;rintro x w1 ⟨v,rfl,hd,hb⟩);go_returns;exact⟨_,rfl,hd,hb⟩
theorem Z90 (d:List UInt8) (c:UInt8):Yj (d++[c])=if c=48 then Yj d else d++[c]:=by
 unfold Yj;rw[Vc1,List.reverse_singleton,Vdb,Z2V];split
 ·rfl
 ·rw[List.reverse_cons,List.reverse_reverse]
theorem Zih {w:World} {A:Option Addr} {d:List UInt8} (h:At w A (d.map bv)) (n cap:Nat) (hn:n=d.length) (hc:n<=cap) (hm:cap<=maxLen):
  Calls Tryz.prog 268 #[.slice A n cap,.int .u8 48] w λx w'=>x=.returned (.slice A (Yj d).length cap)/\Below w.heap.size w w':=by
 have bJ:=h_ h;have eJ:cap<=9223372036854775807:=(by unfold maxLen at hm;omega);have Hn:=h_ hn;clear h hn hm;go_enter Tryz.func268,Tryz.ntmps268;go_wp2;go_loopw [0] (λv wr=>∃k:Nat,k<=n/\v=.slice A k cap/\Hid (Yj (d.take k)=Yj d)/\Below w.heap.size w wr) (λv _=>match v with|.slice _ m _=>m|_=>0);case atStart=>exact⟨n,UZz,rfl,h_ (by rw[Hn.o,Vbx]),Vae _ _⟩
 case round=>
  obtain⟨k,hk,rfl,pF,hf⟩:=hrel;by_cases h0:0<k
  ·obtain⟨j,rfl⟩:∃j,k=j+1:=⟨k-1,by omega⟩;have hj:j<d.length:=(by rw[<-Hn.o];omega);have hd:d.take (j+1)=d.take j++[d[j]]:=Vac hj;obtain⟨c,ju⟩:∃c,d[j]=c:=⟨_,rfl⟩;rw[ju] at hd;have je:=pF.o;rw[hd,Z90] at je;obtain⟨b,o,hA,hb,hcell⟩:=(bJ.o.below hf).get j (bv c) (by rw[Vbc,Vao hj,ju];rfl);have pg:wr.cell? ⟨b,o+j,none⟩=some (.int .u8 (c.toNat:Int)):=hcell;subst hA;by_cases mV:c=48
   ·rw[Vaf mV] at je;subst mV;have tQ:=h_ je;clear je hd ju pF hcell hj;go_wp2;refine⟨⟨j,by omega,rfl,tQ,hf⟩,by show j<j+1;omega⟩
   ·rw[Vad mV] at je
    have ay:((c.toNat:Int)==48)=false:=by
     rw[Van];intro e;exact mV (UInt8.toNat_inj.1 (by rw[show(48:UInt8).toNat=48 from rfl];omega))
    have hlen:(Yj d).length=j+1:=by
     rw[<-je,Vab,Vau];simp;omega
    have av:=h_ hlen;clear je hd ju pF hcell hj mV hlen;go_wp2;go_returns;exact⟨by rw[av.o]<;>rfl,hf⟩
  ·have cg:k=0:=(by omega);subst cg;have hlen:(Yj d).length=0:=(by rw[<-pF.o];rfl);have av:=h_ hlen;clear pF hlen;go_wp2;go_returns;exact⟨by rw[av.o]<;>rfl,hf⟩
theorem Z3X {w:World} {A:Option Addr} {d:List UInt8} (h:At w A (d.map bv)) (n cap:Nat) (hn:n=d.length) (hc:n<=cap) (hm:cap<=maxLen):
  Calls Tryz.prog 241 #[.slice A n cap,.string ⟨#[48]⟩] w λx w'=>x=.returned (.slice A (Yj d).length cap)/\Below w.heap.size w w':=by
 have H:=h_ (Zih h n cap hn hc hm);by_cases h0:n=0
 ·subst h0;have hd:d=[]:=Vak hn.symm;subst hd;have ht:(Yj ([]:List UInt8)).length=0:=rfl;rw[ht];clear h hn H hm ht;go_enter Tryz.func241,Tryz.ntmps241;go_wp2;go_returns;exact⟨rfl,Vae _ _⟩
 ·have mR:((n:Int)==0)=false:=(by rw[Van];omega);have dW:((⟨#[48]⟩:ByteArray)[0]'Nat.zero_lt_one)=48:=rfl;clear h hn hm h0 hc;go_enter Tryz.func241,Tryz.ntmps241;go_wp2_with (go_at_call 268;refine(H.o).mono ?_;rintro x w1 ⟨rfl,hb⟩);go_returns;exact⟨rfl,hb⟩
theorem Qv {w0 w:World} {r:Nat} (hr:Bk w r 197 #[.bool false,.slice none 0 0,.int .i64 0]) (hb:Below w0.heap.size w0 w) (h0:w0.heap.size<=r) {L:List UInt8} {A:Option Addr} (ha:At w A (L.map bv)) (b:Bool) (v:Value) (e:Int):
  ∃W,(((w.setCell ⟨r,0,none⟩ (.bool b)).setCell ⟨r,1,none⟩ v).setCell ⟨r,2,none⟩ (.int .i64 e))=W/\W.cell? ⟨r,0,none⟩=some (.bool b)/\W.cell? ⟨r,1,none⟩=some v/\W.cell? ⟨r,2,none⟩=some (.int .i64 e)/\At W A (L.map bv)/\Below w0.heap.size w0 W:=by
 have hf:Fr (only r) w (((w.setCell ⟨r,0,none⟩ (.bool b)).setCell ⟨r,1,none⟩ v).setCell ⟨r,2,none⟩ (.int .i64 e)):=X3 (X3 (X3 (Fr.refl _ _) 0 _) 1 _) 2 _;have hk:=((hr.put 0 (.bool b)).put 1 v).put 2 (.int .i64 e)
 exact⟨_,rfl,hk.cell 0,hk.cell 1,hk.cell 2,ZhT ha hr (λx hx=>by
  obtain⟨q,_,rfl⟩:=Va6.1 hx;simp[bv]) hf,hb.trans (Z1L hf hb.size h0)⟩
theorem Zc0 {w:World} {v:Value} {n:Num} (h:NV w v n) (hs:Sz n):
  Calls Tryz.prog 196 #[v] w λx w'=>∃v',x=.returned v'/\NV w' v' (Xa n)/\Below w.heap.size w w':=by
 obtain⟨A,cap,rfl,an,hc,hm⟩:=h;obtain⟨b,d,e⟩:=n;obtain⟨s1,s2,s3⟩:=hs;simp only at*;have fP:=Bk.new (w.alloc (.cells #[.bool b,.slice A d.length cap,.int .i64 e] 197)) 197 #[.bool false,.slice none 0 0,.int .i64 0];rw[World.size_alloc] at fP;have uQ:Bk ((w.alloc (.cells #[.bool b,.slice A d.length cap,.int .i64 e] 197)).alloc (.cells #[.bool false,.slice none 0 0,.int .i64 0] 197)) w.heap.size 197 #[.bool b,.slice A d.length cap,.int .i64 e]:=Bk.alloc (Bk.new _ _ _) _;have aD:=Z4L w (.cells #[.bool b,.slice A d.length cap,.int .i64 e] 197) (.cells #[.bool false,.slice none 0 0,.int .i64 0] 197);have nD:=(an.alloc (.cells #[.bool b,.slice A d.length cap,.int .i64 e] 197)).alloc (.cells #[.bool false,.slice none 0 0,.int .i64 0] 197);have H1:=h_ (Z57 nD d.length cap rfl hc hm);have pG:=h_ uQ;have jQ:=h_ fP;have aP:=h_ aD;clear an nD uQ fP aD;go_enter Tryz.func196,Tryz.ntmps196;go_wp2_with fail;refine(H1.o).mono ?_;rintro x w1 ⟨v1,rfl,⟨A1,jg,rfl,cT,cq,dH⟩,a7⟩;obtain⟨T,hT⟩:∃T,YO d=T:=⟨_,rfl⟩;have eZ:T.length<=d.length:=(by rw[<-hT];exact Z1K d);have p7:Xa ⟨b,d,e⟩=if Yj T=[] then Z3C else⟨b,Yj T,e+((T.length-(Yj T).length:Nat):Int)⟩:=by unfold Xa;simp only[hT]
 rw[hT] at cT cq;obtain⟨R,hR⟩:∃R,Yj T=R:=⟨_,rfl⟩;have df:R.length<=T.length:=(by rw[<-hR];exact Z4F T)
 have vu:T.take R.length=R:=by
  obtain⟨k,hk⟩:=Z4E T;rw[hR] at hk;have:T.take R.length=(R++List.replicate k 48).take R.length:=(by rw[<-hk]);rw[this,Vcx]
 have iQ:=Bk.below pG.o a7 (Bk.lt pG.o);have cI:=Bk.below jQ.o a7 (Bk.lt jQ.o);have iC:=aP.o.trans (a7.mono aP.o.size)
 have dC:∀v∈T.map bv,v∉(#[.bool b,.slice A d.length cap,.int .i64 e]:Array Value).toList:=λv hv=>by
  obtain⟨y,_,rfl⟩:=Va6.1 hv;simp[bv]
 have bL:=Zb2 cT iQ dC 1 (.slice A1 T.length jg);have cY:=iQ.put 1 (.slice A1 T.length jg);have bR:=cI.off (p:=⟨w.heap.size,1,none⟩) (by simp) (.slice A1 T.length jg);have jh:=iC.setCell (p:=⟨w.heap.size,1,none⟩) UZz (.slice A1 T.length jg);have c1:=iQ.cell 1;have f1:=iQ.frozen 1;simp at c1;have h2:=Z3X bL T.length jg rfl cq dH;rw[hR] at h2;rw[hT];have H2:=h_ h2;have rN:=h_ cY;have fG:=h_ bR;have kW:=h_ jh;have kT:=h_ bL;rw[hR] at p7;have DJ:=h_ p7;have yd:=h_ vu;clear iQ cI iC dC bL cY bR jh a7 cT H1 pG jQ aP p7 vu hT hR h2;go_wp2_with fail;refine(H2.o).mono ?_;rintro x w2 ⟨rfl,a8⟩;have om:=Bk.below rN.o a8 (Bk.lt rN.o);have eV:=Bk.below fG.o a8 (Bk.lt fG.o);have cD:=kT.o.below a8;have fx:=kW.o.trans (a8.mono kW.o.size);clear c1 f1;have e1:((T.length-R.length:Nat):Int)=(T.length:Int)-(R.length:Int):=(by omega);obtain⟨E,hE⟩:∃E,e+((T.length:Int)-(R.length:Int))=E:=⟨_,rfl⟩
 have dC:∀(L:List UInt8) (x:Bool) (y:Value) (z:Int),y=.slice A1 T.length jg\/y=.slice none 0 0->∀v∈L.map bv,v∉(#[.bool x,y,.int .i64 z]:Array Value).toList:=λL x y z hy v hv=>by
  obtain⟨q,_,rfl⟩:=Va6.1 hv;rcases hy with rfl|rfl<;>simp[bv]
 have kX:Bk w2 w.heap.size 197 #[.bool b,.slice A1 T.length jg,.int .i64 e]:=(by simpa using om);have DK:Bk (w2.setCell ⟨w.heap.size,2,none⟩ (.int .i64 E)) w.heap.size 197 #[.bool b,.slice A1 T.length jg,.int .i64 E]:=(by simpa using kX.put 2 (.int .i64 E));have dZ:=Zb2 cD kX (dC _ _ _ _ (.inl rfl)) 2 (.int .i64 E);have bp:=Zb2 dZ DK (dC _ _ _ _ (.inl rfl)) 1 (.slice A1 R.length R.length);have gN:=(eV.off (p:=⟨w.heap.size,2,none⟩) (by simp) (.int .i64 E)).off (p:=⟨w.heap.size,1,none⟩) (by simp) (.slice A1 R.length R.length);have iD:=(fx.setCell (p:=⟨w.heap.size,2,none⟩) UZz (.int .i64 E)).setCell (p:=⟨w.heap.size,1,none⟩) UZz (.slice A1 R.length R.length);have c0:=kX.cell 0;have c1:=kX.cell 1;have c2:=kX.cell 2;have f1:=kX.frozen 1;have f2:=kX.frozen 2;have r0:=eV.cell 0;have r1:=eV.cell 1;have r2:=eV.cell 2;have g0:=eV.frozen 0;have g1:=eV.frozen 1;have g2:=eV.frozen 2;simp at c0 c1 c2 r0 r1 r2;have hz:=h_ dC;have bN:=Z7r bp R.length;rw[<-Vc9,yd.o] at bN;have gO:=h_ bN;have mo:=h_ gN;have so:=h_ iD;have Vn: -4000000<=E/\E<=4000000:=(by omega);have HE:=h_ hE;have Lt:=h_ e1;clear e1;have fN:R.length<=jg:=(by omega);clear om kX DK cD dZ bp bN eV gN fx iD a8 rN fG kW kT H2 dC;by_cases od:R=[]
 ·have hl:R.length=0:=(by rw[od];rfl);have ht:=DJ.o;rw[Vaf od] at ht;have Ht:=h_ ht;obtain⟨WF,gB,u0,u1,u2,gP,dD⟩:=Qv mo.o so.o (by omega) gO.o false (.slice none 0 0) 0;have jR:=h_ gB;have fS:=h_ dD;have dz:((R.length:Int)==0)=true:=(by rw[beq_iff_eq];omega);clear ht DJ gB gP dD mo so gO od HE Lt hz yd hl;go_wp2;rw[jR.o];refine bodyPost_ret (by simp[results,Tryz.results196,go_sem,u0,u1,u2];try rfl) rfl ?_;rw[Ht.o];exact⟨_,rfl,⟨none,0,rfl,At.nil _ _,UZz,Var _⟩,fS.o⟩
 ·have hl:((R.length:Int)==0)=false:=by
   rw[Van];intro h;exact od (Vak (by omega))
  have ht:=DJ.o;rw[Vad od] at ht;have Ht:=h_ ht;obtain⟨WF,gB,u0,u1,u2,gP,dD⟩:=Qv mo.o so.o (by omega) gO.o b (.slice A1 R.length R.length) E;have jR:=h_ gB;have pH:=h_ gP;have fS:=h_ dD;clear ht od DJ gB gP dD mo so gO;go_wp2;rw[jR.o];refine bodyPost_ret (by simp[results,Tryz.results196,go_sem,u0,u1,u2];try rfl) rfl ?_;rw[Ht.o];exact⟨_,rfl,⟨A1,R.length,by rw[Lt.o,HE.o],pH.o,UZz,Vas fN dH⟩,fS.o⟩
def hitB (S L:List UInt8) (k:Nat):Bool:=match L[k]? with
 |some c=>S.contains c
 |none=>false
def hitK (S L:List UInt8) (k:Nat):Nat:=if hitB S L k then k+1 else k
theorem byte_at (s:ByteArray) (k:Nat) (h:k<s.size):(toL s)[k]? =some (s[k]'h):=by
 have hl:k<(toL s).length:=h;rw[Vao hl];simp only[toL,Array.getElem_toList];rfl
theorem Zii (s:ByteArray) (k:Nat) (h:¬k<s.size):(toL s)[k]? =none:=Vcb (by rw[Z1];omega)
theorem Zij {w:World} {ba bb k:Nat} {s:ByteArray} {S:List UInt8} (ha:Bk w ba 3 #[.int .i64 (k:Int)]) (hb:Bk w bb 9 #[.string s]) (hk:k<=s.size) (hs:s.size<=64) (hS:S.length<=2):
  Calls Tryz.prog 194 #[.string (bs S),.pointer (some ⟨ba,0,none⟩),.pointer (some ⟨bb,0,none⟩)] w λx w'=>x=.returned (.bool (hitB S (toL s) k))/\Bk w' ba 3 #[.int .i64 (hitK S (toL s) k:Int)]/\Bk w' bb 9 #[.string s]/\Fr (only ba) w w':=by
 have Ha:=h_ ha;have Hb:=h_ hb;have ad:(bs S).size=S.length:=rfl;by_cases ab:k<s.size
 ·have an:=byte_at s k ab;obtain⟨c,hc⟩:∃c,s[k]=c:=⟨_,rfl⟩;rw[hc] at an;have kY:hitB S (toL s) k=S.contains c:=(by unfold hitB;rw[an]);have pd:((s[k]'ab).toNat:Int)=(c.toNat:Int):=(by rw[hc]);have ez:=h_ (show ∀(i:Nat) (h:i<(bs S).size) (h2:i<S.length),((bs S)[i]'h)=S[i] from λi h h2=>rfl);have mq:=h_ kY;have dF:=h_ (show S.contains c=false->hitK S (toL s) k=k from λh=>by unfold hitK;rw[kY,h];rfl);have ft:=h_ (show S.contains c=true->hitK S (toL s) k=k+1 from λh=>by unfold hitK;rw[kY,h];rfl);obtain⟨C,hC⟩:∃C,c.toNat=C:=⟨_,rfl⟩;rw[hC] at pd;have HC:=h_ hC;generalize bs S=B at*;obtain⟨L,hL⟩:∃L,S.length=L:=⟨_,rfl⟩;have HL:=h_ hL;rw[hL] at ad hS;have cC:=h_ ad;have Rk:B.size<=2:=(by omega);clear ha hb kY ad hL an hc hC;go_enter Tryz.func194,Tryz.ntmps194;go_wp2;go_loopw [8] (λiv wr=>∃i:Nat,i<=B.size/\iv=.int .i64 i/\Bk wr ba 3 #[.int .i64 (k:Int)]/\Bk wr bb 9 #[.string s]/\Hid (∀j,j<i->S[j]? ≠some c)/\Fr (only ba) w wr) (λiv _=>(B.size-intOf iv).toNat);case atStart=>exact⟨0,by omega,rfl,Ha.o,Hb.o,h_ (λj h=>by omega),Fr.refl _ _⟩
  case round=>
   obtain⟨i,hi,rfl,fk,a7,dC,hf⟩:=hrel;have c0:=fk.cell 0;have c1:=a7.cell 0;have f0:=fk.frozen 0;simp at c0 c1;by_cases aX:i<B.size
   ·have r7:i<S.length:=(by rw[HL.o];have:=cC.o;omega);obtain⟨d,hd⟩:∃d,S[i]=d:=⟨_,rfl⟩;obtain⟨D,hD⟩:∃D,d.toNat=D:=⟨_,rfl⟩;have xW:((B[i]'aX).toNat:Int)=(D:Int):=(by rw[ez.o i aX r7,hd,hD]);by_cases iE:c=d
    ·have jP:S.contains c=true:=by
      rw[List.contains_iff_mem,iE,<-hd];exact Vaj _
     have heq:((C:Int)==(D:Int))=true:=(by rw[beq_iff_eq,<-HC.o,<-hD,iE]);have hh:=mq.o;rw[jP] at hh;have Hh:=h_ hh;have kE:=ft.o jP;have sq:=h_ kE;clear jP hh kE mq dF ft dC ez hd hD iE HC HL cC;go_wp2;go_quiet (fail);go_wp2;go_returns;rw[Hh.o,sq.o];refine⟨rfl,?_,(a7.drewN nq).off (p:=⟨ba,0,none⟩) ?_ _,X3 (hf.drewN nq) 0 _⟩
     ·simpa using (fk.drewN nq).put 0 (.int .i64 ((k+1:Nat):Int))
     ·exact λe=>(a7.apart fk (by decide)) e
    ·have ay:((C:Int)==(D:Int))=false:=by
      rw[Van,<-HC.o,<-hD];intro e;exact iE (UInt8.toNat_inj.1 (by omega))
     have Gk:Hid (∀j,j<i+1->S[j]? ≠some c):=h_ (λj h=>by
      rcases Nat.lt_or_ge j i with h1|h1
      ·exact dC.o j h1
      ·have:j=i:=(by omega);subst this;rw[Vao r7,hd];intro e;injection e with e;exact iE e.symm)
     clear mq dF ft dC ez hd hD iE HC HL cC;go_wp2;go_quiet (fail);go_wp2;refine⟨⟨i+1,by omega,by go_num,fk.drewN nq,a7.drewN nq,Gk,hf.drewN nq⟩,?_⟩;simp[intOf]<;>omega
   ·have jP:S.contains c=false:=by
     rw[Bool.eq_false_iff];intro h;rw[List.contains_iff_mem] at h;obtain⟨j,hj,he⟩:=List.getElem_of_mem h;exact dC.o j (by have:=HL.o;have:=cC.o;omega) (by rw[Vao hj,he])
    have hh:=mq.o;rw[jP] at hh;have Hh:=h_ hh;have kE:=dF.o jP;have sq:=h_ kE;clear jP hh kE mq dF ft dC ez HC HL cC;go_wp2;go_returns;rw[Hh.o,sq.o];exact⟨rfl,fk,a7,hf⟩
 ·have kY:hitB S (toL s) k=false:=(by unfold hitB;rw[Zii s k ab]);have cK:k=s.size:=(by omega);have mq:=h_ kY;have sq:=h_ (show hitK S (toL s) k=k by unfold hitK;rw[kY];rfl);generalize bs S=B at*;obtain⟨L,hL⟩:∃L,S.length=L:=⟨_,rfl⟩;rw[hL] at ad hS;have cC:=h_ ad;have Rk:B.size<=2:=(by omega);clear ha hb kY ad hL;go_enter Tryz.func194,Tryz.ntmps194;go_wp2;go_loopw [8] (λiv wr=>∃i:Nat,i<=B.size/\iv=.int .i64 i/\Bk wr ba 3 #[.int .i64 (k:Int)]/\Bk wr bb 9 #[.string s]/\Fr (only ba) w wr) (λiv _=>(B.size-intOf iv).toNat);case atStart=>exact⟨0,by omega,rfl,Ha.o,Hb.o,Fr.refl _ _⟩
  case round=>
   obtain⟨i,hi,rfl,fk,a7,hf⟩:=hrel;have c0:=fk.cell 0;have c1:=a7.cell 0;simp at c0 c1;by_cases aX:i<B.size
   ·go_wp2;go_quiet (fail);go_wp2;refine⟨⟨i+1,by omega,by go_num,fk.drewN nq,a7.drewN nq,hf.drewN nq⟩,?_⟩;simp[intOf]<;>omega
   ·go_wp2;go_returns;rw[mq.o,sq.o];exact⟨rfl,by first|exact fk|(rw[cK] at fk;exact fk),a7,hf⟩
theorem Zc1 (L:List UInt8):dfr L=L.take (dfr L).length:=by
 have h:=(List.takeWhile_prefix isD (l:=L));exact(List.prefix_iff_eq_take.1 h)
theorem Zik (L:List UInt8) (j:Nat) (h:j<(dfr L).length):∃c,L[j]? =some c/\isD c=true:=by
 obtain⟨c,hc⟩:∃c,(dfr L)[j]=c:=⟨_,rfl⟩;have hd:isD c=true:=hc▸Z3E L _ (Vaj _);have h1:(dfr L)[j]? =some c:=(by rw[Vao h,hc]);have h2:(L.take (dfr L).length)[j]? =some c:=(by rw[<-Zc1 L];exact h1);rw[List.getElem?_take,Vaf h] at h2;exact⟨c,h2,hd⟩
theorem Zfk (L:List UInt8):∀c,L[(dfr L).length]? =some c->isD c=false:=by
 unfold dfr;induction L with
 |nil=>intro c h;simp at h
 |cons a t ih=>
  intro c h;rw[List.takeWhile_cons] at h;split at h
  ·rw[Vaz,List.getElem?_cons_succ] at h;exact ih c h
  ·rename_i ha;simp at h;subst h;simpa using ha
def amu (b n:Nat) (w:World):Nat:=match w.cell? ⟨b,0,none⟩ with
 |some (.int _ k)=>(n-k).toNat
 |_=>0
theorem ZgZ {w:World} {b n k:Nat} (h:Bk w b 3 #[.int .i64 (k:Int)]):amu b n w=((n:Int)-(k:Int)).toNat:=by
 have:=h.cell 0;simp at this;unfold amu;rw[this]
theorem Zil (s:ByteArray) (a b:Nat):s.extract a b=bs (((toL s).drop a).take (b-a)):=by
 apply Vcj;apply Vbj.1;simp only[bs,toL,ByteArray.data_extract,Array.toList_extract,List.extract_eq_take_drop]
theorem Zim {w:World} {ba bb k:Nat} {s:ByteArray} (ha:Bk w ba 3 #[.int .i64 (k:Int)]) (hb:Bk w bb 9 #[.string s]) (hk:k<=s.size) (hs:s.size<=64):
  Calls Tryz.prog 195 #[.pointer (some ⟨ba,0,none⟩),.pointer (some ⟨bb,0,none⟩)] w λx w'=>x=.returned (.string (bs (dfr ((toL s).drop k))))/\Bk w' ba 3 #[.int .i64 ((k+(dfr ((toL s).drop k)).length:Nat):Int)]/\Bk w' bb 9 #[.string s]/\Fr (only ba) w w':=by
 have Ha:=h_ ha;have Hb:=h_ hb;have vv:=Zc1 ((toL s).drop k);have ez:=h_ (Zik ((toL s).drop k));have pI:=h_ (Zfk ((toL s).drop k));obtain⟨D,hD⟩:∃D,dfr ((toL s).drop k)=D:=⟨_,rfl⟩;rw[hD] at vv ez pI⊢;obtain⟨m,hm⟩:∃m,k+D.length=m:=⟨_,rfl⟩
 have gb:D.length<=s.size-k:=by
  have:=Z3G ((toL s).drop k);rw[hD,Va2,Z1] at this;exact this
 have fZ:m<=s.size:=by omega
 have hex:s.extract k m=bs D:=by
  rw[Zil,show m-k=D.length by omega,<-vv]
 have ie:=h_ hex;have Hm:=h_ hm;rw[hm];have nB:k<=m:=(by omega)
 have bJ:Hid (∀j,k<=j->j<m->∃(h:j<s.size),isD (s[j]'h)=true):=h_ (λj h1 h2=>by
  obtain⟨c,cq,dN⟩:=ez.o (j-k) (by omega);have hj:j<s.size:=(by omega);refine⟨hj,?_⟩;rw[List.getElem?_drop,show k+(j-k)=j by omega,byte_at s j hj] at cq;injection cq with cq;rw[cq];exact dN)
 have dX:Hid (∀(h:m<s.size),isD (s[m]'h)=false):=h_ (λh=>by
  refine pI.o _ ?_;rw[List.getElem?_drop,show k+D.length=m from hm];exact byte_at s m h)
 clear ha hb vv ez pI hD gb hex hm;have Rl:=Ha.o.cell 0;simp at Rl;go_enter Tryz.func195,Tryz.ntmps195;go_wp2;go_loopw [] (λwr=>∃j:Nat,k<=j/\j<=m/\Bk wr ba 3 #[.int .i64 (j:Int)]/\Bk wr bb 9 #[.string s]/\Fr (only ba) w wr) (λwr=>amu ba m wr);case atStart=>exact⟨k,UZz,nB,Ha.o,Hb.o,Fr.refl _ _⟩
 case round=>
  obtain⟨j,oa,tM,fk,a7,hf⟩:=hrel;have c0:=fk.cell 0;have c1:=a7.cell 0;have f0:=fk.frozen 0;simp at c0 c1;by_cases ab:j<m
  ·obtain⟨DL,vw⟩:=bJ.o j oa ab;obtain⟨C,hC⟩:∃C,(s[j]'DL).toNat=C:=⟨_,rfl⟩
   have Gl:48<=C/\C<=57:=by
    unfold isD at vw;simp at vw;omega
   obtain⟨q1,q2⟩:=Gl;have ay:=a7.apart fk (by decide);have aj:=fk.put 0 (.int .i64 ((j+1:Nat):Int));have az:=h_ (show Bk (wr.setCell ⟨ba,0,none⟩ (.int .i64 ((j+1:Nat):Int))) ba 3 #[.int .i64 ((j+1:Nat):Int)] by simpa using aj);have al:=h_ (a7.off (p:=⟨ba,0,none⟩) ay (.int .i64 ((j+1:Nat):Int)));have Hf:=h_ (X3 hf 0 (.int .i64 ((j+1:Nat):Int)));have ye:=h_ (ZgZ (n:=m) fk);clear vw aj a7 hf fk ay bJ dX;go_wp2;have e1:(j:Int)+1=((j+1:Nat):Int):=(by omega);rw[e1];refine⟨⟨j+1,by omega,by omega,az.o,al.o,Hf.o⟩,?_⟩;rw[ZgZ az.o,ye.o];omega
  ·have rl:j=m:=(by omega);subst rl;have r8:=h_ fk;have al:=h_ a7;have Hf:=h_ hf;have qX:(k:Int)<=(j:Int):=(by omega);by_cases DL:j<s.size
   ·have vw:=dX.o DL;obtain⟨C,hC⟩:∃C,(s[j]'DL).toNat=C:=⟨_,rfl⟩
    have Gl:C<48\/57<C:=by
     unfold isD at vw;simp at vw;omega
    clear vw fk a7 hf bJ dX;rcases Gl with q1|q1
    all_goals
     go_wp2;go_returns;exact⟨Z3I ie.o,r8.o,al.o,Hf.o⟩
   ·have Vo:¬(j:Int)<(s.size:Int):=(by omega);clear fk a7 hf bJ dX;go_wp2;go_returns;exact⟨Z3I ie.o,r8.o,al.o,Hf.o⟩
theorem Zh0 {s t:ByteArray} {a b:Int} (h:s=t) (h2:a=b):Ending.returned (.tuple #[.string s,.int .i64 a])=.returned (.tuple #[.string t,.int .i64 b]):=by rw[h,h2]
theorem Zc2 {w:World} {v:Value} {n:Num} (h:NV w v n) (hs:Sz n) (ht:Tab w):
  Calls Tryz.prog 152 #[v] w λx w'=>x=.returned (.tuple #[.string (bs (Xb n).1),.int .i64 ((Xb n).2:Int)])/\Below w.heap.size w w':=by
 obtain⟨A,cap,rfl,an,hc,hm⟩:=h;obtain⟨b,d,e⟩:=n;obtain⟨s1,s2,s3⟩:=hs;simp only at*
 have jw:Xb ⟨b,d,e⟩=if d=[] then([48],0) else if 17<d.length\/e+d.length-1< -400\/400<e+d.length-1 then([],9)
  else((if b then[45] else[])++d.take 1++(if 1<d.length then 46::d.drop 1 else[])++101::decZ (e+d.length-1),0):=rfl
 have aD:=(Vae w.heap.size w).alloc UZz (.cells #[.bool b,.slice A d.length cap,.int .i64 e] 197);have uQ:Bk (w.alloc (.cells #[.bool b,.slice A d.length cap,.int .i64 e] 197)) w.heap.size 197 #[.bool b,.slice A d.length cap,.int .i64 e]:=Bk.new _ _ _;have aP:=h_ aD;have pG:=h_ uQ;have bJ:=h_ an;have Ht:=h_ ht;have Hf:=h_ (λW=>Z8F b A d.length cap e s1 s2 s3 W);clear aD uQ an ht;by_cases h0:d=[]
 ·subst h0;have oo:=h_ (jw.trans (Vaf rfl));clear jw Hf;go_enter Tryz.func152,Tryz.ntmps152;go_wp2;go_returns;exact⟨by rw[oo.o]<;>rfl,aP.o⟩
 ·rw[Vad h0] at jw
  have fl:((d.length:Int)==0)=false:=by
   rw[Van];intro h;exact h0 (Vak (by omega))
  have Rm:0<d.length:=List.length_pos_iff.2 h0;obtain⟨L,hL⟩:∃L,d.length=L:=⟨_,rfl⟩;obtain⟨F,hF⟩:∃F,e+(L:Int)-1=F:=⟨_,rfl⟩;rw[hL] at jw Hf pG aP hc fl Rm s3⊢;rw[hF] at jw Hf;by_cases tE:17<L
  ·rw[Vaf (.inl tE)] at jw;have oo:=h_ jw;have Gm:(17:Int)<(L:Int):=(by omega);clear jw Hf tE hF;go_enter Tryz.func152,Tryz.ntmps152;go_wp2;go_returns;exact⟨by rw[oo.o]<;>rfl,aP.o⟩
  ·have Gm:¬(17:Int)<(L:Int):=(by omega);by_cases jd:F< -400
   ·rw[Vaf (.inr (.inl jd))] at jw;have oo:=h_ jw;clear jw tE hF;go_enter Tryz.func152,Tryz.ntmps152;go_wp2_with fail;refine(Hf.o _).mono ?_;rintro r w1 ⟨rfl,a7⟩;have cA:=aP.o.trans (a7.mono aP.o.size);go_wp2;go_returns;exact⟨by rw[oo.o]<;>rfl,cA⟩
   ·by_cases lR:400<F
    ·rw[Vaf (.inr (.inr lR))] at jw;have oo:=h_ jw;clear jw tE hF;go_enter Tryz.func152,Tryz.ntmps152;go_wp2_with fail;refine(Hf.o _).mono ?_;rintro r w1 ⟨rfl,a7⟩;have iQ:=Bk.below pG.o a7 (Bk.lt pG.o);have iC:=aP.o.trans (a7.mono aP.o.size);have c0:=iQ.cell 0;have c1:=iQ.cell 1;have c2:=iQ.cell 2;simp at c0 c1 c2;have mr:=h_ iC;clear iQ iC a7;go_wp2_with fail;refine(Hf.o _).mono ?_;rintro r w2 ⟨rfl,a8⟩;have cA:=mr.o.trans (a8.mono mr.o.size);go_wp2;go_returns;exact⟨by rw[oo.o]<;>rfl,cA⟩
    ·rw[Vad (by omega)] at jw;have oo:=h_ jw;have HL:=h_ hL;clear jw tE hF;go_enter Tryz.func152,Tryz.ntmps152;go_wp2_with fail;refine(Hf.o _).mono ?_;rintro r w1 ⟨rfl,a7⟩;have iQ:=Bk.below pG.o a7 (Bk.lt pG.o);have iC:=aP.o.trans (a7.mono aP.o.size);have c0:=iQ.cell 0;have c1:=iQ.cell 1;have c2:=iQ.cell 2;simp at c0 c1 c2;have oZ:=h_ iQ;have mr:=h_ iC;clear iQ iC a7;go_wp2_with fail;refine(Hf.o _).mono ?_;rintro r w2 ⟨rfl,a8⟩;have cY:=Bk.below oZ.o a8 (Bk.lt oZ.o);have jh:=mr.o.trans (a8.mono mr.o.size);clear c0 c1 c2;have c0:=cY.cell 0;have c1:=cY.cell 1;have c2:=cY.cell 2;simp at c0 c1 c2;have bL:=bJ.o.below jh;have l1:(d.take 1).length=1:=(by rw[Vau,HL.o];omega)
     have Ft:(convert 115 9 (.slice A 1 cap)).run Tryz.prog w2=.ok (.string (bs (d.take 1))) w2:=by
      have:=Zb1 (P:=Tryz.prog) 115 9 5 Tryz.underlying115 Tryz.underlying5 Tryz.underlying9 (w:=w2) (A:=A) (l:=d.take 1) (by rw[Vc9];exact Z7r bL 1) cap;rw[l1] at this;exact this
     have Lu:=h_ (λW (h:Below w.heap.size w W)=>Zb4 (Ht.o.below h) F (by omega) (by omega))
     have pJ:(decZ F).length<=4:=by
      unfold decZ;split
      ·have:=Qs (n:=(-F).toNat) (k:=3) (by omega) (by omega);rw[Vaz];omega
      ·have:=Qs (n:=F.toNat) (k:=3) (by omega) (by omega);omega
     have z1:(bs (d.take 1)).size<=1:=(by rw[Z0,l1];exact UZz);have z3:(bs (decZ F)).size<=4:=(by rw[Z0];exact pJ);have rN:=h_ cY;have kW:=h_ jh;by_cases Lv:L=1
     ·have jS:=oo.o;rw[Vad (show ¬1<L by omega),Va3] at jS
      have mu:Hid ((if b then(⟨#[45]⟩:ByteArray)++bs (d.take 1) else bs (d.take 1))++(⟨#[101]⟩:ByteArray)++bs (decZ F)=bs (Xb ⟨b,d,e⟩).1):=h_ (by
       rw[jS];have e1:(⟨#[101]⟩:ByteArray)=bs [101]:=rfl;have e2:(⟨#[45]⟩:ByteArray)=bs [45]:=rfl;rw[e1,e2];cases b
       ·simp[Zf]
       ·simp[Zf])
      have H0:Hid ((Xb ⟨b,d,e⟩).2=0):=h_ (by rw[jS]);subst Lv;generalize bs (d.take 1)=S1 at*;generalize bs (decZ F)=S3 at*;clear jS oo cY jh bL l1 pJ oZ mr pG aP bJ a8;cases b
      all_goals
       go_wp2_with fail;refine(Hf.o _).mono ?_;rintro r w3 ⟨rfl,af⟩;have fx:=kW.o.trans (af.mono kW.o.size);go_wp2_with fail;refine(Lu.o _ fx).mono ?_;rintro r w4 ⟨rfl,au⟩;have iD:=fx.trans (au.mono fx.size);clear fx af au c0 c1 c2;go_wp2;go_returns;exact⟨Zh0 (by have:=mu.o;simpa using this) (by rw[H0.o];rfl),iD⟩
     ·have DG:1<L:=(by omega);have Rn:(1:Int)<(L:Int):=(by omega);have jS:=oo.o;rw[Vaf DG] at jS;obtain⟨bA,oA,hA,_,_⟩:=bL 0 (by rw[Vag,HL.o];omega);subst hA;have l2:(d.drop 1).length=L-1:=(by rw[Va2,HL.o])
      have Fu:(convert 115 9 (.slice (some ⟨bA,oA+1,none⟩) (L-1) (cap-1))).run Tryz.prog w2=.ok (.string (bs (d.drop 1))) w2:=by
       have:=Zb1 (P:=Tryz.prog) 115 9 5 Tryz.underlying115 Tryz.underlying5 Tryz.underlying9 (w:=w2) (A:=some ⟨bA,oA+1,none⟩) (l:=d.drop 1) (by rw[List.map_drop];exact Z7q bL 1) (cap-1);rw[l2] at this;exact this
      have cq:¬cap=1:=(by omega);have z2:(bs (d.drop 1)).size<=17:=(by rw[Z0,l2];omega)
      have mu:Hid ((if b then(⟨#[45]⟩:ByteArray)++(bs (d.take 1)++((⟨#[46]⟩:ByteArray)++bs (d.drop 1))) else bs (d.take 1)++((⟨#[46]⟩:ByteArray)++bs (d.drop 1)))++(⟨#[101]⟩:ByteArray)++bs (decZ F)=bs (Xb ⟨b,d,e⟩).1):=h_ (by
       rw[jS];have e1:(⟨#[101]⟩:ByteArray)=bs [101]:=rfl;have e2:(⟨#[45]⟩:ByteArray)=bs [45]:=rfl;have e3:(⟨#[46]⟩:ByteArray)=bs [46]:=rfl;rw[e1,e2,e3];cases b
       ·simp[Zf]
       ·simp[Zf])
      have H0:Hid ((Xb ⟨b,d,e⟩).2=0):=h_ (by rw[jS]);generalize bs (d.take 1)=S1 at*;generalize bs (d.drop 1)=S2 at*;generalize bs (decZ F)=S3 at*;clear jS oo cY jh bL l1 l2 pJ oZ mr pG aP bJ a8 Lv;cases b
      all_goals
       go_wp2_with fail;refine(Hf.o _).mono ?_;rintro r w3 ⟨rfl,af⟩;have fx:=kW.o.trans (af.mono kW.o.size);go_wp2_with fail;refine(Lu.o _ fx).mono ?_;rintro r w4 ⟨rfl,au⟩;have iD:=fx.trans (au.mono fx.size);clear fx af au c0 c1 c2;go_wp2;go_returns;exact⟨Zh0 (by have:=mu.o;simpa using this) (by rw[H0.o];rfl),iD⟩
def sgK (L:List UInt8) (k:Nat):Nat:=if hitB [45] L k then k+1 else hitK [43] L k
theorem Qe (S L:List UInt8) (k:Nat):(L.length<=k/\hitB S L k=false/\L.drop k=[])\/(∃c,L[k]? =some c/\k<L.length/\hitB S L k=S.contains c/\L.drop k=c::L.drop (k+1)):=by
 by_cases h:k<L.length
 ·right;refine⟨L[k],Vao h,h,?_,Va4 h⟩;unfold hitB;rw[Vao h]
 ·left;refine⟨by omega,?_,Vbb (by omega)⟩;unfold hitB;rw[Vcb (by omega)]
theorem Z58 (L:List UInt8) (k:Nat):sgn (L.drop k)=(hitB [45] L k,L.drop (sgK L k)):=by
 unfold sgK hitK;rcases Qe [45] L k with ⟨h1,h2,h3⟩|⟨c,h1,h2,h3,h4⟩
 ·have h5:hitB [43] L k=false:=(by unfold hitB;rw[Vcb h1]);rw[h2,h5,h3];simp[sgn,h3]
 ·have h5:hitB [43] L k=[43].contains c:=(by unfold hitB;rw[h1]);rw[h3,h5,h4,Z3F];by_cases e1:c=45
  ·subst e1;simp
  ·by_cases e2:c=43
   ·subst e2;simp
   ·simp[e1,e2,h4]
theorem Zh1 {L:List UInt8} {k:Nat} (hk:k<=L.length):k<=sgK L k/\sgK L k<=L.length:=by
 unfold sgK hitK;rcases Qe [45] L k with ⟨h1,h2,h3⟩|⟨c,h1,h2,h3,h4⟩
 ·have h5:hitB [43] L k=false:=(by unfold hitB;rw[Vcb h1]);rw[h2,h5];simp[hk]
 ·split
  ·omega
  ·split<;>omega
theorem Zh2 {S L:List UInt8} {k:Nat} (h:hitB S L k=true):k<L.length:=by
 rcases Qe S L k with ⟨h1,h2,h3⟩|⟨c,h1,h2,h3,h4⟩
 ·rw[h2] at h;cases h
 ·exact h2
theorem Z1n {S L:List UInt8} {k:Nat} (h:hitB S L k=true):hitK S L k=k+1:=by unfold hitK;rw[Vaf h]
theorem Z3Y {S L:List UInt8} {k:Nat} (h:hitB S L k=false):hitK S L k=k:=by unfold hitK;rw[h];rfl
theorem Z3Z (L:List UInt8) (k:Nat):aft (L.drop k)=L.drop (k+(dfr (L.drop k)).length):=by
 have h:L.drop k=dfr (L.drop k)++aft (L.drop k):=(List.takeWhile_append_dropWhile (p:=isD) (l:=L.drop k)).symm
 have h2:(L.drop k).drop (dfr (L.drop k)).length=aft (L.drop k):=by
  have h3:(dfr (L.drop k)++aft (L.drop k)).drop (dfr (L.drop k)).length=aft (L.drop k):=Vcm;rw[<-h] at h3;exact h3
 rw[<-h2,Vcy]
theorem Z6j (L:List UInt8) {k:Nat} (hk:k<=L.length):k+(dfr (L.drop k)).length<=L.length:=by
 have:=Z3G (L.drop k);rw[Va2] at this;omega
theorem Z91 (L:List UInt8) (k:Nat):frac (L.drop k)=if hitB [46] L k then(if dfr (L.drop (k+1))=[] then none else some (dfr (L.drop (k+1)),L.drop (k+1+(dfr (L.drop (k+1))).length))) else some ([],L.drop k):=by
 rcases Qe [46] L k with ⟨h1,h2,h3⟩|⟨c,h1,h2,h3,h4⟩
 ·rw[h2,h3];rfl
 ·rw[h3,h4,Z08];by_cases e:c=46
  ·subst e;simp[Z3Z]
  ·simp[e]
theorem Z2W (f:List UInt8->Nat) (L:List UInt8) (k:Nat):expo f (L.drop k)=if hitB [101,69] L k then(if dfr (L.drop (sgK L (k+1)))=[] then none else some (sg (hitB [45] L (k+1))*(f (dfr (L.drop (sgK L (k+1)))):Int),L.drop (sgK L (k+1)+(dfr (L.drop (sgK L (k+1)))).length))) else some (0,L.drop k):=by
 rcases Qe [101,69] L k with ⟨h1,h2,h3⟩|⟨c,h1,h2,h3,h4⟩
 ·rw[h2,h3];rfl
 ·rw[h3,h4,Z4G,Z58];by_cases e:c=101\/c=69
  ·have:[101,69].contains c=true:=(by rw[List.contains_iff_mem];simpa using e);rw[this,Vaf e];simp[Z3Z]
  ·have:[101,69].contains c=false:=by
    rw[Bool.eq_false_iff];intro h;rw[List.contains_iff_mem] at h;exact e (by simpa using h)
   rw[this,Vad e];simp
structure ScSt (w wx:World) (s:ByteArray) (k:Nat) (b:Bool) (v:Value) (D:List UInt8) (e:Int):Prop where
 bs_:Bk wx w.heap.size 9 #[.string s]
 br:Bk wx (w.heap.size+1) 197 #[.bool false,.slice none 0 0,.int .i64 0]
 bn:Bk wx (w.heap.size+1+1) 197 #[.bool b,v,.int .i64 e]
 ba:Bk wx (w.heap.size+1+1+1) 3 #[.int .i64 (k:Int)]
 own:wx.ownsRow w.heap.size 5 1 v D.length (D.map bv)
 bel:Below w.heap.size w wx
theorem ScSt.step {w wx wy:World} {s:ByteArray} {k k':Nat} {b:Bool} {v:Value} {D:List UInt8} {e:Int} (h:ScSt w wx s k b v D e) (hb:Bk wy (w.heap.size+1+1+1) 3 #[.int .i64 (k':Int)]) (hf:Fr (only (w.heap.size+1+1+1)) wx wy):ScSt w wy s k' b v D e where
 bs_:=h.bs_.fr hf (by show ¬_=_;omega)
 br:=h.br.fr hf (by show ¬_=_;omega)
 bn:=h.bn.fr hf (by show ¬_=_;omega)
 ba:=hb
 own:=Zl h.own hf (λg hg hn=>Z3 h.own h.ba (by decide) (hn▸hg))
 bel:=h.bel.trans (Z1L hf h.bel.size (by omega))
theorem ScSt.num {w wx wy:World} {s:ByteArray} {k:Nat} {b b':Bool} {v:Value} {D:List UInt8} {e e':Int} (h:ScSt w wx s k b v D e) (hb:Bk wy (w.heap.size+1+1) 197 #[.bool b',v,.int .i64 e']) (hf:Fr (only (w.heap.size+1+1)) wx wy):ScSt w wy s k b' v D e' where
 bs_:=h.bs_.fr hf (by show ¬_=_;omega)
 br:=h.br.fr hf (by show ¬_=_;omega)
 bn:=hb
 ba:=h.ba.fr hf (by show ¬_=_;omega)
 own:=Zl h.own hf (λg hg hn=>Z3 h.own h.bn (by decide) (hn▸hg))
 bel:=h.bel.trans (Z1L hf h.bel.size (by omega))
theorem ScSt.neg {w wx:World} {s:ByteArray} {k:Nat} {b:Bool} {v:Value} {D:List UInt8} {e:Int} (h:ScSt w wx s k b v D e) (b':Bool):ScSt w (wx.setCell ⟨w.heap.size+1+1,0,none⟩ (.bool b')) s k b' v D e:=
 h.num (by simpa using h.bn.put 0 (.bool b')) (X3 (Fr.refl _ _) 0 _)
theorem ScSt.exp {w wx:World} {s:ByteArray} {k:Nat} {b:Bool} {v:Value} {D:List UInt8} {e:Int} (h:ScSt w wx s k b v D e) (e':Int):ScSt w (wx.setCell ⟨w.heap.size+1+1,2,none⟩ (.int .i64 e')) s k b v D e':=
 h.num (by simpa using h.bn.put 2 (.int .i64 e')) (X3 (Fr.refl _ _) 2 _)
theorem ScSt.app {w wx wy:World} {s:ByteArray} {k:Nat} {b:Bool} {v v':Value} {D E:List UInt8} {e:Int} (h:ScSt w wx s k b v D e) (ho:wy.ownsRow w.heap.size 5 1 v' (D++E).length ((D++E).map bv)) (hg:wx.grownBy wy v.ownBlock):
  Bk wy (w.heap.size+1+1) 197 #[.bool b,v,.int .i64 e]/\ScSt w (wy.setCell ⟨w.heap.size+1+1,1,none⟩ v') s k b v' (D++E) e:=by
 have hn:=h.bn.grown hg (λx=>Z3 h.own h.bn (by decide) x.symm);have hk:=hn.put 1 v';refine⟨hn,?_⟩;refine⟨?_,?_,by simpa using hk,?_,?_,?_⟩
 ·exact(h.bs_.grown hg (λx=>Z3 h.own h.bs_ (by decide) x.symm)).off (p:=⟨w.heap.size+1+1,1,none⟩) (by simp<;>omega) _
 ·exact(h.br.grown hg (λx=>Z3 h.own h.br (by decide) x.symm)).off (p:=⟨w.heap.size+1+1,1,none⟩) (by simp<;>omega) _
 ·exact(h.ba.grown hg (λx=>Z3 h.own h.ba (by decide) x.symm)).off (p:=⟨w.heap.size+1+1,1,none⟩) (by simp<;>omega) _
 ·exact XA ho (p:=⟨w.heap.size+1+1,1,none⟩) (Z3 ho hn (by decide)) _
 ·exact(h.bel.grown hg h.bel.size (λk hk=>(h.own.lt k hk).1)).setCell (p:=⟨w.heap.size+1+1,1,none⟩) (by show _<=_+1+1;omega) _
theorem ScSt.one {w wx:World} {s:ByteArray} {k:Nat} {b:Bool} {v:Value} {D:List UInt8} {e:Int} (h:ScSt w wx s k b v D e) (S:List UInt8) (hk:k<=s.size) (hs:s.size<=64) (hS:S.length<=2):
  Calls Tryz.prog 194 #[.string (bs S),.pointer (some ⟨w.heap.size+1+1+1,0,none⟩),.pointer (some ⟨w.heap.size,0,none⟩)] wx λx w'=>x=.returned (.bool (hitB S (toL s) k))/\ScSt w w' s (hitK S (toL s) k) b v D e:=by
 refine(Zij h.ba h.bs_ hk hs hS).mono ?_;rintro x w' ⟨h1,h2,h3,h4⟩;exact⟨h1,h.step h2 h4⟩
theorem ScSt.dig {w wx:World} {s:ByteArray} {k:Nat} {b:Bool} {v:Value} {D:List UInt8} {e:Int} (h:ScSt w wx s k b v D e) (hk:k<=s.size) (hs:s.size<=64):
  Calls Tryz.prog 195 #[.pointer (some ⟨w.heap.size+1+1+1,0,none⟩),.pointer (some ⟨w.heap.size,0,none⟩)] wx λx w'=>x=.returned (.string (bs (dfr ((toL s).drop k))))/\ScSt w w' s (k+(dfr ((toL s).drop k)).length) b v D e:=by
 refine(Zim h.ba h.bs_ hk hs).mono ?_;rintro x w' ⟨h1,h2,h3,h4⟩;exact⟨h1,h.step h2 h4⟩
theorem Z6k (L:List UInt8):Lib.strCells (bs L)=L.map bv:=by
 unfold Lib.strCells bs bv;simp
def Zc3 (w w':World) (o:Option Num) (x:Ending):Prop:=∃v b,x=.returned (.tuple #[v,.bool b])/\Below w.heap.size w w'/\(∃b0 A l c e,v=.agg #[.bool b0,.slice A l c,.int .i64 e])/\(match o with
 |none=>b=false
 |some n=>b=true/\NV w' v n/\Sz n)
theorem Zfl (w:World) (s:ByteArray):
  ScSt w ((((w.alloc (.cells #[.string s] 9)).alloc (.cells #[.bool false,.slice none 0 0,.int .i64 0] 197)).alloc (.cells #[.bool false,.slice none 0 0,.int .i64 0] 197)).alloc (.cells #[.int .i64 0] 3)) s 0 false (.slice none 0 0) [] 0 where
 bs_:=((Bk.new w _ _).alloc _).alloc _|>.alloc _
 br:=by
  have:=Bk.new (w.alloc (.cells #[.string s] 9)) 197 #[.bool false,.slice none 0 0,.int .i64 0];rw[World.size_alloc] at this;exact(this.alloc _).alloc _
 bn:=by
  have:=Bk.new ((w.alloc (.cells #[.string s] 9)).alloc (.cells #[.bool false,.slice none 0 0,.int .i64 0] 197)) 197 #[.bool false,.slice none 0 0,.int .i64 0];rw[World.size_alloc,World.size_alloc] at this;exact this.alloc _
 ba:=by
  have:=Bk.new (((w.alloc (.cells #[.string s] 9)).alloc (.cells #[.bool false,.slice none 0 0,.int .i64 0] 197)).alloc (.cells #[.bool false,.slice none 0 0,.int .i64 0] 197)) 3 #[.int .i64 0];rw[World.size_alloc,World.size_alloc,World.size_alloc] at this;exact this
 own:=Zk
 bel:=(((Vae w.heap.size w).alloc UZz _).alloc (by simp) _|>.alloc (by simp<;>omega) _).alloc (by simp<;>omega) _
theorem Zko (f:List UInt8->Nat) {L:List UInt8} (h:L.length<=64):scn f L=if dfr (L.drop (sgK L 0))=[] then none else
  match frac (L.drop (sgK L 0+(dfr (L.drop (sgK L 0))).length)) with
  |none=>none
  |some x=>match expo f x.2 with
   |none=>none
   |some y=>if y.2=[] then some ⟨hitB [45] L 0,dfr (L.drop (sgK L 0))++x.1,y.1-x.1.length⟩ else none:=by
 have h0:=Z58 L 0;rw[Vcn] at h0;unfold scn;rw[Vad (by omega),h0];simp only[Z3Z];rfl
theorem Zc4 {w w1:World} {s:ByteArray} {k:Nat} {b:Bool} {v:Value} {D:List UInt8} {e:Int} (h:ScSt w w1 s k b v D e):
  ∃W,(((w1.setCell ⟨w.heap.size+1,0,none⟩ (.bool b)).setCell ⟨w.heap.size+1,1,none⟩ v).setCell ⟨w.heap.size+1,2,none⟩ (.int .i64 e))=W/\W.cell? ⟨w.heap.size+1,0,none⟩=some (.bool b)/\W.cell? ⟨w.heap.size+1,1,none⟩=some v/\W.cell? ⟨w.heap.size+1,2,none⟩=some (.int .i64 e)/\Below w.heap.size w W:=by
 obtain⟨W,h1,h2,h3,h4,_,h5⟩:=Qv h.br h.bel (by omega) (L:=[]) (At.nil w1 none) b v e;exact⟨W,h1,h2,h3,h4,h5⟩
theorem Zh3 {w w1:World} {s:ByteArray} {k:Nat} {b:Bool} {v:Value} {D:List UInt8} {e:Int} (h:ScSt w w1 s k b v D e) (E:List UInt8) (hl:D.length+E.length<=1000):
  ∃v' w',(Builtin.append_ #[115,9] 115 #[v,.string (bs E)]).run Tryz.prog w1=.ok v' w'/\Bk w' (w.heap.size+1+1) 197 #[.bool b,v,.int .i64 e]/\ScSt w (w'.setCell ⟨w.heap.size+1+1,1,none⟩ v') s k b v' (D++E) e:=by
 obtain⟨i,hi,hz,hs,dt⟩:=info_parts Zk6;obtain⟨v',w',hr,ho,hg,_⟩:=Lib.run_append_own_string (P:=Tryz.prog) (w:=w1) w.heap.size 115 9 115 5 i Tryz.underlying115 Tryz.underlying9 hi hz hs dt v D.length (D.map bv) h.own (bs E) (by rw[Z0];unfold maxLen;omega) (by rw[Z0];omega) h.bel.size;rw[Z6k,<-Vbk,Z0,<-Vab] at ho;obtain⟨h1,h2⟩:=h.app ho hg;exact⟨v',w',hr,h1,h2⟩
theorem Z1U {P:Program} {ops:Array Oper} {rest:List Oper} {o:Oper} {a:Act} {w w0 w':World} {Q:Exit->Act->World->Prop} {v':Value} (hw:w=w0) (uJ:o.guard=none) (s x:Operand) (t t2:TypeId)
  (ho:o.op=.call { callee:=.builtin .append,args:= #[s,x],argTypes:= #[t,t2] }) (v u:Value) (hs:a.eval s=v) (hx:a.eval x=u)
  (hr:(Builtin.append_ #[t,t2] o.type #[v,u]).run P w0=.ok v' w') (h:wpList P ops Q rest (a.put o.dst v') w'):wpList P ops Q (o::rest) a w:=by
 subst hw;refine wpList_plain uJ λK hK=> ?_;unfold Oper.wp execOp;simp only[ho,resolve,invoke,builtin,Sem.run_bind,Sem.run_pure,Result.andThen_ok,List.map_toArray,Vci,List.map_nil,hs,hx,hr];exact hK _ _ h
theorem Zfm (p:List UInt8) (i:Nat) (h:i<p.length):cl1 (p.take (i+1))=min 1048576 (10*cl1 (p.take i)+dv p[i]):=by
 unfold cl1;rw[Vac h,Vbr];rfl
theorem Zh4 (p:List UInt8):cl1 p<=1048576:=by rw[ZgS];exact Nat.min_le_left _ _
theorem Zkp {c:UInt8} (h:isD c=true):48<=c.toNat/\c.toNat<=57/\dv c=c.toNat-48:=by
 unfold isD at h;simp at h;exact⟨h.1,h.2,rfl⟩
theorem Zin {n:Num} (h1: -1500000<=n.ex) (h2:n.ex<=1500000) (h3:n.dg.length<=1000):Sz n/\Sz (Xa n):=by
 refine⟨⟨by omega,by omega,by omega⟩,?_⟩;have a1:=Z1K n.dg;have a2:=Z4F (YO n.dg);unfold Xa;split
 ·exact⟨by simp[Z3C],by simp[Z3C],by simp[Z3C]⟩
 ·exact⟨by simp only;omega,by simp only;omega,by simp only;omega⟩
theorem Zio {L:List UInt8} {k:Nat} {E:Int} {r:List UInt8} (h:expo cl1 (L.drop k)=some (E,r)): -1048576<=E/\E<=1048576:=by
 rw[Z2W] at h;have:=Zh4 (dfr (L.drop (sgK L (k+1))));generalize cl1 (dfr (L.drop (sgK L (k+1))))=c at*;split at h
 ·split at h
  ·cases h
  ·injection h with h;injection h with h _;rw[<-h];unfold sg;split<;>omega
 ·injection h with h;injection h with h _;rw[<-h];omega
theorem ScSt.keep {w wx wy:World} {s:ByteArray} {k:Nat} {b:Bool} {v:Value} {D:List UInt8} {e:Int} (h:ScSt w wx s k b v D e) (hb:Below wx.heap.size wx wy):ScSt w wy s k b v D e where
 bs_:=h.bs_.below hb h.bs_.lt
 br:=h.br.below hb h.br.lt
 bn:=h.bn.below hb h.bn.lt
 ba:=h.ba.below hb h.ba.lt
 own:=Zl h.own (Fr.of_below (S:=nob) hb) (λ_ _ f=>f)
 bel:=h.bel.trans (hb.mono h.bel.size)
theorem Z3T (D:List UInt8) (w:World):∃cap W,(convert 9 115 (.string (bs D))).run Tryz.prog w=.ok (.slice (some ⟨w.heap.size,0,none⟩) (bs D).size cap) W/\At W (some ⟨w.heap.size,0,none⟩) (D.map bv)/\Below w.heap.size w W:=by
 have h:=run_bytes_of_string (P:=Tryz.prog) w 9 115 5 (bs D) Tryz.underlying9 Tryz.underlying115 Tryz.underlying5;refine⟨_,_,h,?_,((Vae w.heap.size w).drew).alloc UZz _⟩;intro i hi;rw[Vag] at hi;refine⟨w.heap.size,0,rfl,by rw[World.size_alloc];exact Vc0 _,?_⟩;rw[Vbo];show(w.drew.alloc _).cell? ⟨w.drew.heap.size,i,none⟩=_;rw[World.cell?_alloc_mark,bytesRow_at _ _ i hi];simp[bv,bs]
theorem Zfn {w:World} {base e n:Nat} {v:Value} {xs:List Value} (h:w.ownsRow base e 1 v n xs):∃A cap,v=.slice A n cap/\At w A xs/\n<=cap/\cap<=maxLen:=by
 have h2:=h;obtain⟨A,cap,hv,an⟩:=Zm h;refine⟨A,cap,hv,an,?_⟩;rcases h2.2 with ⟨h3,h4⟩|⟨g,bw,cur,h3,_,_,h5,h6,_⟩
 ·rw[hv] at h3;injection h3 with h3 h5 h6;subst h6;subst h4;exact⟨UZz,Var _⟩
 ·rw[hv] at h3;injection h3 with h3 h7 h8;subst h8;exact⟨h5,h6⟩
def ScC (w:World) (s:ByteArray) (k:Nat) (b:Bool) (v:Value) (F:Int) (W:World):Prop:=
 W.cell? ⟨w.heap.size+1+1,0,none⟩=some (.bool b)/\W.cell? ⟨w.heap.size+1+1,1,none⟩=some v/\W.cell? ⟨w.heap.size+1+1,2,none⟩=some (.int .i64 F)/\W.cell? ⟨w.heap.size+1+1+1,0,none⟩=some (.int .i64 (k:Int))/\W.cell? ⟨w.heap.size,0,none⟩=some (.string s)
theorem YE {W W':World} {p:Addr} {v:Value} (h:W.cell? p=some v) (hb:Below W.heap.size W W'):W'.cell? p=some v:=(hb.cell (World.block_lt_of_cell? W p h)).trans h
theorem ScC.below {w:World} {s:ByteArray} {k:Nat} {b:Bool} {v:Value} {F:Int} {W W':World} (h:ScC w s k b v F W) (hb:Below W.heap.size W W'):ScC w s k b v F W':=
 ⟨YE h.1 hb,YE h.2.1 hb,YE h.2.2.1 hb,YE h.2.2.2.1 hb,YE h.2.2.2.2 hb⟩
theorem Z0h {W:World} {g i:Nat} {p:Addr} {v u:Value} (h:W.cell? p=some v) (hn:g≠p.block):(W.setCell ⟨g,i,none⟩ u).cell? p=some v:=by
 have hf:=((Fr.refl (only g) W).setCell (p:=⟨g,i,none⟩) (.inl rfl) u).cell (p:=p) (World.block_lt_of_cell? W p h) (λe=>hn e.symm);exact hf.trans h
theorem ScC.put3 {w:World} {s:ByteArray} {k:Nat} {b:Bool} {v:Value} {F:Int} {W:World} (h:ScC w s k b v F W) (x y z:Value):ScC w s k b v F (((W.setCell ⟨w.heap.size+1,0,none⟩ x).setCell ⟨w.heap.size+1,1,none⟩ y).setCell ⟨w.heap.size+1,2,none⟩ z):=by
 have go:∀ {W:World} (i:Nat) (u:Value),ScC w s k b v F W->ScC w s k b v F (W.setCell ⟨w.heap.size+1,i,none⟩ u):=λi u h=>
  ⟨Z0h h.1 (by simp),Z0h h.2.1 (by simp),Z0h h.2.2.1 (by simp),Z0h h.2.2.2.1 (by simp<;>omega),Z0h h.2.2.2.2 (by simp)⟩
 exact go 2 z (go 1 y (go 0 x h))
theorem Zc5 (s : ByteArray) (w : World) :
    Calls Tryz.prog 151 #[.string s] w λx w'=>Zc3 w w' ((scn cl1 (toL s)).map Xa) x:=by
  by_cases hs:s.size<=64
  · obtain⟨R,hR⟩:∃R,(scn cl1 (toL s)).map Xa=R:=⟨_,rfl⟩
    rw[hR];have Lw:(toL s).length<=64:=(by rw[Z1];exact hs);have Lx:(toL s).length=s.size:=Z1 s;rw[Zko cl1 Lw] at hR;have hk:=Zh1 (L:=toL s) (k:=0) (Var _);obtain⟨b,hb⟩:∃b,hitB [45] (toL s) 0=b:=⟨_,rfl⟩;obtain⟨k1,bk⟩:∃k1,sgK (toL s) 0=k1:=⟨_,rfl⟩;have rn:sgK (toL s) 0=if hitB [45] (toL s) 0 then 0+1 else hitK [43] (toL s) 0:=rfl
    rw[hb,bk] at hR rn;rw[bk,Lx] at hk;have zQ:k1<=s.size:=hk.2;have Hb:=h_ hb;have sr:=h_ rn;have HR:=h_ hR;have aS:=h_ (Zfl w s);have Hz:0<=s.size:=Var _;clear hb bk rn hR hk Lw Lx;go_enter Tryz.func151,Tryz.ntmps151;go_upto_if 22 with (go_at_call 194;refine((ScSt.one aS.o [45] Hz hs (by simp)).mono ?_);rintro x w1 ⟨rfl,h1⟩)
    rw[Hb.o];go_cut [] (λwx=>ScSt w wx s k1 b (.slice none 0 0) [] 0)
    case first=>
      cases b
      · have e0:hitK [45] (toL s) 0=0:=Z3Y Hb.o
        rw[e0] at h1;have e1:k1=hitK [43] (toL s) 0:=sr.o;have H1:=h_ h1;clear h1;go_wp2_with (go_at_call 194;refine((ScSt.one H1.o [43] Hz hs (by simp)).mono ?_);rintro x w2 ⟨rfl,h2⟩);rw[<-e1] at h2;have H2:=h_ h2;clear h2;go_meet;case rel=>exact H2.o
      · have e0:hitK [45] (toL s) 0=0+1:=Z1n Hb.o
        have e1:k1=0+1:=sr.o;rw[e0,<-e1] at h1;have n0:=h1.bn.cell 0;have n1:=h1.bn.frozen 0;have h3:=h1.neg true;simp at n0;have H3:=h_ h3;clear h1 h3;go_wp2;go_meet;case rel=>exact H3.o
    case rest=>
      have H1:=h_ hcut;clear hcut h1 sr;obtain⟨D,hD⟩:∃D,dfr ((toL s).drop k1)=D:=⟨_,rfl⟩;obtain⟨k2,cK⟩:∃k2,k1+D.length=k2:=⟨_,rfl⟩;have ji:=Z6j (toL s) (k:=k1) (by rw[Z1];exact zQ);rw[hD,Z1,cK] at ji;have zR:k2<=s.size:=ji;have tO:D.length<=64:=(by omega);have hR:=HR.o;rw[hD,cK] at hR
      have gQ:Hid (∀(wx:World) (b':Bool) (v:Value) (E:List UInt8) (e:Int),ScSt w wx s k1 b' v E e->Calls Tryz.prog 195 #[.pointer (some ⟨w.heap.size+1+1+1,0,none⟩),.pointer (some ⟨w.heap.size,0,none⟩)] wx λx w'=>x=.returned (.string (bs D))/\ScSt w w' s k2 b' v E e):=h_ (λwx b' v E e h=>by
        have:=h.dig zQ hs;rw[hD,cK] at this;exact this)
      clear hD cK ji HR;go_upto_if 29 with (go_at_call 195;refine((gQ.o _ _ _ _ _ H1.o).mono ?_);rintro x w2 ⟨rfl,h2⟩)
      clear gQ H1 aS;by_cases nE:D=[]
      · rw[Vaf nE] at hR
        have kZ:Hid ((none:Option Num)=R):=h_ hR;have cB:(bs D).toList.isEmpty=true:=ZhR (by rw[Z0,nE];rfl);obtain⟨WF,gB,u0,u1,u2,dD⟩:=Zc4 h2;have n0:=h2.bn.cell 0;have n1:=h2.bn.cell 1;have n2:=h2.bn.cell 2;have r0:=h2.br.cell 0;have r1:=h2.br.cell 1;have r2:=h2.br.cell 2;have g0:=h2.br.frozen 0;have g1:=h2.br.frozen 1;have g2:=h2.br.frozen 2;simp at n0 n1 n2 r0 r1 r2;have jR:=h_ gB;have fS:=h_ dD;rw[cB];clear hR nE gB dD cB h2;go_wp2;rw[jR.o];refine bodyPost_ret (by simp[results,Tryz.results151,go_sem,u0,u1,u2];try rfl) rfl ?_;rw[<-kZ.o];exact⟨_,_,rfl,fS.o,⟨_,_,_,_,_,rfl⟩,rfl⟩
      · rw[Vad nE] at hR
        have HR:=h_ hR;have cB:(bs D).toList.isEmpty=false:=ZhS (by rw[Z0];exact List.length_pos_iff.2 nE);obtain⟨v3,w3,eV,eN,h3⟩:=Zh3 h2 D (by simp;omega);obtain⟨A3,M3,c3,rfl⟩:=Zg h3.own;rw[Vbz] at h3;have n1:=h2.bn.cell 1;have m1:=eN.cell 1;have f1:=eN.frozen 1;simp at n1 m1;have H3:=h_ h3;have lS:=h_ eV;rw[cB];clear hR nE h2 h3 eV eN cB;generalize bs D=SD at*
        go_upto_if 37 with (first
          |(at_builtin;refine Z1U (by with_reducible rfl) rfl _ _ _ _ rfl _ _ (by rfl) (by rfl) lS.o ?_)
          |(go_at_call 194;refine((ScSt.one H3.o [46] zR hs (by simp)).mono ?_);rintro x w4 ⟨rfl,h4⟩))
        clear n1 m1 f1 lS H3;go_cut [] (λwx=>∃v P k3,k3<=s.size/\P.length<=64/\Hid (frac ((toL s).drop k2)=some (P,(toL s).drop k3))/\ScSt w wx s k3 b v (D++P) (-(P.length:Int)))
        case first=>
          have pK:=Z91 (toL s) k2;by_cases ld:hitB [46] (toL s) k2=true
          · rw[Vaf ld] at pK
            rw[Z1n ld] at h4;have vx:k2+1<=s.size:=(by have:=Zh2 ld;rw[Z1] at this;exact this);obtain⟨P,hP⟩:∃P,dfr ((toL s).drop (k2+1))=P:=⟨_,rfl⟩;obtain⟨k3,eN⟩:∃k3,k2+1+P.length=k3:=⟨_,rfl⟩;have ji:=Z6j (toL s) (k:=k2+1) (by rw[Z1];exact vx);rw[hP,Z1,eN] at ji;have Gn:P.length<=64:=(by omega);rw[hP,eN] at pK
            have gQ:Hid (∀(wx:World) (b':Bool) (v:Value) (E:List UInt8) (e:Int),ScSt w wx s (k2+1) b' v E e->Calls Tryz.prog 195 #[.pointer (some ⟨w.heap.size+1+1+1,0,none⟩),.pointer (some ⟨w.heap.size,0,none⟩)] wx λx w'=>x=.returned (.string (bs P))/\ScSt w w' s k3 b' v E e):=h_ (λwx b' v E e h=>by
              have:=h.dig vx hs;rw[hP,eN] at this;exact this)
            have H4:=h_ h4;rw[ld];clear hP eN h4 ld;by_cases nF:P=[]
            · rw[Vaf nF] at pK
              have hR:=HR.o;rw[pK] at hR;have kZ:Hid ((none:Option Num)=R):=h_ hR;have cB:(bs P).toList.isEmpty=true:=ZhR (by rw[Z0,nF];rfl);clear hR pK nF HR;go_upto_region 17 with (go_at_call 195;refine((gQ.o _ _ _ _ _ H4.o).mono ?_);rintro x w5 ⟨rfl,h5⟩)
              obtain⟨WF,gB,u0,u1,u2,dD⟩:=Zc4 h5;have n0:=h5.bn.cell 0;have n1:=h5.bn.cell 1;have n2:=h5.bn.cell 2;have r0:=h5.br.cell 0;have r1:=h5.br.cell 1;have r2:=h5.br.cell 2;have g0:=h5.br.frozen 0;have g1:=h5.br.frozen 1;have g2:=h5.br.frozen 2;simp at n0 n1 n2 r0 r1 r2;have jR:=h_ gB;have fS:=h_ dD;clear gB dD h5 gQ H4;go_wp2;rw[jR.o];refine bodyPost_ret (by simp[results,Tryz.results151,go_sem,u0,u1,u2];try rfl) rfl ?_;rw[<-kZ.o];exact⟨_,_,rfl,fS.o,⟨_,_,_,_,_,rfl⟩,rfl⟩
            · rw[Vad nF] at pK
              have Gp:=h_ pK;have cB:(bs P).toList.isEmpty=false:=ZhS (by rw[Z0];exact List.length_pos_iff.2 nF);clear pK nF;go_upto_region 18 with (go_at_call 195;refine((gQ.o _ _ _ _ _ H4.o).mono ?_);rintro x w5 ⟨rfl,h5⟩)
              obtain⟨v6,w6,zS,zT,h6⟩:=Zh3 h5 P (by omega);obtain⟨A6,M6,c6,rfl⟩:=Zg h6.own;have n1:=h5.bn.cell 1;have m1:=zT.cell 1;have f1:=zT.frozen 1;have p2:=h6.bn.cell 2;have q2:=h6.bn.frozen 2;simp at n1 m1 p2;have h7:=h6.exp (-((bs P).size:Int));have H7:=h_ h7;have Gq:=h_ zS;have Vp:(bs P).size<=64:=Gn;clear h5 zS zT h6 h7 gQ H4;go_wp2_with (at_builtin;refine Z1U (by with_reducible rfl) rfl _ _ _ _ rfl _ _ (by rfl) (by rfl) Gq.o ?_);go_meet;case rel=>exact⟨_,P,k3,ji,Gn,Gp,H7.o⟩
          · rw[Vad ld] at pK
            have yf:hitB [46] (toL s) k2=false:=(by simpa using ld);rw[Z3Y yf] at h4;have Gp:=h_ pK;have H4:=h_ h4;rw[yf];clear pK ld yf h4;go_wp2;go_meet;case rel=>exact⟨_,[],k2,zR,by simp,Gp,by simpa using H4.o⟩
        case rest=>
          obtain⟨v5,P,k3,zU,Gn,dB,aT⟩:=hcut;obtain⟨A5,M5,c5,rfl⟩:=Zg aT.own;have hR:=HR.o;rw[dB.o] at hR;simp only at hR;have dh:=h_ hR;have H5:=h_ aT;clear hR HR aT dB h4;go_upto_if 53 with (go_at_call 194;refine((ScSt.one H5.o [101,69] zU hs (by simp)).mono ?_);rintro x w6 ⟨rfl,h6⟩)
          go_cut [] (λwx=>∃E k4,k4<=s.size/\Hid (expo cl1 ((toL s).drop k3)=some (E,(toL s).drop k4))/\ScSt w wx s k4 b (.slice A5 M5 c5) (D++P) (E-(P.length:Int)))
          case first=>
            have gi:=Z2W cl1 (toL s) k3;by_cases hE:hitB [101,69] (toL s) k3=true
            · rw[Vaf hE] at gi
              rw[Z1n hE] at h6;have vy:k3+1<=s.size:=(by have:=Zh2 hE;rw[Z1] at this;exact this);have vz:=(Zh1 (L:=toL s) (k:=k3+1) (by rw[Z1];exact vy)).2;have rn:sgK (toL s) (k3+1)=if hitB [45] (toL s) (k3+1) then k3+1+1 else hitK [43] (toL s) (k3+1):=rfl
              obtain⟨bn,cU⟩:∃bn,hitB [45] (toL s) (k3+1)=bn:=⟨_,rfl⟩;obtain⟨k5,Gr⟩:∃k5,sgK (toL s) (k3+1)=k5:=⟨_,rfl⟩;rw[cU,Gr] at gi rn;rw[Gr,Z1] at vz;obtain⟨D3,zV⟩:∃D3,dfr ((toL s).drop k5)=D3:=⟨_,rfl⟩;obtain⟨k7,DM⟩:∃k7,k5+D3.length=k7:=⟨_,rfl⟩;have ji:=Z6j (toL s) (k:=k5) (by rw[Z1];exact vz);rw[zV,Z1,DM] at ji;have Ro:D3.length<=64:=(by omega);rw[zV,DM] at gi;have dm:Hid (AllD D3):=h_ (zV▸Z3E _)
              have gQ:Hid (∀(wx:World) (b':Bool) (v:Value) (E:List UInt8) (e:Int),ScSt w wx s k5 b' v E e->Calls Tryz.prog 195 #[.pointer (some ⟨w.heap.size+1+1+1,0,none⟩),.pointer (some ⟨w.heap.size,0,none⟩)] wx λx w'=>x=.returned (.string (bs D3))/\ScSt w w' s k7 b' v E e):=h_ (λwx b' v E e h=>by
                have:=h.dig vz hs;rw[zV,DM] at this;exact this)
              have vA:=h_ cU;have sr:=h_ rn;have H6:=h_ h6;have yg:=h_ gi;rw[hE];clear gi hE h6 cU Gr rn zV DM;go_upto_if 57 with (go_at_call 194;refine((ScSt.one H6.o [45] vy hs (by simp)).mono ?_);rintro x w7 ⟨rfl,h7⟩)
              rw[vA.o];go_cut [10] (λlh wx=>lh=.bool bn/\ScSt w wx s k5 b (.slice A5 M5 c5) (D++P) (-(P.length:Int)))
              case first=>
                cases bn
                · have e0:hitK [45] (toL s) (k3+1)=k3+1:=Z3Y vA.o
                  rw[e0] at h7;have e1:k5=hitK [43] (toL s) (k3+1):=sr.o;have H7:=h_ h7;clear h7 e0;go_wp2_with (go_at_call 194;refine((ScSt.one H7.o [43] vy hs (by simp)).mono ?_);rintro x w8 ⟨rfl,h8⟩);rw[<-e1] at h8;have H8:=h_ h8;clear h8;go_meet;case rel=>exact⟨rfl,H8.o⟩
                · have e0:hitK [45] (toL s) (k3+1)=k3+1+1:=Z1n vA.o
                  have e1:k5=k3+1+1:=sr.o;rw[e0,<-e1] at h7;have H7:=h_ h7;clear h7 e0;go_wp2;go_meet;case rel=>exact⟨rfl,H7.o⟩
              case rest=>
                obtain⟨rfl,aT⟩:=hcut;have H8:=h_ aT;clear aT h7 H6 H5 sr vA;by_cases nE:D3=[]
                · have hR:=dh.o
                  have gi:=yg.o;rw[Vaf nE] at gi;rw[gi] at hR;have kZ:Hid ((none:Option Num)=R):=h_ hR;have cB:(bs D3).toList.isEmpty=true:=ZhR (by rw[Z0,nE];rfl);clear hR gi dh yg nE dm;go_upto_region 26 with (go_at_call 195;refine((gQ.o _ _ _ _ _ H8.o).mono ?_);rintro x w9 ⟨rfl,h9⟩)
                  obtain⟨WF,gB,u0,u1,u2,dD⟩:=Zc4 h9;have n0:=h9.bn.cell 0;have n1:=h9.bn.cell 1;have n2:=h9.bn.cell 2;have r0:=h9.br.cell 0;have r1:=h9.br.cell 1;have r2:=h9.br.cell 2;have g0:=h9.br.frozen 0;have g1:=h9.br.frozen 1;have g2:=h9.br.frozen 2;simp at n0 n1 n2 r0 r1 r2;have jR:=h_ gB;have fS:=h_ dD;clear gB dD h9 gQ H8;go_wp2;rw[jR.o];refine bodyPost_ret (by simp[results,Tryz.results151,go_sem,u0,u1,u2];try rfl) rfl ?_;rw[<-kZ.o];exact⟨_,_,rfl,fS.o,⟨_,_,_,_,_,rfl⟩,rfl⟩
                · have gi:=yg.o
                  rw[Vad nE] at gi;have zW:=h_ gi;have cB:(bs D3).toList.isEmpty=false:=ZhS (by rw[Z0];exact List.length_pos_iff.2 nE);clear gi yg dh nE;go_upto_region 28 with (go_at_call 195;refine((gQ.o _ _ _ _ _ H8.o).mono ?_);rintro x w9 ⟨rfl,h9⟩)
                  obtain⟨cp,W8,eH,an,dx⟩:=Z3T D3 w9;have oY:=h9.keep dx;obtain⟨N3,Gs⟩:∃N,D3.length=N:=⟨_,rfl⟩;have zX:(bs D3).size=N3:=Gs
                  have hcell:∀i (h:i<N3),∃X:Nat,W8.cell? ⟨w9.heap.size,i,none⟩=some (.int .u8 (X:Int))/\48<=X/\X<=57/\cl1 (D3.take (i+1))=min 1048576 (10*cl1 (D3.take i)+(X-48)):=by
                    intro i hi;obtain⟨b',o',hA,eR,hc⟩:=an i (by rw[Vag];omega);injection hA with hA;injection hA with ll dR;subst ll;subst dR;rw[Vbo,Vcf] at hc;obtain⟨q1,q2,q3⟩:=Zkp (dm.o D3[i] (Vaj _));exact⟨_,hc,q1,q2,by rw[Zfm D3 i (by omega),q3]⟩
                  have n2:=oY.bn.cell 2;have f2:=oY.bn.frozen 2;simp at n2;have pL:=h_ hcell;have Rp:=h_ oY;have HN:=h_ Gs;rw[zX] at eH;clear an dx h9 oY hcell gQ H8 Gs zX dm;have Rq:N3<=64:=(by have:=HN.o;omega);go_upto_region 29 with fail;go_loopw [12,68] (λmi Gt wr=>∃i:Nat,i<=N3/\mi=.int .i64 ((cl1 (D3.take i):Nat):Int)/\Gt=.int .i64 (i:Int)/\wr=W8) (λ_ Gt _=>(N3-intOf Gt).toNat);case atStart=>exact⟨0,Var _,rfl,rfl,rfl⟩
                  case round=>
                    obtain⟨i,hi,rfl,rfl,rfl⟩:=hrel;obtain⟨c,hc⟩:∃c,cl1 (D3.take i)=c:=⟨_,rfl⟩;have ir:=Zh4 (D3.take i);rw[hc] at ir;by_cases ab:i<N3
                    · obtain⟨X,hX,q1,q2,q3⟩:=pL.o i ab
                      rw[hc] at q3;have Q3:=h_ q3;rw[hc];clear q3 hc n2 f2 pL;go_wp2;refine⟨⟨i+1,ab,?_,by go_num,by first|trivial|rfl⟩,?_⟩
                      · rw[Q3.out]
                        first
                          |(congr 1;omega)
                          |rfl
                      · simp[intOf]<;>omega
                    · have mw:i=N3:=by omega
                      have ax:D3.take i=D3:=Vai (by have:=HN.o;omega);rw[ax] at hc;have gi:=zW.o;rw[hc] at gi;have zY:=h_ gi;have hex:Hid (∀e',ScSt w (wr.setCell ⟨w.heap.size+1+1,2,none⟩ (.int .i64 e')) s k7 b (.slice A5 M5 c5) (D++P) e'):=h_ (λe'=>Rp.o.exp e');rw[ax,hc];subst mw;clear ax hc gi zW pL HN;cases bn
                      · go_wp2
                        go_meet
                        case rel=>exact⟨_,k7,ji,zY,by
                          have:=hex.o (-(P.length:Int)+(c:Int));rw[show sg false*(c:Int)-(P.length:Int)= -(P.length:Int)+(c:Int) by unfold sg;simp;omega];exact this⟩
                      · go_wp2
                        go_meet
                        case rel=>exact⟨_,k7,ji,zY,by
                          have:=hex.o (-(P.length:Int)+ -(c:Int));rw[show sg true*(c:Int)-(P.length:Int)= -(P.length:Int)+ -(c:Int) by unfold sg;simp;omega];exact this⟩
            · rw[Vad hE] at gi
              have Gu:hitB [101,69] (toL s) k3=false:=(by simpa using hE);rw[Z3Y Gu] at h6;have yg:=h_ gi;have H6:=h_ h6;rw[Gu];clear gi hE Gu h6 H5;go_wp2;go_meet;case rel=>exact⟨0,k3,zU,yg,by simpa using H6.o⟩
          case rest=>
            obtain⟨E,k4,vx,gi,aT⟩:=hcut;obtain⟨nr,zj⟩:=Zio gi.o;have hR:=dh.o;rw[gi.o] at hR;simp only at hR;obtain⟨N,hN⟩:∃N:Num,N=⟨b,D++P,E-(P.length:Int)⟩:=⟨_,rfl⟩;obtain⟨ad,zZ⟩:Sz N/\Sz (Xa N):=Zin (by rw[hN];simp only;omega) (by rw[hN];simp only;omega) (by rw[hN];simp only[Vab];omega);obtain⟨A,cap,hv,an,cq,dN⟩:=Zfn aT.own;injection hv with bq bm eu;subst bq;subst bm;subst eu;have Aa:NV wc (.agg #[.bool b,.slice A5 (D++P).length c5,.int .i64 (E-(P.length:Int))]) N:=⟨A5,c5,by rw[hN],by rw[hN];exact an,by rw[hN];exact cq,dN⟩;have Gv:Hid (∀W,Below wc.heap.size wc W->Calls Tryz.prog 196 #[.agg #[.bool b,.slice A5 (D++P).length c5,.int .i64 (E-(P.length:Int))]] W λx w'=>∃v',x=.returned v'/\NV w' v' (Xa N)/\Below W.heap.size W w'):=h_ (λW h=>Zc0 (Aa.below h) ad)
            have gb:(toL s).drop k4=[]↔k4=s.size:=by
              rw[List.drop_eq_nil_iff,Z1];omega
            have bU:Hid (∀(v':Value) (W:World),Below w.heap.size w W->NV W v' (Xa N)->Zc3 w W R (.returned (.tuple #[v',.bool (decide (k4=s.size))]))):=h_ (λv' W hW hn=>by
              refine⟨v',_,rfl,hW,?_,?_⟩
              · obtain⟨A',Gw,rfl,_⟩:=hn
                exact⟨_,_,_,_,_,rfl⟩
              · rw[<-hR]
                by_cases hz:k4=s.size
                · rw[Vaf (gb.2 hz),<-hN]
                  exact⟨by simpa using hz,hn,zZ⟩
                · rw[Vad (λh=>hz (gb.1 h))]
                  simpa using hz)
            have aS:=h_ aT;have n0:=aT.bn.cell 0;have n1:=aT.bn.cell 1;have n2:=aT.bn.cell 2;have a0:=aT.ba.cell 0;have s0:=aT.bs_.cell 0;obtain⟨F,hF⟩:∃F,E-(P.length:Int)=F:=⟨_,rfl⟩;obtain⟨M,hM⟩:∃M,(D++P).length=M:=⟨_,rfl⟩;rw[hF] at n2 Gv;rw[hM] at n1 Gv;simp at n0 n1 n2 a0 s0;clear hR aT an Aa zZ ad hN gi dh hF hM nr zj h6 H5 gb;have H1:ScC w s k4 b (.slice A5 M c5) F wc.drew:=⟨n0,n1,n2,a0,s0⟩;unfold ScC at H1;go_wp2
            go_region_held3 (λW=>W.cell? ⟨w.heap.size+1+1,0,none⟩=some (.bool b)/\W.cell? ⟨w.heap.size+1+1,1,none⟩=some (.slice A5 M c5)/\W.cell? ⟨w.heap.size+1+1,2,none⟩=some (.int .i64 F)/\W.cell? ⟨w.heap.size+1+1+1,0,none⟩=some (.int .i64 (k4:Int))/\W.cell? ⟨w.heap.size,0,none⟩=some (.string s)) (first|exact H1|assumption|exact ScC.below (by assumption) (by assumption)|exact ScC.put3 (by assumption) _ _ _)
              (first
                | (go_at_call 196; refine (Gv.o _ ((Vae _ _).drew)).mono ?_; rintro x w9 ⟨v', rfl, ⟨A', Gw, rfl, Ab, DI, Gh⟩, eR⟩
                   have lP:=aS.o.br.below (((Vae wc.heap.size wc).drew).trans eR) aS.o.br.lt;have r0:=lP.cell 0;have r1:=lP.cell 1;have r2:=lP.cell 2;have g0:=lP.frozen 0;have g1:=lP.frozen 1;have g2:=lP.frozen 2;simp at r0 r1 r2;have Rr:=h_ lP;have Gx:=h_ Ab;clear lP Ab))
            obtain⟨WF,gB,u0,u1,u2,gP,dD⟩:=Qv Rr.o (aS.o.bel.trans (((Vae wc.heap.size wc).drew.trans eR).mono aS.o.bel.size)) (by omega) Gx.o (Xa N).neg (.slice A' (Xa N).dg.length Gw) (Xa N).ex;have jR:=h_ gB;have pH:=h_ gP;have fS:=h_ dD
            have hq:((k4:Int)==(s.size:Int))=decide (k4=s.size):=by
              rw[Vbl,beq_iff_eq,Vaq];omega
            have Hq:=h_ hq;have Rs:=h_ DI;have Rt:=h_ Gh;clear gB gP dD hq DI Gh H1 n0 n1 n2 a0 s0 r0 r1 r2 g0 g1 g2 eR;go_wp2;rw[jR.o];refine bodyPost_ret (by simp[results,Tryz.results151,go_sem,u0,u1,u2];try rfl) rfl ?_;rw[Hq.o];exact bU.o _ WF fS.o ⟨A',Gw,rfl,pH.o,Rs.o,Rt.o⟩
  · have hn : scn cl1 (toL s) = none := by
      unfold scn;rw[Vaf (by rw[Z1];omega)]
    have Hn:=h_ hn;have cZ:(64:Int)<(s.size:Int):=(by omega);have aA:=h_ ((Z4L w (.cells #[.string s] 9) (.cells #[.bool false,.slice none 0 0,.int .i64 0] 197)).alloc (by simp<;>omega) (.cells #[.bool false,.slice none 0 0,.int .i64 0] 197));clear hn;go_enter Tryz.func151,Tryz.ntmps151;go_wp2;go_returns;rw[Hn.o];exact⟨_,_,rfl,aA.o,⟨_,_,_,_,_,rfl⟩,rfl⟩
end Go.Proofs.YtchokmkfobandaaGreatDoor
