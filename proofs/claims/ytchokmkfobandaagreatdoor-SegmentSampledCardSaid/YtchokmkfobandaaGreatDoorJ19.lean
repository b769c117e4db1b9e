import Derived.Test.YtchokmkfobandaaGreatDoorJ11
import Derived.Lib.AppendStr
import Derived.Lib.MinMax
set_option linter.unusedVariables false
set_option linter.unusedSimpArgs false
set_option maxRecDepth 100000
set_option maxHeartbeats 8000000
namespace Go.Proofs.YtchokmkfobandaaGreatDoor
open Go.RowKit Go.Proofs Wv Wv.Dc
def DR (w:World) (v:Value) (d:List UInt8):Prop:=∃A cap,v=.slice A d.length cap/\At w A (d.map bv)/\d.length<=cap/\cap<=maxLen
theorem DR.nil (w:World):DR w (.slice none 0 0) []:=⟨none,0,rfl,At.nil _ _,UZz,Vat _⟩
theorem Z2O (c:UInt8) (t:List UInt8):YP (c::t)=if c=48 then YP t else c::t:=by
 unfold YP;rw[List.dropWhile_cons];by_cases h:c=48
 ·subst h;rfl
 ·rw[Vad h,Vad (by simpa using h)]
theorem Zib {w:World} {A:Option Addr} {d:List UInt8} (h:At w A (d.map bv)) (n cap:Nat) (hn:n=d.length) (hc:n<=cap) (hm:cap<=maxLen):
  Calls Tryz.prog 264 #[.slice A n cap,.int .u8 48] w λx w'=>∃v,x=.returned v/\DR w' v (YP d)/\Below w.heap.size w w':=by
 have bD:=h_ h;have eG:cap<=9223372036854775807:=(by unfold maxLen at hm;omega);have Hn:=h_ hn;have Hm:=h_ hm;clear h hn hm;go_enter Tryz.func264,Tryz.ntmps264;go_wp2;go_loopw [0] (λv wr=>∃(k m bp:Nat) (A':Option Addr),k<=d.length/\m=d.length-k/\v=.slice A' m bp/\At wr A' ((d.drop k).map bv)/\m<=bp/\bp<=9223372036854775807/\Hid (bp<=maxLen)/\Hid (YP (d.drop k)=YP d)/\Below w.heap.size w wr) (λv _=>match v with|.slice _ m _=>m|_=>0);case atStart=>exact⟨0,n,cap,A,by omega,by rw[<-Hn.o,Nat.sub_zero],rfl,bD.o,hc,eG,Hm,h_ rfl,Vae _ _⟩
 case round=>
  obtain⟨k,m,bp,A',hk,bG,rfl,ak,DH,Gh,zl,pB,hf⟩:=hrel;by_cases h0:0<m
  ·have ab:k<d.length:=(by omega);have hd:d.drop k=d[k]::d.drop (k+1):=Va4 ab;obtain⟨c,jA⟩:∃c,d[k]=c:=⟨_,rfl⟩;rw[jA] at hd;have nv:=ak;rw[hd] at ak;obtain⟨b,o,hA,hb,hcell⟩:=ak.get 0 (bv c) rfl;subst hA;have pb:wr.cell? ⟨b,o,none⟩=some (.int .u8 (c.toNat:Int)):=hcell;have tI:=Z7q ak 1;have Gi:=Z2O c (d.drop (k+1));have jo:=pB.o;rw[hd] at jo;rw[Gi] at jo;by_cases mQ:c=48
   ·rw[Vaf mQ] at jo;subst mQ;have tP:=h_ jo;have yT:=h_ tI;have Hf:=h_ hf;clear jo tI hf ak nv hd jA Gi pB hcell;have si:=h_ bG;have Lw:=h_ (show m-1=d.length-(k+1) by omega);clear bG;by_cases cq:bp=1
    ·have VK:m=1:=(by omega);go_wp2;refine⟨⟨k+1,0,0,some ⟨b,o,none⟩,by omega,by have:=Lw.o;omega,rfl,?_,UZz,by omega,h_ (Vat _),tP,Hf.o⟩,by show 0<m;omega⟩;have:d.drop (k+1)=[]:=Vbf (by have:=si.o;omega);rw[this];exact At.nil _ _
    ·go_wp2;refine⟨⟨k+1,m-1,bp-1,some ⟨b,o+1,none⟩,by omega,Lw.o,by first|rw[Vad cq]|rfl,?_,by omega,by omega,h_ (by have:=zl.o;omega),tP,Hf.o⟩,by first|(rw[Vad cq];show m-1<m;omega)|(show m-1<m;omega)⟩;have:=yT.o;rw[Vcj,List.drop_one,List.tail_cons] at this;exact this
   ·rw[Vad mQ] at jo
    have az:((c.toNat:Int)==48)=false:=by
     rw[Vam];intro e;exact mQ (UInt8.toNat_inj.1 (by rw[show(48:UInt8).toNat=48 from rfl];omega))
    have tP:=h_ jo;have Gj:=h_ nv;have Hd:=h_ hd;have si:=h_ bG;have eV:((m:Int)==0)=false:=(by rw[Vam];omega);clear jo ak nv hd jA Gi pB hcell tI mQ bG;go_wp2;go_returns;rw[<-tP.o,<-Hd.o];exact⟨.slice (some ⟨b,o,none⟩) m bp,rfl,⟨_,bp,by rw[Va2,<-si.o],Gj.o,by rw[Va2,<-si.o];exact DH,zl.o⟩,hf⟩
  ·have eV:m=0:=(by omega);have xQ:d.drop k=[]:=Vbf (by omega);have jo:=pB.o;rw[xQ] at jo;have ht:YP ([]:List UInt8)=[]:=rfl;rw[ht] at jo;have tP:=h_ jo;clear pB xQ jo ht ak bG;subst eV;go_wp2;go_returns;rw[<-tP.o];exact⟨_,rfl,DR.nil _,hf⟩
theorem Z51 {w:World} {A:Option Addr} {d:List UInt8} (h:At w A (d.map bv)) (n cap:Nat) (hn:n=d.length) (hc:n<=cap) (hm:cap<=maxLen):
  Calls Tryz.prog 240 #[.slice A n cap,.string ⟨#[48]⟩] w λx w'=>∃v,x=.returned v/\DR w' v (YP d)/\Below w.heap.size w w':=by
 have H:=h_ (Zib h n cap hn hc hm);by_cases h0:n=0
 ·subst h0;have hd:d=[]:=Vaj hn.symm;subst hd;clear h hn H hm;go_enter Tryz.func240,Tryz.ntmps240;go_wp2;go_returns;exact⟨_,rfl,DR.nil _,Vae _ _⟩
 ·have o8:((n:Int)==0)=false:=(by rw[Vam];omega);have dS:((⟨#[48]⟩:ByteArray)[0]'Nat.zero_lt_one)=48:=rfl;clear h hn hm h0 hc;go_enter Tryz.func240,Tryz.ntmps240;go_wp2_with (go_at_call 264;refine(H.o).mono ?_;rintro x w1 ⟨v,rfl,hd,hb⟩);go_returns;exact⟨_,rfl,hd,hb⟩
theorem Z90 (d:List UInt8) (c:UInt8):Yh (d++[c])=if c=48 then Yh d else d++[c]:=by
 unfold Yh;rw[Vc3,List.reverse_singleton,Vc9,Z2O];split
 ·rfl
 ·rw[List.reverse_cons,List.reverse_reverse]
theorem Zic {w:World} {A:Option Addr} {d:List UInt8} (h:At w A (d.map bv)) (n cap:Nat) (hn:n=d.length) (hc:n<=cap) (hm:cap<=maxLen):
  Calls Tryz.prog 268 #[.slice A n cap,.int .u8 48] w λx w'=>x=.returned (.slice A (Yh d).length cap)/\Below w.heap.size w w':=by
 have bD:=h_ h;have eG:cap<=9223372036854775807:=(by unfold maxLen at hm;omega);have Hn:=h_ hn;clear h hn hm;go_enter Tryz.func268,Tryz.ntmps268;go_wp2;go_loopw [0] (λv wr=>∃k:Nat,k<=n/\v=.slice A k cap/\Hid (Yh (d.take k)=Yh d)/\Below w.heap.size w wr) (λv _=>match v with|.slice _ m _=>m|_=>0);case atStart=>exact⟨n,UZz,rfl,h_ (by rw[Hn.o,Vbx]),Vae _ _⟩
 case round=>
  obtain⟨k,hk,rfl,pB,hf⟩:=hrel;by_cases h0:0<k
  ·obtain⟨j,rfl⟩:∃j,k=j+1:=⟨k-1,by omega⟩;have hj:j<d.length:=(by rw[<-Hn.o];omega);have hd:d.take (j+1)=d.take j++[d[j]]:=Vac hj;obtain⟨c,jA⟩:∃c,d[j]=c:=⟨_,rfl⟩;rw[jA] at hd;have jo:=pB.o;rw[hd,Z90] at jo;obtain⟨b,o,hA,hb,hcell⟩:=(bD.o.below hf).get j (bv c) (by rw[Vbb,Van hj,jA];rfl);have pb:wr.cell? ⟨b,o+j,none⟩=some (.int .u8 (c.toNat:Int)):=hcell;subst hA;by_cases mQ:c=48
   ·rw[Vaf mQ] at jo;subst mQ;have tP:=h_ jo;clear jo hd jA pB hcell hj;go_wp2;refine⟨⟨j,by omega,rfl,tP,hf⟩,by show j<j+1;omega⟩
   ·rw[Vad mQ] at jo
    have az:((c.toNat:Int)==48)=false:=by
     rw[Vam];intro e;exact mQ (UInt8.toNat_inj.1 (by rw[show(48:UInt8).toNat=48 from rfl];omega))
    have hlen:(Yh d).length=j+1:=by
     rw[<-jo,Vab,Vau];simp;omega
    have av:=h_ hlen;clear jo hd jA pB hcell hj mQ hlen;go_wp2;go_returns;exact⟨by rw[av.o]<;>rfl,hf⟩
  ·have cj:k=0:=(by omega);subst cj;have hlen:(Yh d).length=0:=(by rw[<-pB.o];rfl);have av:=h_ hlen;clear pB hlen;go_wp2;go_returns;exact⟨by rw[av.o]<;>rfl,hf⟩
theorem Z3Q {w:World} {A:Option Addr} {d:List UInt8} (h:At w A (d.map bv)) (n cap:Nat) (hn:n=d.length) (hc:n<=cap) (hm:cap<=maxLen):
  Calls Tryz.prog 241 #[.slice A n cap,.string ⟨#[48]⟩] w λx w'=>x=.returned (.slice A (Yh d).length cap)/\Below w.heap.size w w':=by
 have H:=h_ (Zic h n cap hn hc hm);by_cases h0:n=0
 ·subst h0;have hd:d=[]:=Vaj hn.symm;subst hd;have ht:(Yh ([]:List UInt8)).length=0:=rfl;rw[ht];clear h hn H hm ht;go_enter Tryz.func241,Tryz.ntmps241;go_wp2;go_returns;exact⟨rfl,Vae _ _⟩
 ·have o8:((n:Int)==0)=false:=(by rw[Vam];omega);have dS:((⟨#[48]⟩:ByteArray)[0]'Nat.zero_lt_one)=48:=rfl;clear h hn hm h0 hc;go_enter Tryz.func241,Tryz.ntmps241;go_wp2_with (go_at_call 268;refine(H.o).mono ?_;rintro x w1 ⟨rfl,hb⟩);go_returns;exact⟨rfl,hb⟩
theorem Qt {w0 w:World} {r:Nat} (hr:Bk w r 197 #[.bool false,.slice none 0 0,.int .i64 0]) (hb:Below w0.heap.size w0 w) (h0:w0.heap.size<=r) {L:List UInt8} {A:Option Addr} (ha:At w A (L.map bv)) (b:Bool) (v:Value) (e:Int):
  ∃W,(((w.setCell ⟨r,0,none⟩ (.bool b)).setCell ⟨r,1,none⟩ v).setCell ⟨r,2,none⟩ (.int .i64 e))=W/\W.cell? ⟨r,0,none⟩=some (.bool b)/\W.cell? ⟨r,1,none⟩=some v/\W.cell? ⟨r,2,none⟩=some (.int .i64 e)/\At W A (L.map bv)/\Below w0.heap.size w0 W:=by
 have hf:Fr (only r) w (((w.setCell ⟨r,0,none⟩ (.bool b)).setCell ⟨r,1,none⟩ v).setCell ⟨r,2,none⟩ (.int .i64 e)):=X3 (X3 (X3 (Fr.refl _ _) 0 _) 1 _) 2 _;have hk:=((hr.put 0 (.bool b)).put 1 v).put 2 (.int .i64 e)
 exact⟨_,rfl,hk.cell 0,hk.cell 1,hk.cell 2,ZhO ha hr (λx hx=>by
  obtain⟨q,_,rfl⟩:=Va6.1 hx;simp[bv]) hf,hb.trans (Z1F hf hb.size h0)⟩
theorem Zc0 {w:World} {v:Value} {n:Num} (h:NV w v n) (hs:Sz n):
  Calls Tryz.prog 196 #[v] w λx w'=>∃v',x=.returned v'/\NV w' v' (Xb n)/\Below w.heap.size w w':=by
 obtain⟨A,cap,rfl,ak,hc,hm⟩:=h;obtain⟨b,d,e⟩:=n;obtain⟨s1,s2,s3⟩:=hs;simp only at*;have fQ:=Bk.new (w.alloc (.cells #[.bool b,.slice A d.length cap,.int .i64 e] 197)) 197 #[.bool false,.slice none 0 0,.int .i64 0];rw[World.size_alloc] at fQ;have uQ:Bk ((w.alloc (.cells #[.bool b,.slice A d.length cap,.int .i64 e] 197)).alloc (.cells #[.bool false,.slice none 0 0,.int .i64 0] 197)) w.heap.size 197 #[.bool b,.slice A d.length cap,.int .i64 e]:=Bk.alloc (Bk.new _ _ _) _;have aB:=Z4G w (.cells #[.bool b,.slice A d.length cap,.int .i64 e] 197) (.cells #[.bool false,.slice none 0 0,.int .i64 0] 197);have nv:=(ak.alloc (.cells #[.bool b,.slice A d.length cap,.int .i64 e] 197)).alloc (.cells #[.bool false,.slice none 0 0,.int .i64 0] 197);have H1:=h_ (Z51 nv d.length cap rfl hc hm);have pC:=h_ uQ;have jX:=h_ fQ;have aL:=h_ aB;clear ak nv uQ fQ aB;go_enter Tryz.func196,Tryz.ntmps196;go_wp2_with fail;refine(H1.o).mono ?_;rintro x w1 ⟨v1,rfl,⟨A1,jq,rfl,cQ,cq,dC⟩,a7⟩;obtain⟨T,hT⟩:∃T,YP d=T:=⟨_,rfl⟩;have fK:T.length<=d.length:=(by rw[<-hT];exact Z1E d);have oU:Xb ⟨b,d,e⟩=if Yh T=[] then Z3v else⟨b,Yh T,e+((T.length-(Yh T).length:Nat):Int)⟩:=by unfold Xb;simp only[hT]
 rw[hT] at cQ cq;obtain⟨R,hR⟩:∃R,Yh T=R:=⟨_,rfl⟩;have dc:R.length<=T.length:=(by rw[<-hR];exact Z4A T)
 have vw:T.take R.length=R:=by
  obtain⟨k,hk⟩:=Z4z T;rw[hR] at hk;have:T.take R.length=(R++List.replicate k 48).take R.length:=(by rw[<-hk]);rw[this,Vcy]
 have iW:=Bk.below pC.o a7 (Bk.lt pC.o);have cF:=Bk.below jX.o a7 (Bk.lt jX.o);have iC:=aL.o.trans (a7.mono aL.o.size)
 have dw:∀v∈T.map bv,v∉(#[.bool b,.slice A d.length cap,.int .i64 e]:Array Value).toList:=λv hv=>by
  obtain⟨y,_,rfl⟩:=Va6.1 hv;simp[bv]
 have bL:=Zb1 cQ iW dw 1 (.slice A1 T.length jq);have cU:=iW.put 1 (.slice A1 T.length jq);have bP:=cF.off (p:=⟨w.heap.size,1,none⟩) (by simp) (.slice A1 T.length jq);have jr:=iC.setCell (p:=⟨w.heap.size,1,none⟩) UZz (.slice A1 T.length jq);have c1:=iW.cell 1;have f1:=iW.frozen 1;simp at c1;have h2:=Z3Q bL T.length jq rfl cq dC;rw[hR] at h2;rw[hT];have H2:=h_ h2;have rM:=h_ cU;have fG:=h_ bP;have kW:=h_ jr;have kU:=h_ bL;rw[hR] at oU;have DI:=h_ oU;have xZ:=h_ vw;clear iW cF iC dw bL cU bP jr a7 cQ H1 pC jX aL oU vw hT hR h2;go_wp2_with fail;refine(H2.o).mono ?_;rintro x w2 ⟨rfl,a8⟩;have oh:=Bk.below rM.o a8 (Bk.lt rM.o);have eU:=Bk.below fG.o a8 (Bk.lt fG.o);have bd:=kU.o.below a8;have fu:=kW.o.trans (a8.mono kW.o.size);clear c1 f1;have e1:((T.length-R.length:Nat):Int)=(T.length:Int)-(R.length:Int):=(by omega);obtain⟨E,hE⟩:∃E,e+((T.length:Int)-(R.length:Int))=E:=⟨_,rfl⟩
 have dw:∀(L:List UInt8) (x:Bool) (y:Value) (z:Int),y=.slice A1 T.length jq\/y=.slice none 0 0->∀v∈L.map bv,v∉(#[.bool x,y,.int .i64 z]:Array Value).toList:=λL x y z hy v hv=>by
  obtain⟨q,_,rfl⟩:=Va6.1 hv;rcases hy with rfl|rfl<;>simp[bv]
 have kX:Bk w2 w.heap.size 197 #[.bool b,.slice A1 T.length jq,.int .i64 e]:=(by simpa using oh);have DJ:Bk (w2.setCell ⟨w.heap.size,2,none⟩ (.int .i64 E)) w.heap.size 197 #[.bool b,.slice A1 T.length jq,.int .i64 E]:=(by simpa using kX.put 2 (.int .i64 E));have dV:=Zb1 bd kX (dw _ _ _ _ (.inl rfl)) 2 (.int .i64 E);have bS:=Zb1 dV DJ (dw _ _ _ _ (.inl rfl)) 1 (.slice A1 R.length R.length);have gO:=(eU.off (p:=⟨w.heap.size,2,none⟩) (by simp) (.int .i64 E)).off (p:=⟨w.heap.size,1,none⟩) (by simp) (.slice A1 R.length R.length);have iD:=(fu.setCell (p:=⟨w.heap.size,2,none⟩) UZz (.int .i64 E)).setCell (p:=⟨w.heap.size,1,none⟩) UZz (.slice A1 R.length R.length);have c0:=kX.cell 0;have c1:=kX.cell 1;have c2:=kX.cell 2;have f1:=kX.frozen 1;have f2:=kX.frozen 2;have r0:=eU.cell 0;have r1:=eU.cell 1;have r2:=eU.cell 2;have g0:=eU.frozen 0;have g1:=eU.frozen 1;have g2:=eU.frozen 2;simp at c0 c1 c2 r0 r1 r2;have hz:=h_ dw;have bW:=Z7r bS R.length;rw[<-Vc8,xZ.o] at bW;have ep:=h_ bW;have mi:=h_ gO;have sj:=h_ iD;have VL: -4000000<=E/\E<=4000000:=(by omega);have HE:=h_ hE;have Lx:=h_ e1;clear e1;have fN:R.length<=jq:=(by omega);clear oh kX DJ bd dV bS bW eU gO fu iD a8 rM fG kW kU H2 dw;by_cases o7:R=[]
 ·have hl:R.length=0:=(by rw[o7];rfl);have ht:=DI.o;rw[Vaf o7] at ht;have Ht:=h_ ht;obtain⟨WF,gC,u0,u1,u2,gP,ey⟩:=Qt mi.o sj.o (by omega) ep.o false (.slice none 0 0) 0;have jY:=h_ gC;have gQ:=h_ ey;have dt:((R.length:Int)==0)=true:=(by rw[beq_iff_eq];omega);clear ht DI gC gP ey mi sj ep o7 HE Lx hz xZ hl;go_wp2;rw[jY.o];refine bodyPost_ret (by simp[results,Tryz.results196,go_sem,u0,u1,u2];try rfl) rfl ?_;rw[Ht.o];exact⟨_,rfl,⟨none,0,rfl,At.nil _ _,UZz,Vat _⟩,gQ.o⟩
 ·have hl:((R.length:Int)==0)=false:=by
   rw[Vam];intro h;exact o7 (Vaj (by omega))
  have ht:=DI.o;rw[Vad o7] at ht;have Ht:=h_ ht;obtain⟨WF,gC,u0,u1,u2,gP,ey⟩:=Qt mi.o sj.o (by omega) ep.o b (.slice A1 R.length R.length) E;have jY:=h_ gC;have pD:=h_ gP;have gQ:=h_ ey;clear ht o7 DI gC gP ey mi sj ep;go_wp2;rw[jY.o];refine bodyPost_ret (by simp[results,Tryz.results196,go_sem,u0,u1,u2];try rfl) rfl ?_;rw[Ht.o];exact⟨_,rfl,⟨A1,R.length,by rw[Lx.o,HE.o],pD.o,UZz,Vaq fN dC⟩,gQ.o⟩
def hitB (S L:List UInt8) (k:Nat):Bool:=match L[k]? with
 |some c=>S.contains c
 |none=>false
def hitK (S L:List UInt8) (k:Nat):Nat:=if hitB S L k then k+1 else k
theorem byte_at (s:ByteArray) (k:Nat) (h:k<s.size):(toL s)[k]? =some (s[k]'h):=by
 have hl:k<(toL s).length:=h;rw[Van hl];simp only[toL,Array.getElem_toList];rfl
theorem Zid (s:ByteArray) (k:Nat) (h:¬k<s.size):(toL s)[k]? =none:=Vca (by rw[Z1];omega)
theorem Zie {w:World} {ba bb k:Nat} {s:ByteArray} {S:List UInt8} (ha:Bk w ba 3 #[.int .i64 (k:Int)]) (hb:Bk w bb 9 #[.string s]) (hk:k<=s.size) (hs:s.size<=64) (hS:S.length<=2):
  Calls Tryz.prog 194 #[.string (bs S),.pointer (some ⟨ba,0,none⟩),.pointer (some ⟨bb,0,none⟩)] w λx w'=>x=.returned (.bool (hitB S (toL s) k))/\Bk w' ba 3 #[.int .i64 (hitK S (toL s) k:Int)]/\Bk w' bb 9 #[.string s]/\Fr (only ba) w w':=by
 have Ha:=h_ ha;have Hb:=h_ hb;have ad:(bs S).size=S.length:=rfl;by_cases ab:k<s.size
 ·have ak:=byte_at s k ab;obtain⟨c,hc⟩:∃c,s[k]=c:=⟨_,rfl⟩;rw[hc] at ak;have kY:hitB S (toL s) k=S.contains c:=(by unfold hitB;rw[ak]);have p9:((s[k]'ab).toNat:Int)=(c.toNat:Int):=(by rw[hc]);have eo:=h_ (show ∀(i:Nat) (h:i<(bs S).size) (h2:i<S.length),((bs S)[i]'h)=S[i] from λi h h2=>rfl);have mj:=h_ kY;have dy:=h_ (show S.contains c=false->hitK S (toL s) k=k from λh=>by unfold hitK;rw[kY,h];rfl);have fo:=h_ (show S.contains c=true->hitK S (toL s) k=k+1 from λh=>by unfold hitK;rw[kY,h];rfl);obtain⟨C,hC⟩:∃C,c.toNat=C:=⟨_,rfl⟩;rw[hC] at p9;have HC:=h_ hC;generalize bs S=B at*;obtain⟨L,hL⟩:∃L,S.length=L:=⟨_,rfl⟩;have HL:=h_ hL;rw[hL] at ad hS;have cH:=h_ ad;have Rv:B.size<=2:=(by omega);clear ha hb kY ad hL ak hc hC;go_enter Tryz.func194,Tryz.ntmps194;go_wp2;go_loopw [8] (λiv wr=>∃i:Nat,i<=B.size/\iv=.int .i64 i/\Bk wr ba 3 #[.int .i64 (k:Int)]/\Bk wr bb 9 #[.string s]/\Hid (∀j,j<i->S[j]? ≠some c)/\Fr (only ba) w wr) (λiv _=>(B.size-intOf iv).toNat);case atStart=>exact⟨0,by omega,rfl,Ha.o,Hb.o,h_ (λj h=>by omega),Fr.refl _ _⟩
  case round=>
   obtain⟨i,hi,rfl,fj,a7,dw,hf⟩:=hrel;have c0:=fj.cell 0;have c1:=a7.cell 0;have f0:=fj.frozen 0;simp at c0 c1;by_cases bu:i<B.size
   ·have qW:i<S.length:=(by rw[HL.o];have:=cH.o;omega);obtain⟨d,hd⟩:∃d,S[i]=d:=⟨_,rfl⟩;obtain⟨D,hD⟩:∃D,d.toNat=D:=⟨_,rfl⟩;have xQ:((B[i]'bu).toNat:Int)=(D:Int):=(by rw[eo.o i bu qW,hd,hD]);by_cases iE:c=d
    ·have jW:S.contains c=true:=by
      rw[List.contains_iff_mem,iE,<-hd];exact Vak _
     have heq:((C:Int)==(D:Int))=true:=(by rw[beq_iff_eq,<-HC.o,<-hD,iE]);have hh:=mj.o;rw[jW] at hh;have Hh:=h_ hh;have kI:=fo.o jW;have sl:=h_ kI;clear jW hh kI mj dy fo dw eo hd hD iE HC HL cH;go_wp2;go_quiet (fail);go_wp2;go_returns;rw[Hh.o,sl.o];refine⟨rfl,?_,(a7.drewN nq).off (p:=⟨ba,0,none⟩) ?_ _,X3 (hf.drewN nq) 0 _⟩
     ·simpa using (fj.drewN nq).put 0 (.int .i64 ((k+1:Nat):Int))
     ·exact λe=>(a7.apart fj (by decide)) e
    ·have az:((C:Int)==(D:Int))=false:=by
      rw[Vam,<-HC.o,<-hD];intro e;exact iE (UInt8.toNat_inj.1 (by omega))
     have Gk:Hid (∀j,j<i+1->S[j]? ≠some c):=h_ (λj h=>by
      rcases Nat.lt_or_ge j i with h1|h1
      ·exact dw.o j h1
      ·have:j=i:=(by omega);subst this;rw[Van qW,hd];intro e;injection e with e;exact iE e.symm)
     clear mj dy fo dw eo hd hD iE HC HL cH;go_wp2;go_quiet (fail);go_wp2;refine⟨⟨i+1,by omega,by go_num,fj.drewN nq,a7.drewN nq,Gk,hf.drewN nq⟩,?_⟩;simp[intOf]<;>omega
   ·have jW:S.contains c=false:=by
     rw[Bool.eq_false_iff];intro h;rw[List.contains_iff_mem] at h;obtain⟨j,hj,he⟩:=List.getElem_of_mem h;exact dw.o j (by have:=HL.o;have:=cH.o;omega) (by rw[Van hj,he])
    have hh:=mj.o;rw[jW] at hh;have Hh:=h_ hh;have kI:=dy.o jW;have sl:=h_ kI;clear jW hh kI mj dy fo dw eo HC HL cH;go_wp2;go_returns;rw[Hh.o,sl.o];exact⟨rfl,fj,a7,hf⟩
 ·have kY:hitB S (toL s) k=false:=(by unfold hitB;rw[Zid s k ab]);have cL:k=s.size:=(by omega);have mj:=h_ kY;have sl:=h_ (show hitK S (toL s) k=k by unfold hitK;rw[kY];rfl);generalize bs S=B at*;obtain⟨L,hL⟩:∃L,S.length=L:=⟨_,rfl⟩;rw[hL] at ad hS;have cH:=h_ ad;have Rv:B.size<=2:=(by omega);clear ha hb kY ad hL;go_enter Tryz.func194,Tryz.ntmps194;go_wp2;go_loopw [8] (λiv wr=>∃i:Nat,i<=B.size/\iv=.int .i64 i/\Bk wr ba 3 #[.int .i64 (k:Int)]/\Bk wr bb 9 #[.string s]/\Fr (only ba) w wr) (λiv _=>(B.size-intOf iv).toNat);case atStart=>exact⟨0,by omega,rfl,Ha.o,Hb.o,Fr.refl _ _⟩
  case round=>
   obtain⟨i,hi,rfl,fj,a7,hf⟩:=hrel;have c0:=fj.cell 0;have c1:=a7.cell 0;simp at c0 c1;by_cases bu:i<B.size
   ·go_wp2;go_quiet (fail);go_wp2;refine⟨⟨i+1,by omega,by go_num,fj.drewN nq,a7.drewN nq,hf.drewN nq⟩,?_⟩;simp[intOf]<;>omega
   ·go_wp2;go_returns;rw[mj.o,sl.o];exact⟨rfl,by first|exact fj|(rw[cL] at fj;exact fj),a7,hf⟩
theorem Zc1 (L:List UInt8):dfr L=L.take (dfr L).length:=by
 have h:=(List.takeWhile_prefix isD (l:=L));exact(List.prefix_iff_eq_take.1 h)
theorem Zif (L:List UInt8) (j:Nat) (h:j<(dfr L).length):∃c,L[j]? =some c/\isD c=true:=by
 obtain⟨c,hc⟩:∃c,(dfr L)[j]=c:=⟨_,rfl⟩;have hd:isD c=true:=hc▸Z3x L _ (Vak _);have h1:(dfr L)[j]? =some c:=(by rw[Van h,hc]);have h2:(L.take (dfr L).length)[j]? =some c:=(by rw[<-Zc1 L];exact h1);rw[List.getElem?_take,Vaf h] at h2;exact⟨c,h2,hd⟩
theorem Zff (L:List UInt8):∀c,L[(dfr L).length]? =some c->isD c=false:=by
 unfold dfr;induction L with
 |nil=>intro c h;simp at h
 |cons a t ih=>
  intro c h;rw[List.takeWhile_cons] at h;split at h
  ·rw[Vaz,List.getElem?_cons_succ] at h;exact ih c h
  ·rename_i ha;simp at h;subst h;simpa using ha
def amu (b n:Nat) (w:World):Nat:=match w.cell? ⟨b,0,none⟩ with
 |some (.int _ k)=>(n-k).toNat
 |_=>0
theorem ZgV {w:World} {b n k:Nat} (h:Bk w b 3 #[.int .i64 (k:Int)]):amu b n w=((n:Int)-(k:Int)).toNat:=by
 have:=h.cell 0;simp at this;unfold amu;rw[this]
theorem Zig (s:ByteArray) (a b:Nat):s.extract a b=bs (((toL s).drop a).take (b-a)):=by
 apply Vck;apply Vbj.1;simp only[bs,toL,ByteArray.data_extract,Array.toList_extract,List.extract_eq_take_drop]
theorem Zih {w:World} {ba bb k:Nat} {s:ByteArray} (ha:Bk w ba 3 #[.int .i64 (k:Int)]) (hb:Bk w bb 9 #[.string s]) (hk:k<=s.size) (hs:s.size<=64):
  Calls Tryz.prog 195 #[.pointer (some ⟨ba,0,none⟩),.pointer (some ⟨bb,0,none⟩)] w λx w'=>x=.returned (.string (bs (dfr ((toL s).drop k))))/\Bk w' ba 3 #[.int .i64 ((k+(dfr ((toL s).drop k)).length:Nat):Int)]/\Bk w' bb 9 #[.string s]/\Fr (only ba) w w':=by
 have Ha:=h_ ha;have Hb:=h_ hb;have vx:=Zc1 ((toL s).drop k);have eo:=h_ (Zif ((toL s).drop k));have pE:=h_ (Zff ((toL s).drop k));obtain⟨D,hD⟩:∃D,dfr ((toL s).drop k)=D:=⟨_,rfl⟩;rw[hD] at vx eo pE⊢;obtain⟨m,hm⟩:∃m,k+D.length=m:=⟨_,rfl⟩
 have gd:D.length<=s.size-k:=by
  have:=Z3z ((toL s).drop k);rw[hD,Va2,Z1] at this;exact this
 have ga:m<=s.size:=by omega
 have hex:s.extract k m=bs D:=by
  rw[Zig,show m-k=D.length by omega,<-vx]
 have ie:=h_ hex;have Hm:=h_ hm;rw[hm];have nu:k<=m:=(by omega)
 have bD:Hid (∀j,k<=j->j<m->∃(h:j<s.size),isD (s[j]'h)=true):=h_ (λj h1 h2=>by
  obtain⟨c,cq,dI⟩:=eo.o (j-k) (by omega);have hj:j<s.size:=(by omega);refine⟨hj,?_⟩;rw[List.getElem?_drop,show k+(j-k)=j by omega,byte_at s j hj] at cq;injection cq with cq;rw[cq];exact dI)
 have dT:Hid (∀(h:m<s.size),isD (s[m]'h)=false):=h_ (λh=>by
  refine pE.o _ ?_;rw[List.getElem?_drop,show k+D.length=m from hm];exact byte_at s m h)
 clear ha hb vx eo pE hD gd hex hm;have Rw:=Ha.o.cell 0;simp at Rw;go_enter Tryz.func195,Tryz.ntmps195;go_wp2;go_loopw [] (λwr=>∃j:Nat,k<=j/\j<=m/\Bk wr ba 3 #[.int .i64 (j:Int)]/\Bk wr bb 9 #[.string s]/\Fr (only ba) w wr) (λwr=>amu ba m wr);case atStart=>exact⟨k,UZz,nu,Ha.o,Hb.o,Fr.refl _ _⟩
 case round=>
  obtain⟨j,nY,tM,fj,a7,hf⟩:=hrel;have c0:=fj.cell 0;have c1:=a7.cell 0;have f0:=fj.frozen 0;simp at c0 c1;by_cases ab:j<m
  ·obtain⟨DK,vy⟩:=bD.o j nY ab;obtain⟨C,hC⟩:∃C,(s[j]'DK).toNat=C:=⟨_,rfl⟩
   have Gl:48<=C/\C<=57:=by
    unfold isD at vy;simp at vy;omega
   obtain⟨q1,q2⟩:=Gl;have az:=a7.apart fj (by decide);have aj:=fj.put 0 (.int .i64 ((j+1:Nat):Int));have aA:=h_ (show Bk (wr.setCell ⟨ba,0,none⟩ (.int .i64 ((j+1:Nat):Int))) ba 3 #[.int .i64 ((j+1:Nat):Int)] by simpa using aj);have ao:=h_ (a7.off (p:=⟨ba,0,none⟩) az (.int .i64 ((j+1:Nat):Int)));have Hf:=h_ (X3 hf 0 (.int .i64 ((j+1:Nat):Int)));have y8:=h_ (ZgV (n:=m) fj);clear vy aj a7 hf fj az bD dT;go_wp2;have e1:(j:Int)+1=((j+1:Nat):Int):=(by omega);rw[e1];refine⟨⟨j+1,by omega,by omega,aA.o,ao.o,Hf.o⟩,?_⟩;rw[ZgV aA.o,y8.o];omega
  ·have rh:j=m:=(by omega);subst rh;have qX:=h_ fj;have ao:=h_ a7;have Hf:=h_ hf;have qT:(k:Int)<=(j:Int):=(by omega);by_cases DK:j<s.size
   ·have vy:=dT.o DK;obtain⟨C,hC⟩:∃C,(s[j]'DK).toNat=C:=⟨_,rfl⟩
    have Gl:C<48\/57<C:=by
     unfold isD at vy;simp at vy;omega
    clear vy fj a7 hf bD dT;rcases Gl with q1|q1
    all_goals
     go_wp2;go_returns;exact⟨Z3B ie.o,qX.o,ao.o,Hf.o⟩
   ·have VM:¬(j:Int)<(s.size:Int):=(by omega);clear fj a7 hf bD dT;go_wp2;go_returns;exact⟨Z3B ie.o,qX.o,ao.o,Hf.o⟩
theorem ZgW {s t:ByteArray} {a b:Int} (h:s=t) (h2:a=b):Ending.returned (.tuple #[.string s,.int .i64 a])=.returned (.tuple #[.string t,.int .i64 b]):=by rw[h,h2]
theorem Zc2 {w:World} {v:Value} {n:Num} (h:NV w v n) (hs:Sz n) (ht:Tab w):
  Calls Tryz.prog 152 #[v] w λx w'=>x=.returned (.tuple #[.string (bs (Xc n).1),.int .i64 ((Xc n).2:Int)])/\Below w.heap.size w w':=by
 obtain⟨A,cap,rfl,ak,hc,hm⟩:=h;obtain⟨b,d,e⟩:=n;obtain⟨s1,s2,s3⟩:=hs;simp only at*
 have jC:Xc ⟨b,d,e⟩=if d=[] then([48],0) else if 17<d.length\/e+d.length-1< -400\/400<e+d.length-1 then([],9)
  else((if b then[45] else[])++d.take 1++(if 1<d.length then 46::d.drop 1 else[])++101::decZ (e+d.length-1),0):=rfl
 have aB:=(Vae w.heap.size w).alloc UZz (.cells #[.bool b,.slice A d.length cap,.int .i64 e] 197);have uQ:Bk (w.alloc (.cells #[.bool b,.slice A d.length cap,.int .i64 e] 197)) w.heap.size 197 #[.bool b,.slice A d.length cap,.int .i64 e]:=Bk.new _ _ _;have aL:=h_ aB;have pC:=h_ uQ;have bD:=h_ ak;have Ht:=h_ ht;have Hf:=h_ (λW=>Z8E b A d.length cap e s1 s2 s3 W);clear aB uQ ak ht;by_cases h0:d=[]
 ·subst h0;have oi:=h_ (jC.trans (Vaf rfl));clear jC Hf;go_enter Tryz.func152,Tryz.ntmps152;go_wp2;go_returns;exact⟨by rw[oi.o]<;>rfl,aL.o⟩
 ·rw[Vad h0] at jC
  have ig:((d.length:Int)==0)=false:=by
   rw[Vam];intro h;exact h0 (Vaj (by omega))
  have Rx:0<d.length:=List.length_pos_iff.2 h0;obtain⟨L,hL⟩:∃L,d.length=L:=⟨_,rfl⟩;obtain⟨F,hF⟩:∃F,e+(L:Int)-1=F:=⟨_,rfl⟩;rw[hL] at jC Hf pC aL hc ig Rx s3⊢;rw[hF] at jC Hf;by_cases tD:17<L
  ·rw[Vaf (.inl tD)] at jC;have oi:=h_ jC;have Gm:(17:Int)<(L:Int):=(by omega);clear jC Hf tD hF;go_enter Tryz.func152,Tryz.ntmps152;go_wp2;go_returns;exact⟨by rw[oi.o]<;>rfl,aL.o⟩
  ·have Gm:¬(17:Int)<(L:Int):=(by omega);by_cases jl:F< -400
   ·rw[Vaf (.inr (.inl jl))] at jC;have oi:=h_ jC;clear jC tD hF;go_enter Tryz.func152,Tryz.ntmps152;go_wp2_with fail;refine(Hf.o _).mono ?_;rintro r w1 ⟨rfl,a7⟩;have cR:=aL.o.trans (a7.mono aL.o.size);go_wp2;go_returns;exact⟨by rw[oi.o]<;>rfl,cR⟩
   ·by_cases lR:400<F
    ·rw[Vaf (.inr (.inr lR))] at jC;have oi:=h_ jC;clear jC tD hF;go_enter Tryz.func152,Tryz.ntmps152;go_wp2_with fail;refine(Hf.o _).mono ?_;rintro r w1 ⟨rfl,a7⟩;have iW:=Bk.below pC.o a7 (Bk.lt pC.o);have iC:=aL.o.trans (a7.mono aL.o.size);have c0:=iW.cell 0;have c1:=iW.cell 1;have c2:=iW.cell 2;simp at c0 c1 c2;have ml:=h_ iC;clear iW iC a7;go_wp2_with fail;refine(Hf.o _).mono ?_;rintro r w2 ⟨rfl,a8⟩;have cR:=ml.o.trans (a8.mono ml.o.size);go_wp2;go_returns;exact⟨by rw[oi.o]<;>rfl,cR⟩
    ·rw[Vad (by omega)] at jC;have oi:=h_ jC;have HL:=h_ hL;clear jC tD hF;go_enter Tryz.func152,Tryz.ntmps152;go_wp2_with fail;refine(Hf.o _).mono ?_;rintro r w1 ⟨rfl,a7⟩;have iW:=Bk.below pC.o a7 (Bk.lt pC.o);have iC:=aL.o.trans (a7.mono aL.o.size);have c0:=iW.cell 0;have c1:=iW.cell 1;have c2:=iW.cell 2;simp at c0 c1 c2;have oS:=h_ iW;have ml:=h_ iC;clear iW iC a7;go_wp2_with fail;refine(Hf.o _).mono ?_;rintro r w2 ⟨rfl,a8⟩;have cU:=Bk.below oS.o a8 (Bk.lt oS.o);have jr:=ml.o.trans (a8.mono ml.o.size);clear c0 c1 c2;have c0:=cU.cell 0;have c1:=cU.cell 1;have c2:=cU.cell 2;simp at c0 c1 c2;have bL:=bD.o.below jr;have l1:(d.take 1).length=1:=(by rw[Vau,HL.o];omega)
     have Ft:(convert 115 9 (.slice A 1 cap)).run Tryz.prog w2=.ok (.string (bs (d.take 1))) w2:=by
      have:=Zb0 (P:=Tryz.prog) 115 9 5 Tryz.underlying115 Tryz.underlying5 Tryz.underlying9 (w:=w2) (A:=A) (l:=d.take 1) (by rw[Vc8];exact Z7r bL 1) cap;rw[l1] at this;exact this
     have Ly:=h_ (λW (h:Below w.heap.size w W)=>Zb3 (Ht.o.below h) F (by omega) (by omega))
     have pF:(decZ F).length<=4:=by
      unfold decZ;split
      ·have:=Qq (n:=(-F).toNat) (k:=3) (by omega) (by omega);rw[Vaz];omega
      ·have:=Qq (n:=F.toNat) (k:=3) (by omega) (by omega);omega
     have z1:(bs (d.take 1)).size<=1:=(by rw[Z0,l1];exact UZz);have z3:(bs (decZ F)).size<=4:=(by rw[Z0];exact pF);have rM:=h_ cU;have kW:=h_ jr;by_cases LD:L=1
     ·have jZ:=oi.o;rw[Vad (show ¬1<L by omega),Va3] at jZ
      have mn:Hid ((if b then(⟨#[45]⟩:ByteArray)++bs (d.take 1) else bs (d.take 1))++(⟨#[101]⟩:ByteArray)++bs (decZ F)=bs (Xc ⟨b,d,e⟩).1):=h_ (by
       rw[jZ];have e1:(⟨#[101]⟩:ByteArray)=bs [101]:=rfl;have e2:(⟨#[45]⟩:ByteArray)=bs [45]:=rfl;rw[e1,e2];cases b
       ·simp[Zg]
       ·simp[Zg])
      have H0:Hid ((Xc ⟨b,d,e⟩).2=0):=h_ (by rw[jZ]);subst LD;generalize bs (d.take 1)=S1 at*;generalize bs (decZ F)=S3 at*;clear jZ oi cU jr bL l1 pF oS ml pC aL bD a8;cases b
      all_goals
       go_wp2_with fail;refine(Hf.o _).mono ?_;rintro r w3 ⟨rfl,af⟩;have fu:=kW.o.trans (af.mono kW.o.size);go_wp2_with fail;refine(Ly.o _ fu).mono ?_;rintro r w4 ⟨rfl,ax⟩;have iD:=fu.trans (ax.mono fu.size);clear fu af ax c0 c1 c2;go_wp2;go_returns;exact⟨ZgW (by have:=mn.o;simpa using this) (by rw[H0.o];rfl),iD⟩
     ·have DE:1<L:=(by omega);have Ry:(1:Int)<(L:Int):=(by omega);have jZ:=oi.o;rw[Vaf DE] at jZ;obtain⟨bA,oA,hA,_,_⟩:=bL 0 (by rw[Vag,HL.o];omega);subst hA;have l2:(d.drop 1).length=L-1:=(by rw[Va2,HL.o])
      have Fu:(convert 115 9 (.slice (some ⟨bA,oA+1,none⟩) (L-1) (cap-1))).run Tryz.prog w2=.ok (.string (bs (d.drop 1))) w2:=by
       have:=Zb0 (P:=Tryz.prog) 115 9 5 Tryz.underlying115 Tryz.underlying5 Tryz.underlying9 (w:=w2) (A:=some ⟨bA,oA+1,none⟩) (l:=d.drop 1) (by rw[List.map_drop];exact Z7q bL 1) (cap-1);rw[l2] at this;exact this
      have cq:¬cap=1:=(by omega);have z2:(bs (d.drop 1)).size<=17:=(by rw[Z0,l2];omega)
      have mn:Hid ((if b then(⟨#[45]⟩:ByteArray)++(bs (d.take 1)++((⟨#[46]⟩:ByteArray)++bs (d.drop 1))) else bs (d.take 1)++((⟨#[46]⟩:ByteArray)++bs (d.drop 1)))++(⟨#[101]⟩:ByteArray)++bs (decZ F)=bs (Xc ⟨b,d,e⟩).1):=h_ (by
       rw[jZ];have e1:(⟨#[101]⟩:ByteArray)=bs [101]:=rfl;have e2:(⟨#[45]⟩:ByteArray)=bs [45]:=rfl;have e3:(⟨#[46]⟩:ByteArray)=bs [46]:=rfl;rw[e1,e2,e3];cases b
       ·simp[Zg]
       ·simp[Zg])
      have H0:Hid ((Xc ⟨b,d,e⟩).2=0):=h_ (by rw[jZ]);generalize bs (d.take 1)=S1 at*;generalize bs (d.drop 1)=S2 at*;generalize bs (decZ F)=S3 at*;clear jZ oi cU jr bL l1 l2 pF oS ml pC aL bD a8 LD;cases b
      all_goals
       go_wp2_with fail;refine(Hf.o _).mono ?_;rintro r w3 ⟨rfl,af⟩;have fu:=kW.o.trans (af.mono kW.o.size);go_wp2_with fail;refine(Ly.o _ fu).mono ?_;rintro r w4 ⟨rfl,ax⟩;have iD:=fu.trans (ax.mono fu.size);clear fu af ax c0 c1 c2;go_wp2;go_returns;exact⟨ZgW (by have:=mn.o;simpa using this) (by rw[H0.o];rfl),iD⟩
def sgK (L:List UInt8) (k:Nat):Nat:=if hitB [45] L k then k+1 else hitK [43] L k
theorem Qc (S L:List UInt8) (k:Nat):(L.length<=k/\hitB S L k=false/\L.drop k=[])\/(∃c,L[k]? =some c/\k<L.length/\hitB S L k=S.contains c/\L.drop k=c::L.drop (k+1)):=by
 by_cases h:k<L.length
 ·right;refine⟨L[k],Van h,h,?_,Va4 h⟩;unfold hitB;rw[Van h]
 ·left;refine⟨by omega,?_,Vbf (by omega)⟩;unfold hitB;rw[Vca (by omega)]
theorem Z52 (L:List UInt8) (k:Nat):sgn (L.drop k)=(hitB [45] L k,L.drop (sgK L k)):=by
 unfold sgK hitK;rcases Qc [45] L k with ⟨h1,h2,h3⟩|⟨c,h1,h2,h3,h4⟩
 ·have h5:hitB [43] L k=false:=(by unfold hitB;rw[Vca h1]);rw[h2,h5,h3];simp[sgn,h3]
 ·have h5:hitB [43] L k=[43].contains c:=(by unfold hitB;rw[h1]);rw[h3,h5,h4,Z3y];by_cases e1:c=45
  ·subst e1;simp
  ·by_cases e2:c=43
   ·subst e2;simp
   ·simp[e1,e2,h4]
theorem ZgX {L:List UInt8} {k:Nat} (hk:k<=L.length):k<=sgK L k/\sgK L k<=L.length:=by
 unfold sgK hitK;rcases Qc [45] L k with ⟨h1,h2,h3⟩|⟨c,h1,h2,h3,h4⟩
 ·have h5:hitB [43] L k=false:=(by unfold hitB;rw[Vca h1]);rw[h2,h5];simp[hk]
 ·split
  ·omega
  ·split<;>omega
theorem ZgY {S L:List UInt8} {k:Nat} (h:hitB S L k=true):k<L.length:=by
 rcases Qc S L k with ⟨h1,h2,h3⟩|⟨c,h1,h2,h3,h4⟩
 ·rw[h2] at h;cases h
 ·exact h2
theorem Z1i {S L:List UInt8} {k:Nat} (h:hitB S L k=true):hitK S L k=k+1:=by unfold hitK;rw[Vaf h]
theorem Z3R {S L:List UInt8} {k:Nat} (h:hitB S L k=false):hitK S L k=k:=by unfold hitK;rw[h];rfl
theorem Z3S (L:List UInt8) (k:Nat):aft (L.drop k)=L.drop (k+(dfr (L.drop k)).length):=by
 have h:L.drop k=dfr (L.drop k)++aft (L.drop k):=(List.takeWhile_append_dropWhile (p:=isD) (l:=L.drop k)).symm
 have h2:(L.drop k).drop (dfr (L.drop k)).length=aft (L.drop k):=by
  have h3:(dfr (L.drop k)++aft (L.drop k)).drop (dfr (L.drop k)).length=aft (L.drop k):=Vcn;rw[<-h] at h3;exact h3
 rw[<-h2,Vcz]
theorem Z6f (L:List UInt8) {k:Nat} (hk:k<=L.length):k+(dfr (L.drop k)).length<=L.length:=by
 have:=Z3z (L.drop k);rw[Va2] at this;omega
theorem Z91 (L:List UInt8) (k:Nat):frac (L.drop k)=if hitB [46] L k then(if dfr (L.drop (k+1))=[] then none else some (dfr (L.drop (k+1)),L.drop (k+1+(dfr (L.drop (k+1))).length))) else some ([],L.drop k):=by
 rcases Qc [46] L k with ⟨h1,h2,h3⟩|⟨c,h1,h2,h3,h4⟩
 ·rw[h2,h3];rfl
 ·rw[h3,h4,Z05];by_cases e:c=46
  ·subst e;simp[Z3S]
  ·simp[e]
theorem Z2P (f:List UInt8->Nat) (L:List UInt8) (k:Nat):expo f (L.drop k)=if hitB [101,69] L k then(if dfr (L.drop (sgK L (k+1)))=[] then none else some (sg (hitB [45] L (k+1))*(f (dfr (L.drop (sgK L (k+1)))):Int),L.drop (sgK L (k+1)+(dfr (L.drop (sgK L (k+1)))).length))) else some (0,L.drop k):=by
 rcases Qc [101,69] L k with ⟨h1,h2,h3⟩|⟨c,h1,h2,h3,h4⟩
 ·rw[h2,h3];rfl
 ·rw[h3,h4,Z4B,Z52];by_cases e:c=101\/c=69
  ·have:[101,69].contains c=true:=(by rw[List.contains_iff_mem];simpa using e);rw[this,Vaf e];simp[Z3S]
  ·have:[101,69].contains c=false:=by
    rw[Bool.eq_false_iff];intro h;rw[List.contains_iff_mem] at h;exact e (by simpa using h)
   rw[this,Vad e];simp
structure ScSt (w wx:World) (s:ByteArray) (k:Nat) (b:Bool) (v:Value) (D:List UInt8) (e:Int):Prop where
 bs_:Bk wx w.heap.size 9 #[.string s]
 br:Bk wx (w.heap.size+1) 197 #[.bool false,.slice none 0 0,.int .i64 0]
 bn:Bk wx (w.heap.size+1+1) 197 #[.bool b,v,.int .i64 e]
 ba:Bk wx (w.heap.size+1+1+1) 3 #[.int .i64 (k:Int)]
 own:wx.ownsRow w.heap.size 5 1 v D.length (D.map bv)
 bel:Below w.heap.size w wx
theorem ScSt.step {w wx wy:World} {s:ByteArray} {k k':Nat} {b:Bool} {v:Value} {D:List UInt8} {e:Int} (h:ScSt w wx s k b v D e) (hb:Bk wy (w.heap.size+1+1+1) 3 #[.int .i64 (k':Int)]) (hf:Fr (only (w.heap.size+1+1+1)) wx wy):ScSt w wy s k' b v D e where
 bs_:=h.bs_.fr hf (by show ¬_=_;omega)
 br:=h.br.fr hf (by show ¬_=_;omega)
 bn:=h.bn.fr hf (by show ¬_=_;omega)
 ba:=hb
 own:=Zn h.own hf (λg hg hn=>Z2 h.own h.ba (by decide) (hn▸hg))
 bel:=h.bel.trans (Z1F hf h.bel.size (by omega))
theorem ScSt.num {w wx wy:World} {s:ByteArray} {k:Nat} {b b':Bool} {v:Value} {D:List UInt8} {e e':Int} (h:ScSt w wx s k b v D e) (hb:Bk wy (w.heap.size+1+1) 197 #[.bool b',v,.int .i64 e']) (hf:Fr (only (w.heap.size+1+1)) wx wy):ScSt w wy s k b' v D e' where
 bs_:=h.bs_.fr hf (by show ¬_=_;omega)
 br:=h.br.fr hf (by show ¬_=_;omega)
 bn:=hb
 ba:=h.ba.fr hf (by show ¬_=_;omega)
 own:=Zn h.own hf (λg hg hn=>Z2 h.own h.bn (by decide) (hn▸hg))
 bel:=h.bel.trans (Z1F hf h.bel.size (by omega))
theorem ScSt.neg {w wx:World} {s:ByteArray} {k:Nat} {b:Bool} {v:Value} {D:List UInt8} {e:Int} (h:ScSt w wx s k b v D e) (b':Bool):ScSt w (wx.setCell ⟨w.heap.size+1+1,0,none⟩ (.bool b')) s k b' v D e:=
 h.num (by simpa using h.bn.put 0 (.bool b')) (X3 (Fr.refl _ _) 0 _)
theorem ScSt.exp {w wx:World} {s:ByteArray} {k:Nat} {b:Bool} {v:Value} {D:List UInt8} {e:Int} (h:ScSt w wx s k b v D e) (e':Int):ScSt w (wx.setCell ⟨w.heap.size+1+1,2,none⟩ (.int .i64 e')) s k b v D e':=
 h.num (by simpa using h.bn.put 2 (.int .i64 e')) (X3 (Fr.refl _ _) 2 _)
theorem ScSt.app {w wx wy:World} {s:ByteArray} {k:Nat} {b:Bool} {v v':Value} {D E:List UInt8} {e:Int} (h:ScSt w wx s k b v D e) (ho:wy.ownsRow w.heap.size 5 1 v' (D++E).length ((D++E).map bv)) (hg:wx.grownBy wy v.ownBlock):
  Bk wy (w.heap.size+1+1) 197 #[.bool b,v,.int .i64 e]/\ScSt w (wy.setCell ⟨w.heap.size+1+1,1,none⟩ v') s k b v' (D++E) e:=by
 have hn:=h.bn.grown hg (λx=>Z2 h.own h.bn (by decide) x.symm);have hk:=hn.put 1 v';refine⟨hn,?_⟩;refine⟨?_,?_,by simpa using hk,?_,?_,?_⟩
 ·exact(h.bs_.grown hg (λx=>Z2 h.own h.bs_ (by decide) x.symm)).off (p:=⟨w.heap.size+1+1,1,none⟩) (by simp<;>omega) _
 ·exact(h.br.grown hg (λx=>Z2 h.own h.br (by decide) x.symm)).off (p:=⟨w.heap.size+1+1,1,none⟩) (by simp<;>omega) _
 ·exact(h.ba.grown hg (λx=>Z2 h.own h.ba (by decide) x.symm)).off (p:=⟨w.heap.size+1+1,1,none⟩) (by simp<;>omega) _
 ·exact XB ho (p:=⟨w.heap.size+1+1,1,none⟩) (Z2 ho hn (by decide)) _
 ·exact(h.bel.grown hg h.bel.size (λk hk=>(h.own.lt k hk).1)).setCell (p:=⟨w.heap.size+1+1,1,none⟩) (by show _<=_+1+1;omega) _
theorem ScSt.one {w wx:World} {s:ByteArray} {k:Nat} {b:Bool} {v:Value} {D:List UInt8} {e:Int} (h:ScSt w wx s k b v D e) (S:List UInt8) (hk:k<=s.size) (hs:s.size<=64) (hS:S.length<=2):
  Calls Tryz.prog 194 #[.string (bs S),.pointer (some ⟨w.heap.size+1+1+1,0,none⟩),.pointer (some ⟨w.heap.size,0,none⟩)] wx λx w'=>x=.returned (.bool (hitB S (toL s) k))/\ScSt w w' s (hitK S (toL s) k) b v D e:=by
 refine(Zie h.ba h.bs_ hk hs hS).mono ?_;rintro x w' ⟨h1,h2,h3,h4⟩;exact⟨h1,h.step h2 h4⟩
theorem ScSt.dig {w wx:World} {s:ByteArray} {k:Nat} {b:Bool} {v:Value} {D:List UInt8} {e:Int} (h:ScSt w wx s k b v D e) (hk:k<=s.size) (hs:s.size<=64):
  Calls Tryz.prog 195 #[.pointer (some ⟨w.heap.size+1+1+1,0,none⟩),.pointer (some ⟨w.heap.size,0,none⟩)] wx λx w'=>x=.returned (.string (bs (dfr ((toL s).drop k))))/\ScSt w w' s (k+(dfr ((toL s).drop k)).length) b v D e:=by
 refine(Zih h.ba h.bs_ hk hs).mono ?_;rintro x w' ⟨h1,h2,h3,h4⟩;exact⟨h1,h.step h2 h4⟩
theorem Z6g (L:List UInt8):Lib.strCells (bs L)=L.map bv:=by
 unfold Lib.strCells bs bv;simp
def Zc3 (w w':World) (o:Option Num) (x:Ending):Prop:=∃v b,x=.returned (.tuple #[v,.bool b])/\Below w.heap.size w w'/\(∃b0 A l c e,v=.agg #[.bool b0,.slice A l c,.int .i64 e])/\(match o with
 |none=>b=false
 |some n=>b=true/\NV w' v n/\Sz n)
theorem Zfg (w:World) (s:ByteArray):
  ScSt w ((((w.alloc (.cells #[.string s] 9)).alloc (.cells #[.bool false,.slice none 0 0,.int .i64 0] 197)).alloc (.cells #[.bool false,.slice none 0 0,.int .i64 0] 197)).alloc (.cells #[.int .i64 0] 3)) s 0 false (.slice none 0 0) [] 0 where
 bs_:=((Bk.new w _ _).alloc _).alloc _|>.alloc _
 br:=by
  have:=Bk.new (w.alloc (.cells #[.string s] 9)) 197 #[.bool false,.slice none 0 0,.int .i64 0];rw[World.size_alloc] at this;exact(this.alloc _).alloc _
 bn:=by
  have:=Bk.new ((w.alloc (.cells #[.string s] 9)).alloc (.cells #[.bool false,.slice none 0 0,.int .i64 0] 197)) 197 #[.bool false,.slice none 0 0,.int .i64 0];rw[World.size_alloc,World.size_alloc] at this;exact this.alloc _
 ba:=by
  have:=Bk.new (((w.alloc (.cells #[.string s] 9)).alloc (.cells #[.bool false,.slice none 0 0,.int .i64 0] 197)).alloc (.cells #[.bool false,.slice none 0 0,.int .i64 0] 197)) 3 #[.int .i64 0];rw[World.size_alloc,World.size_alloc,World.size_alloc] at this;exact this
 own:=Zk
 bel:=(((Vae w.heap.size w).alloc UZz _).alloc (by simp) _|>.alloc (by simp<;>omega) _).alloc (by simp<;>omega) _
theorem Zkk (f:List UInt8->Nat) {L:List UInt8} (h:L.length<=64):scn f L=if dfr (L.drop (sgK L 0))=[] then none else
  match frac (L.drop (sgK L 0+(dfr (L.drop (sgK L 0))).length)) with
  |none=>none
  |some x=>match expo f x.2 with
   |none=>none
   |some y=>if y.2=[] then some ⟨hitB [45] L 0,dfr (L.drop (sgK L 0))++x.1,y.1-x.1.length⟩ else none:=by
 have h0:=Z52 L 0;rw[Vco] at h0;unfold scn;rw[Vad (by omega),h0];simp only[Z3S];rfl
theorem Zc4 {w w1:World} {s:ByteArray} {k:Nat} {b:Bool} {v:Value} {D:List UInt8} {e:Int} (h:ScSt w w1 s k b v D e):
  ∃W,(((w1.setCell ⟨w.heap.size+1,0,none⟩ (.bool b)).setCell ⟨w.heap.size+1,1,none⟩ v).setCell ⟨w.heap.size+1,2,none⟩ (.int .i64 e))=W/\W.cell? ⟨w.heap.size+1,0,none⟩=some (.bool b)/\W.cell? ⟨w.heap.size+1,1,none⟩=some v/\W.cell? ⟨w.heap.size+1,2,none⟩=some (.int .i64 e)/\Below w.heap.size w W:=by
 obtain⟨W,h1,h2,h3,h4,_,h5⟩:=Qt h.br h.bel (by omega) (L:=[]) (At.nil w1 none) b v e;exact⟨W,h1,h2,h3,h4,h5⟩
theorem ZgZ {w w1:World} {s:ByteArray} {k:Nat} {b:Bool} {v:Value} {D:List UInt8} {e:Int} (h:ScSt w w1 s k b v D e) (E:List UInt8) (hl:D.length+E.length<=1000):
  ∃v' w',(Builtin.append_ #[115,9] 115 #[v,.string (bs E)]).run Tryz.prog w1=.ok v' w'/\Bk w' (w.heap.size+1+1) 197 #[.bool b,v,.int .i64 e]/\ScSt w (w'.setCell ⟨w.heap.size+1+1,1,none⟩ v') s k b v' (D++E) e:=by
 obtain⟨i,hi,hz,hs,dj⟩:=info_parts Zk2;obtain⟨v',w',hr,ho,hg,_⟩:=Lib.run_append_own_string (P:=Tryz.prog) (w:=w1) w.heap.size 115 9 115 5 i Tryz.underlying115 Tryz.underlying9 hi hz hs dj v D.length (D.map bv) h.own (bs E) (by rw[Z0];unfold maxLen;omega) (by rw[Z0];omega) h.bel.size;rw[Z6g,<-Vbk,Z0,<-Vab] at ho;obtain⟨h1,h2⟩:=h.app ho hg;exact⟨v',w',hr,h1,h2⟩
theorem Z1O {P:Program} {ops:Array Oper} {rest:List Oper} {o:Oper} {a:Act} {w w0 w':World} {Q:Exit->Act->World->Prop} {v':Value} (hw:w=w0) (uI:o.guard=none) (s x:Operand) (t t2:TypeId)
  (ho:o.op=.call { callee:=.builtin .append,args:= #[s,x],argTypes:= #[t,t2] }) (v u:Value) (hs:a.eval s=v) (hx:a.eval x=u)
  (hr:(Builtin.append_ #[t,t2] o.type #[v,u]).run P w0=.ok v' w') (h:wpList P ops Q rest (a.put o.dst v') w'):wpList P ops Q (o::rest) a w:=by
 subst hw;refine wpList_plain uI λK hK=> ?_;unfold Oper.wp execOp;simp only[ho,resolve,invoke,builtin,Sem.run_bind,Sem.run_pure,Result.andThen_ok,List.map_toArray,Vcj,List.map_nil,hs,hx,hr];exact hK _ _ h
theorem Zfh (p:List UInt8) (i:Nat) (h:i<p.length):cl1 (p.take (i+1))=min 1048576 (10*cl1 (p.take i)+dv p[i]):=by
 unfold cl1;rw[Vac h,Vbq];rfl
theorem Zh0 (p:List UInt8):cl1 p<=1048576:=by rw[ZgO];exact Nat.min_le_left _ _
theorem Zkl {c:UInt8} (h:isD c=true):48<=c.toNat/\c.toNat<=57/\dv c=c.toNat-48:=by
 unfold isD at h;simp at h;exact⟨h.1,h.2,rfl⟩
theorem Zii {n:Num} (h1: -1500000<=n.ex) (h2:n.ex<=1500000) (h3:n.dg.length<=1000):Sz n/\Sz (Xb n):=by
 refine⟨⟨by omega,by omega,by omega⟩,?_⟩;have a1:=Z1E n.dg;have a2:=Z4A (YP n.dg);unfold Xb;split
 ·exact⟨by simp[Z3v],by simp[Z3v],by simp[Z3v]⟩
 ·exact⟨by simp only;omega,by simp only;omega,by simp only;omega⟩
theorem Zij {L:List UInt8} {k:Nat} {E:Int} {r:List UInt8} (h:expo cl1 (L.drop k)=some (E,r)): -1048576<=E/\E<=1048576:=by
 rw[Z2P] at h;have:=Zh0 (dfr (L.drop (sgK L (k+1))));generalize cl1 (dfr (L.drop (sgK L (k+1))))=c at*;split at h
 ·split at h
  ·cases h
  ·injection h with h;injection h with h _;rw[<-h];unfold sg;split<;>omega
 ·injection h with h;injection h with h _;rw[<-h];omega
theorem ScSt.keep {w wx wy:World} {s:ByteArray} {k:Nat} {b:Bool} {v:Value} {D:List UInt8} {e:Int} (h:ScSt w wx s k b v D e) (hb:Below wx.heap.size wx wy):ScSt w wy s k b v D e where
 bs_:=h.bs_.below hb h.bs_.lt
 br:=h.br.below hb h.br.lt
 bn:=h.bn.below hb h.bn.lt
 ba:=h.ba.below hb h.ba.lt
 own:=Zn h.own (Fr.of_below (S:=nob) hb) (λ_ _ f=>f)
 bel:=h.bel.trans (hb.mono h.bel.size)
theorem Z3M (D:List UInt8) (w:World):∃cap W,(convert 9 115 (.string (bs D))).run Tryz.prog w=.ok (.slice (some ⟨w.heap.size,0,none⟩) (bs D).size cap) W/\At W (some ⟨w.heap.size,0,none⟩) (D.map bv)/\Below w.heap.size w W:=by
 have h:=run_bytes_of_string (P:=Tryz.prog) w 9 115 5 (bs D) Tryz.underlying9 Tryz.underlying115 Tryz.underlying5;refine⟨_,_,h,?_,((Vae w.heap.size w).drew).alloc UZz _⟩;intro i hi;rw[Vag] at hi;refine⟨w.heap.size,0,rfl,by rw[World.size_alloc];exact Vc1 _,?_⟩;rw[Vbo];show(w.drew.alloc _).cell? ⟨w.drew.heap.size,i,none⟩=_;rw[World.cell?_alloc_mark,bytesRow_at _ _ i hi];simp[bv,bs]
theorem Zfi {w:World} {base e n:Nat} {v:Value} {xs:List Value} (h:w.ownsRow base e 1 v n xs):∃A cap,v=.slice A n cap/\At w A xs/\n<=cap/\cap<=maxLen:=by
 have h2:=h;obtain⟨A,cap,hv,ak⟩:=Zl h;refine⟨A,cap,hv,ak,?_⟩;rcases h2.2 with ⟨h3,h4⟩|⟨g,bp,cur,h3,_,_,h5,h6,_⟩
 ·rw[hv] at h3;injection h3 with h3 h5 h6;subst h6;subst h4;exact⟨UZz,Vat _⟩
 ·rw[hv] at h3;injection h3 with h3 h7 h8;subst h8;exact⟨h5,h6⟩
def ScC (w:World) (s:ByteArray) (k:Nat) (b:Bool) (v:Value) (F:Int) (W:World):Prop:=
 W.cell? ⟨w.heap.size+1+1,0,none⟩=some (.bool b)/\W.cell? ⟨w.heap.size+1+1,1,none⟩=some v/\W.cell? ⟨w.heap.size+1+1,2,none⟩=some (.int .i64 F)/\W.cell? ⟨w.heap.size+1+1+1,0,none⟩=some (.int .i64 (k:Int))/\W.cell? ⟨w.heap.size,0,none⟩=some (.string s)
theorem YE {W W':World} {p:Addr} {v:Value} (h:W.cell? p=some v) (hb:Below W.heap.size W W'):W'.cell? p=some v:=(hb.cell (World.block_lt_of_cell? W p h)).trans h
theorem ScC.below {w:World} {s:ByteArray} {k:Nat} {b:Bool} {v:Value} {F:Int} {W W':World} (h:ScC w s k b v F W) (hb:Below W.heap.size W W'):ScC w s k b v F W':=
 ⟨YE h.1 hb,YE h.2.1 hb,YE h.2.2.1 hb,YE h.2.2.2.1 hb,YE h.2.2.2.2 hb⟩
theorem Z0e {W:World} {g i:Nat} {p:Addr} {v u:Value} (h:W.cell? p=some v) (hn:g≠p.block):(W.setCell ⟨g,i,none⟩ u).cell? p=some v:=by
 have hf:=((Fr.refl (only g) W).setCell (p:=⟨g,i,none⟩) (.inl rfl) u).cell (p:=p) (World.block_lt_of_cell? W p h) (λe=>hn e.symm);exact hf.trans h
theorem ScC.put3 {w:World} {s:ByteArray} {k:Nat} {b:Bool} {v:Value} {F:Int} {W:World} (h:ScC w s k b v F W) (x y z:Value):ScC w s k b v F (((W.setCell ⟨w.heap.size+1,0,none⟩ x).setCell ⟨w.heap.size+1,1,none⟩ y).setCell ⟨w.heap.size+1,2,none⟩ z):=by
 have go:∀ {W:World} (i:Nat) (u:Value),ScC w s k b v F W->ScC w s k b v F (W.setCell ⟨w.heap.size+1,i,none⟩ u):=λi u h=>
  ⟨Z0e h.1 (by simp),Z0e h.2.1 (by simp),Z0e h.2.2.1 (by simp),Z0e h.2.2.2.1 (by simp<;>omega),Z0e h.2.2.2.2 (by simp)⟩
 exact go 2 z (go 1 y (go 0 x h))
theorem Zc5 (s : ByteArray) (w : World) :
    Calls Tryz.prog 151 #[.string s] w λx w'=>Zc3 w w' ((scn cl1 (toL s)).map Xb) x:=by
  by_cases hs:s.size<=64
  · obtain⟨R,hR⟩:∃R,(scn cl1 (toL s)).map Xb=R:=⟨_,rfl⟩
    rw[hR];have LF:(toL s).length<=64:=(by rw[Z1];exact hs);have LG:(toL s).length=s.size:=Z1 s;rw[Zkk cl1 LF] at hR;have hk:=ZgX (L:=toL s) (k:=0) (Vat _);obtain⟨b,hb⟩:∃b,hitB [45] (toL s) 0=b:=⟨_,rfl⟩;obtain⟨k1,aZ⟩:∃k1,sgK (toL s) 0=k1:=⟨_,rfl⟩;have rj:sgK (toL s) 0=if hitB [45] (toL s) 0 then 0+1 else hitK [43] (toL s) 0:=rfl
    rw[hb,aZ] at hR rj;rw[aZ,LG] at hk;have zK:k1<=s.size:=hk.2;have Hb:=h_ hb;have so:=h_ rj;have HR:=h_ hR;have aT:=h_ (Zfg w s);have Hz:0<=s.size:=Vat _;clear hb aZ rj hR hk LF LG;go_enter Tryz.func151,Tryz.ntmps151;go_upto_if 22 with (go_at_call 194;refine((ScSt.one aT.o [45] Hz hs (by simp)).mono ?_);rintro x w1 ⟨rfl,h1⟩)
    rw[Hb.o];go_cut [] (λwx=>ScSt w wx s k1 b (.slice none 0 0) [] 0)
    case first=>
      cases b
      · have e0:hitK [45] (toL s) 0=0:=Z3R Hb.o
        rw[e0] at h1;have e1:k1=hitK [43] (toL s) 0:=so.o;have H1:=h_ h1;clear h1;go_wp2_with (go_at_call 194;refine((ScSt.one H1.o [43] Hz hs (by simp)).mono ?_);rintro x w2 ⟨rfl,h2⟩);rw[<-e1] at h2;have H2:=h_ h2;clear h2;go_meet;case rel=>exact H2.o
      · have e0:hitK [45] (toL s) 0=0+1:=Z1i Hb.o
        have e1:k1=0+1:=so.o;rw[e0,<-e1] at h1;have n0:=h1.bn.cell 0;have n1:=h1.bn.frozen 0;have h3:=h1.neg true;simp at n0;have H3:=h_ h3;clear h1 h3;go_wp2;go_meet;case rel=>exact H3.o
    case rest=>
      have H1:=h_ hcut;clear hcut h1 so;obtain⟨D,hD⟩:∃D,dfr ((toL s).drop k1)=D:=⟨_,rfl⟩;obtain⟨k2,cL⟩:∃k2,k1+D.length=k2:=⟨_,rfl⟩;have js:=Z6f (toL s) (k:=k1) (by rw[Z1];exact zK);rw[hD,Z1,cL] at js;have zL:k2<=s.size:=js;have tN:D.length<=64:=(by omega);have hR:=HR.o;rw[hD,cL] at hR
      have gR:Hid (∀(wx:World) (b':Bool) (v:Value) (E:List UInt8) (e:Int),ScSt w wx s k1 b' v E e->Calls Tryz.prog 195 #[.pointer (some ⟨w.heap.size+1+1+1,0,none⟩),.pointer (some ⟨w.heap.size,0,none⟩)] wx λx w'=>x=.returned (.string (bs D))/\ScSt w w' s k2 b' v E e):=h_ (λwx b' v E e h=>by
        have:=h.dig zK hs;rw[hD,cL] at this;exact this)
      clear hD cL js HR;go_upto_if 29 with (go_at_call 195;refine((gR.o _ _ _ _ _ H1.o).mono ?_);rintro x w2 ⟨rfl,h2⟩)
      clear gR H1 aT;by_cases nw:D=[]
      · rw[Vaf nw] at hR
        have kZ:Hid ((none:Option Num)=R):=h_ hR;have cB:(bs D).toList.isEmpty=true:=ZhM (by rw[Z0,nw];rfl);obtain⟨WF,gC,u0,u1,u2,ey⟩:=Zc4 h2;have n0:=h2.bn.cell 0;have n1:=h2.bn.cell 1;have n2:=h2.bn.cell 2;have r0:=h2.br.cell 0;have r1:=h2.br.cell 1;have r2:=h2.br.cell 2;have g0:=h2.br.frozen 0;have g1:=h2.br.frozen 1;have g2:=h2.br.frozen 2;simp at n0 n1 n2 r0 r1 r2;have jY:=h_ gC;have gQ:=h_ ey;rw[cB];clear hR nw gC ey cB h2;go_wp2;rw[jY.o];refine bodyPost_ret (by simp[results,Tryz.results151,go_sem,u0,u1,u2];try rfl) rfl ?_;rw[<-kZ.o];exact⟨_,_,rfl,gQ.o,⟨_,_,_,_,_,rfl⟩,rfl⟩
      · rw[Vad nw] at hR
        have HR:=h_ hR;have cB:(bs D).toList.isEmpty=false:=ZhN (by rw[Z0];exact List.length_pos_iff.2 nw);obtain⟨v3,w3,eU,eJ,h3⟩:=ZgZ h2 D (by simp;omega);obtain⟨A3,M3,c3,rfl⟩:=Zd h3.own;rw[Vbz] at h3;have n1:=h2.bn.cell 1;have m1:=eJ.cell 1;have f1:=eJ.frozen 1;simp at n1 m1;have H3:=h_ h3;have lS:=h_ eU;rw[cB];clear hR nw h2 h3 eU eJ cB;generalize bs D=SD at*
        go_upto_if 37 with (first
          |(at_builtin;refine Z1O (by with_reducible rfl) rfl _ _ _ _ rfl _ _ (by rfl) (by rfl) lS.o ?_)
          |(go_at_call 194;refine((ScSt.one H3.o [46] zL hs (by simp)).mono ?_);rintro x w4 ⟨rfl,h4⟩))
        clear n1 m1 f1 lS H3;go_cut [] (λwx=>∃v P k3,k3<=s.size/\P.length<=64/\Hid (frac ((toL s).drop k2)=some (P,(toL s).drop k3))/\ScSt w wx s k3 b v (D++P) (-(P.length:Int)))
        case first=>
          have pG:=Z91 (toL s) k2;by_cases ld:hitB [46] (toL s) k2=true
          · rw[Vaf ld] at pG
            rw[Z1i ld] at h4;have vz:k2+1<=s.size:=(by have:=ZgY ld;rw[Z1] at this;exact this);obtain⟨P,hP⟩:∃P,dfr ((toL s).drop (k2+1))=P:=⟨_,rfl⟩;obtain⟨k3,eJ⟩:∃k3,k2+1+P.length=k3:=⟨_,rfl⟩;have js:=Z6f (toL s) (k:=k2+1) (by rw[Z1];exact vz);rw[hP,Z1,eJ] at js;have Gn:P.length<=64:=(by omega);rw[hP,eJ] at pG
            have gR:Hid (∀(wx:World) (b':Bool) (v:Value) (E:List UInt8) (e:Int),ScSt w wx s (k2+1) b' v E e->Calls Tryz.prog 195 #[.pointer (some ⟨w.heap.size+1+1+1,0,none⟩),.pointer (some ⟨w.heap.size,0,none⟩)] wx λx w'=>x=.returned (.string (bs P))/\ScSt w w' s k3 b' v E e):=h_ (λwx b' v E e h=>by
              have:=h.dig vz hs;rw[hP,eJ] at this;exact this)
            have H4:=h_ h4;rw[ld];clear hP eJ h4 ld;by_cases ny:P=[]
            · rw[Vaf ny] at pG
              have hR:=HR.o;rw[pG] at hR;have kZ:Hid ((none:Option Num)=R):=h_ hR;have cB:(bs P).toList.isEmpty=true:=ZhM (by rw[Z0,ny];rfl);clear hR pG ny HR;go_upto_region 17 with (go_at_call 195;refine((gR.o _ _ _ _ _ H4.o).mono ?_);rintro x w5 ⟨rfl,h5⟩)
              obtain⟨WF,gC,u0,u1,u2,ey⟩:=Zc4 h5;have n0:=h5.bn.cell 0;have n1:=h5.bn.cell 1;have n2:=h5.bn.cell 2;have r0:=h5.br.cell 0;have r1:=h5.br.cell 1;have r2:=h5.br.cell 2;have g0:=h5.br.frozen 0;have g1:=h5.br.frozen 1;have g2:=h5.br.frozen 2;simp at n0 n1 n2 r0 r1 r2;have jY:=h_ gC;have gQ:=h_ ey;clear gC ey h5 gR H4;go_wp2;rw[jY.o];refine bodyPost_ret (by simp[results,Tryz.results151,go_sem,u0,u1,u2];try rfl) rfl ?_;rw[<-kZ.o];exact⟨_,_,rfl,gQ.o,⟨_,_,_,_,_,rfl⟩,rfl⟩
            · rw[Vad ny] at pG
              have Gp:=h_ pG;have cB:(bs P).toList.isEmpty=false:=ZhN (by rw[Z0];exact List.length_pos_iff.2 ny);clear pG ny;go_upto_region 18 with (go_at_call 195;refine((gR.o _ _ _ _ _ H4.o).mono ?_);rintro x w5 ⟨rfl,h5⟩)
              obtain⟨v6,w6,zM,zN,h6⟩:=ZgZ h5 P (by omega);obtain⟨A6,M6,c6,rfl⟩:=Zd h6.own;have n1:=h5.bn.cell 1;have m1:=zN.cell 1;have f1:=zN.frozen 1;have p2:=h6.bn.cell 2;have q2:=h6.bn.frozen 2;simp at n1 m1 p2;have h7:=h6.exp (-((bs P).size:Int));have H7:=h_ h7;have Gq:=h_ zM;have VN:(bs P).size<=64:=Gn;clear h5 zM zN h6 h7 gR H4;go_wp2_with (at_builtin;refine Z1O (by with_reducible rfl) rfl _ _ _ _ rfl _ _ (by rfl) (by rfl) Gq.o ?_);go_meet;case rel=>exact⟨_,P,k3,js,Gn,Gp,H7.o⟩
          · rw[Vad ld] at pG
            have y9:hitB [46] (toL s) k2=false:=(by simpa using ld);rw[Z3R y9] at h4;have Gp:=h_ pG;have H4:=h_ h4;rw[y9];clear pG ld y9 h4;go_wp2;go_meet;case rel=>exact⟨_,[],k2,zL,by simp,Gp,by simpa using H4.o⟩
        case rest=>
          obtain⟨v5,P,k3,zO,Gn,fa,aQ⟩:=hcut;obtain⟨A5,M5,c5,rfl⟩:=Zd aQ.own;have hR:=HR.o;rw[fa.o] at hR;simp only at hR;have dd:=h_ hR;have H5:=h_ aQ;clear hR HR aQ fa h4;go_upto_if 53 with (go_at_call 194;refine((ScSt.one H5.o [101,69] zO hs (by simp)).mono ?_);rintro x w6 ⟨rfl,h6⟩)
          go_cut [] (λwx=>∃E k4,k4<=s.size/\Hid (expo cl1 ((toL s).drop k3)=some (E,(toL s).drop k4))/\ScSt w wx s k4 b (.slice A5 M5 c5) (D++P) (E-(P.length:Int)))
          case first=>
            have gj:=Z2P cl1 (toL s) k3;by_cases hE:hitB [101,69] (toL s) k3=true
            · rw[Vaf hE] at gj
              rw[Z1i hE] at h6;have vA:k3+1<=s.size:=(by have:=ZgY hE;rw[Z1] at this;exact this);have vB:=(ZgX (L:=toL s) (k:=k3+1) (by rw[Z1];exact vA)).2;have rj:sgK (toL s) (k3+1)=if hitB [45] (toL s) (k3+1) then k3+1+1 else hitK [43] (toL s) (k3+1):=rfl
              obtain⟨bn,cS⟩:∃bn,hitB [45] (toL s) (k3+1)=bn:=⟨_,rfl⟩;obtain⟨k5,Gr⟩:∃k5,sgK (toL s) (k3+1)=k5:=⟨_,rfl⟩;rw[cS,Gr] at gj rj;rw[Gr,Z1] at vB;obtain⟨D3,zP⟩:∃D3,dfr ((toL s).drop k5)=D3:=⟨_,rfl⟩;obtain⟨k7,DL⟩:∃k7,k5+D3.length=k7:=⟨_,rfl⟩;have js:=Z6f (toL s) (k:=k5) (by rw[Z1];exact vB);rw[zP,Z1,DL] at js;have Rz:D3.length<=64:=(by omega);rw[zP,DL] at gj;have eK:Hid (AllD D3):=h_ (zP▸Z3x _)
              have gR:Hid (∀(wx:World) (b':Bool) (v:Value) (E:List UInt8) (e:Int),ScSt w wx s k5 b' v E e->Calls Tryz.prog 195 #[.pointer (some ⟨w.heap.size+1+1+1,0,none⟩),.pointer (some ⟨w.heap.size,0,none⟩)] wx λx w'=>x=.returned (.string (bs D3))/\ScSt w w' s k7 b' v E e):=h_ (λwx b' v E e h=>by
                have:=h.dig vB hs;rw[zP,DL] at this;exact this)
              have vC:=h_ cS;have so:=h_ rj;have H6:=h_ h6;have ya:=h_ gj;rw[hE];clear gj hE h6 cS Gr rj zP DL;go_upto_if 57 with (go_at_call 194;refine((ScSt.one H6.o [45] vA hs (by simp)).mono ?_);rintro x w7 ⟨rfl,h7⟩)
              rw[vC.o];go_cut [10] (λlh wx=>lh=.bool bn/\ScSt w wx s k5 b (.slice A5 M5 c5) (D++P) (-(P.length:Int)))
              case first=>
                cases bn
                · have e0:hitK [45] (toL s) (k3+1)=k3+1:=Z3R vC.o
                  rw[e0] at h7;have e1:k5=hitK [43] (toL s) (k3+1):=so.o;have H7:=h_ h7;clear h7 e0;go_wp2_with (go_at_call 194;refine((ScSt.one H7.o [43] vA hs (by simp)).mono ?_);rintro x w8 ⟨rfl,h8⟩);rw[<-e1] at h8;have H8:=h_ h8;clear h8;go_meet;case rel=>exact⟨rfl,H8.o⟩
                · have e0:hitK [45] (toL s) (k3+1)=k3+1+1:=Z1i vC.o
                  have e1:k5=k3+1+1:=so.o;rw[e0,<-e1] at h7;have H7:=h_ h7;clear h7 e0;go_wp2;go_meet;case rel=>exact⟨rfl,H7.o⟩
              case rest=>
                obtain⟨rfl,aQ⟩:=hcut;have H8:=h_ aQ;clear aQ h7 H6 H5 so vC;by_cases nw:D3=[]
                · have hR:=dd.o
                  have gj:=ya.o;rw[Vaf nw] at gj;rw[gj] at hR;have kZ:Hid ((none:Option Num)=R):=h_ hR;have cB:(bs D3).toList.isEmpty=true:=ZhM (by rw[Z0,nw];rfl);clear hR gj dd ya nw eK;go_upto_region 26 with (go_at_call 195;refine((gR.o _ _ _ _ _ H8.o).mono ?_);rintro x w9 ⟨rfl,h9⟩)
                  obtain⟨WF,gC,u0,u1,u2,ey⟩:=Zc4 h9;have n0:=h9.bn.cell 0;have n1:=h9.bn.cell 1;have n2:=h9.bn.cell 2;have r0:=h9.br.cell 0;have r1:=h9.br.cell 1;have r2:=h9.br.cell 2;have g0:=h9.br.frozen 0;have g1:=h9.br.frozen 1;have g2:=h9.br.frozen 2;simp at n0 n1 n2 r0 r1 r2;have jY:=h_ gC;have gQ:=h_ ey;clear gC ey h9 gR H8;go_wp2;rw[jY.o];refine bodyPost_ret (by simp[results,Tryz.results151,go_sem,u0,u1,u2];try rfl) rfl ?_;rw[<-kZ.o];exact⟨_,_,rfl,gQ.o,⟨_,_,_,_,_,rfl⟩,rfl⟩
                · have gj:=ya.o
                  rw[Vad nw] at gj;have zQ:=h_ gj;have cB:(bs D3).toList.isEmpty=false:=ZhN (by rw[Z0];exact List.length_pos_iff.2 nw);clear gj ya dd nw;go_upto_region 28 with (go_at_call 195;refine((gR.o _ _ _ _ _ H8.o).mono ?_);rintro x w9 ⟨rfl,h9⟩)
                  obtain⟨cp,W8,eD,ak,dq⟩:=Z3M D3 w9;have oR:=h9.keep dq;obtain⟨N3,Gs⟩:∃N,D3.length=N:=⟨_,rfl⟩;have zR:(bs D3).size=N3:=Gs
                  have hcell:∀i (h:i<N3),∃X:Nat,W8.cell? ⟨w9.heap.size,i,none⟩=some (.int .u8 (X:Int))/\48<=X/\X<=57/\cl1 (D3.take (i+1))=min 1048576 (10*cl1 (D3.take i)+(X-48)):=by
                    intro i hi;obtain⟨b',o',hA,eQ,hc⟩:=ak i (by rw[Vag];omega);injection hA with hA;injection hA with ll dM;subst ll;subst dM;rw[Vbo,Vcg] at hc;obtain⟨q1,q2,q3⟩:=Zkl (eK.o D3[i] (Vak _));exact⟨_,hc,q1,q2,by rw[Zfh D3 i (by omega),q3]⟩
                  have n2:=oR.bn.cell 2;have f2:=oR.bn.frozen 2;simp at n2;have pH:=h_ hcell;have RA:=h_ oR;have HN:=h_ Gs;rw[zR] at eD;clear ak dq h9 oR hcell gR H8 Gs zR eK;have RB:N3<=64:=(by have:=HN.o;omega);go_upto_region 29 with fail;go_loopw [12,68] (λjR Gt wr=>∃i:Nat,i<=N3/\jR=.int .i64 ((cl1 (D3.take i):Nat):Int)/\Gt=.int .i64 (i:Int)/\wr=W8) (λ_ Gt _=>(N3-intOf Gt).toNat);case atStart=>exact⟨0,Vat _,rfl,rfl,rfl⟩
                  case round=>
                    obtain⟨i,hi,rfl,rfl,rfl⟩:=hrel;obtain⟨c,hc⟩:∃c,cl1 (D3.take i)=c:=⟨_,rfl⟩;have iu:=Zh0 (D3.take i);rw[hc] at iu;by_cases ab:i<N3
                    · obtain⟨X,hX,q1,q2,q3⟩:=pH.o i ab
                      rw[hc] at q3;have Q3:=h_ q3;rw[hc];clear q3 hc n2 f2 pH;go_wp2;refine⟨⟨i+1,ab,?_,by go_num,by first|trivial|rfl⟩,?_⟩
                      · rw[Q3.out]
                        first
                          |(congr 1;omega)
                          |rfl
                      · simp[intOf]<;>omega
                    · have lp:i=N3:=by omega
                      have ay:D3.take i=D3:=Vah (by have:=HN.o;omega);rw[ay] at hc;have gj:=zQ.o;rw[hc] at gj;have zS:=h_ gj;have hex:Hid (∀e',ScSt w (wr.setCell ⟨w.heap.size+1+1,2,none⟩ (.int .i64 e')) s k7 b (.slice A5 M5 c5) (D++P) e'):=h_ (λe'=>RA.o.exp e');rw[ay,hc];subst lp;clear ay hc gj zQ pH HN;cases bn
                      · go_wp2
                        go_meet
                        case rel=>exact⟨_,k7,js,zS,by
                          have:=hex.o (-(P.length:Int)+(c:Int));rw[show sg false*(c:Int)-(P.length:Int)= -(P.length:Int)+(c:Int) by unfold sg;simp;omega];exact this⟩
                      · go_wp2
                        go_meet
                        case rel=>exact⟨_,k7,js,zS,by
                          have:=hex.o (-(P.length:Int)+ -(c:Int));rw[show sg true*(c:Int)-(P.length:Int)= -(P.length:Int)+ -(c:Int) by unfold sg;simp;omega];exact this⟩
            · rw[Vad hE] at gj
              have Gu:hitB [101,69] (toL s) k3=false:=(by simpa using hE);rw[Z3R Gu] at h6;have ya:=h_ gj;have H6:=h_ h6;rw[Gu];clear gj hE Gu h6 H5;go_wp2;go_meet;case rel=>exact⟨0,k3,zO,ya,by simpa using H6.o⟩
          case rest=>
            obtain⟨E,k4,vz,gj,aQ⟩:=hcut;obtain⟨ni,za⟩:=Zij gj.o;have hR:=dd.o;rw[gj.o] at hR;simp only at hR;obtain⟨N,hN⟩:∃N:Num,N=⟨b,D++P,E-(P.length:Int)⟩:=⟨_,rfl⟩;obtain⟨ad,zT⟩:Sz N/\Sz (Xb N):=Zii (by rw[hN];simp only;omega) (by rw[hN];simp only;omega) (by rw[hN];simp only[Vab];omega);obtain⟨A,cap,hv,ak,cq,dI⟩:=Zfi aQ.own;injection hv with bk bj ei;subst bk;subst bj;subst ei;have zU:NV wc (.agg #[.bool b,.slice A5 (D++P).length c5,.int .i64 (E-(P.length:Int))]) N:=⟨A5,c5,by rw[hN],by rw[hN];exact ak,by rw[hN];exact cq,dI⟩;have Gv:Hid (∀W,Below wc.heap.size wc W->Calls Tryz.prog 196 #[.agg #[.bool b,.slice A5 (D++P).length c5,.int .i64 (E-(P.length:Int))]] W λx w'=>∃v',x=.returned v'/\NV w' v' (Xb N)/\Below W.heap.size W w'):=h_ (λW h=>Zc0 (zU.below h) ad)
            have gd:(toL s).drop k4=[]↔k4=s.size:=by
              rw[List.drop_eq_nil_iff,Z1];omega
            have bR:Hid (∀(v':Value) (W:World),Below w.heap.size w W->NV W v' (Xb N)->Zc3 w W R (.returned (.tuple #[v',.bool (decide (k4=s.size))]))):=h_ (λv' W hW hn=>by
              refine⟨v',_,rfl,hW,?_,?_⟩
              · obtain⟨A',Gw,rfl,_⟩:=hn
                exact⟨_,_,_,_,_,rfl⟩
              · rw[<-hR]
                by_cases hz:k4=s.size
                · rw[Vaf (gd.2 hz),<-hN]
                  exact⟨by simpa using hz,hn,zT⟩
                · rw[Vad (λh=>hz (gd.1 h))]
                  simpa using hz)
            have aT:=h_ aQ;have n0:=aQ.bn.cell 0;have n1:=aQ.bn.cell 1;have n2:=aQ.bn.cell 2;have a0:=aQ.ba.cell 0;have s0:=aQ.bs_.cell 0;obtain⟨F,hF⟩:∃F,E-(P.length:Int)=F:=⟨_,rfl⟩;obtain⟨M,hM⟩:∃M,(D++P).length=M:=⟨_,rfl⟩;rw[hF] at n2 Gv;rw[hM] at n1 Gv;simp at n0 n1 n2 a0 s0;clear hR aQ ak zU zT ad hN gj dd hF hM ni za h6 H5 gd;have H1:ScC w s k4 b (.slice A5 M c5) F wc.drew:=⟨n0,n1,n2,a0,s0⟩;unfold ScC at H1;go_wp2
            go_region_held3 (λW=>W.cell? ⟨w.heap.size+1+1,0,none⟩=some (.bool b)/\W.cell? ⟨w.heap.size+1+1,1,none⟩=some (.slice A5 M c5)/\W.cell? ⟨w.heap.size+1+1,2,none⟩=some (.int .i64 F)/\W.cell? ⟨w.heap.size+1+1+1,0,none⟩=some (.int .i64 (k4:Int))/\W.cell? ⟨w.heap.size,0,none⟩=some (.string s)) (first|exact H1|assumption|exact ScC.below (by assumption) (by assumption)|exact ScC.put3 (by assumption) _ _ _)
              (first
                | (go_at_call 196; refine (Gv.o _ ((Vae _ _).drew)).mono ?_; rintro x w9 ⟨v', rfl, ⟨A', Gw, rfl, zV, DH, Gh⟩, eQ⟩
                   have lP:=aT.o.br.below (((Vae wc.heap.size wc).drew).trans eQ) aT.o.br.lt;have r0:=lP.cell 0;have r1:=lP.cell 1;have r2:=lP.cell 2;have g0:=lP.frozen 0;have g1:=lP.frozen 1;have g2:=lP.frozen 2;simp at r0 r1 r2;have RC:=h_ lP;have Gx:=h_ zV;clear lP zV))
            obtain⟨WF,gC,u0,u1,u2,gP,ey⟩:=Qt RC.o (aT.o.bel.trans (((Vae wc.heap.size wc).drew.trans eQ).mono aT.o.bel.size)) (by omega) Gx.o (Xb N).neg (.slice A' (Xb N).dg.length Gw) (Xb N).ex;have jY:=h_ gC;have pD:=h_ gP;have gQ:=h_ ey
            have hq:((k4:Int)==(s.size:Int))=decide (k4=s.size):=by
              rw[Vbl,beq_iff_eq,Vas];omega
            have Hq:=h_ hq;have RE:=h_ DH;have RF:=h_ Gh;clear gC gP ey hq DH Gh H1 n0 n1 n2 a0 s0 r0 r1 r2 g0 g1 g2 eQ;go_wp2;rw[jY.o];refine bodyPost_ret (by simp[results,Tryz.results151,go_sem,u0,u1,u2];try rfl) rfl ?_;rw[Hq.o];exact bR.o _ WF gQ.o ⟨A',Gw,rfl,pD.o,RE.o,RF.o⟩
  · have hn : scn cl1 (toL s) = none := by
      unfold scn;rw[Vaf (by rw[Z1];omega)]
    have Hn:=h_ hn;have cV:(64:Int)<(s.size:Int):=(by omega);have aJ:=h_ ((Z4G w (.cells #[.string s] 9) (.cells #[.bool false,.slice none 0 0,.int .i64 0] 197)).alloc (by simp<;>omega) (.cells #[.bool false,.slice none 0 0,.int .i64 0] 197));clear hn;go_enter Tryz.func151,Tryz.ntmps151;go_wp2;go_returns;rw[Hn.o];exact⟨_,_,rfl,aJ.o,⟨_,_,_,_,_,rfl⟩,rfl⟩
end Go.Proofs.YtchokmkfobandaaGreatDoor
