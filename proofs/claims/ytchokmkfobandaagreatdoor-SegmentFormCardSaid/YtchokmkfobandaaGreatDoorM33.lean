import Derived.Test.YtchokmkfobandaaGreatDoorM30
import Derived.Test.YtchokmkfobandaaGreatDoorM23
set_option linter.unusedVariables false
set_option linter.unusedSimpArgs false
set_option maxRecDepth 100000
set_option maxHeartbeats 8000000
namespace Go.Proofs.YtchokmkfobandaaGreatDoor
open Go.RowKit Go.Proofs Wv Wv.Vi Wv.Rc Wv.Mo Wv.Ru Wv.Bc
def gF {β:Type} (F:Nat->β) (z:β) (n i:Nat):List β:=(List.range i).map F++List.replicate (n-i) z
theorem Zha {β:Type} (F:Nat->β) (z:β) (n i:Nat) (h:i<=n):(gF F z n i).length=n:=by
 unfold gF;rw[Vab,Vag,Vbv,Vaw];omega
theorem Zhb {β:Type} (F:Nat->β) (z:β) (n i:Nat) (h:i<n):(gF F z n i).set i (F i)=gF F z n (i+1):=by
 unfold gF;rw[Va8 _ _ (by rw[Vag,Vbv];exact UZz),Vag,Vbv,Va7,show n-i=(n-(i+1))+1 by omega,Vbg,List.set_cons_zero,Vcp,Vbk,Vay];rfl
theorem Zhc {β:Type} (F:Nat->β) (z:β) (n:Nat):gF F z n n=(List.range n).map F:=by
 unfold gF;rw[Va7,List.replicate_zero,Va3]
theorem gF_0 {β:Type} (F:Nat->β) (z:β) (n:Nat):gF F z n 0=List.replicate n z:=rfl
def chAt (L:List Bool) (i:Nat):UInt8:=ch (2*(L.getD (2*i) false).toNat+(L.getD (2*i+1) false).toNat)
theorem getD_drop (L:List Bool) (a i:Nat):(L.drop a).getD i false=L.getD (a+i) false:=by
 rw[Vbn,Vbn,List.getElem?_drop]
theorem Z2g (L:List Bool) (k:Nat):valOf k L=(List.range k).map (chAt L):=by
 induction k generalizing L with
 |zero=>rfl
 |succ k ih=>
  rw[valOf,ih,List.range_succ_eq_map,Vci,Vb7];congr 1;apply List.map_congr_left;intro i _;show chAt (L.drop 2) i=chAt L (i+1);unfold chAt;rw[getD_drop,getD_drop,show 2+2*i=2*(i+1) by omega,show 2+(2*i+1)=2*(i+1)+1 by omega]
theorem Z5u (L:List Bool) (m n:Nat):QJ m n L=(List.range n).map (λj=>bs (valOf m (L.drop (2*m*j)))):=by
 induction n generalizing L with
 |zero=>rfl
 |succ n ih=>
  rw[QJ,ih,List.range_succ_eq_map,Vci,Vb7];congr 1;apply List.map_congr_left;intro j _;show bs (valOf m ((L.drop (2*m)).drop (2*m*j)))=bs (valOf m (L.drop (2*m*(j+1))));rw[Vcy,show 2*m+2*m*j=2*m*(j+1) by rw[Vdg,Vcv,Vdh]]
theorem ZiQ {L:List Bool} (h:2<=L.length):Bit.getm 0 2 3 L=(L.drop 2,2*(L.getD 0 false).toNat+(L.getD 1 false).toNat,0):=by
 match L,h with
 |a::b::r,_=>cases a<;>cases b<;>rfl
theorem ZkF (a b:Bool):2*a.toNat+b.toNat<4:=by cases a<;>cases b<;>decide
theorem ZiR {w:World} {g:Nat} {t:TypeId} {l:List UInt8} (h:Bk w g t (l.map bv).toArray) (i:Nat) (x:UInt8):Bk (w.setCell ⟨g,i,none⟩ (.int .u8 (x.toNat:Int))) g t ((l.set i x).map bv).toArray:=by
 have:=h.put i (bv x);rw[List.setIfInBounds_toArray] at this;rw[List.map_set];exact this
theorem Zg9 {w:World} {b x n a:Nat} {s:ByteArray} (h:Bio.RdAt w b s x n) (hx:(Bit.rbits s n).drop x=(Bit.rbits s n).drop a) (ha:a+2<=n):
  Calls Tryz.prog 204 #[.pointer (some ⟨b,0,none⟩),.int .i64 0,.int .i64 2,.int .i64 3] w λe w'=>∃y,e=.returned (.tuple #[.int .i64 ((2*((Bit.rbits s n).getD a false).toNat+((Bit.rbits s n).getD (a+1) false).toNat:Nat):Int),.int .i64 0])/\Bio.RdAt w' b s y n/\Fr (only b) w w'/\(Bit.rbits s n).drop y=(Bit.rbits s n).drop (a+2):=by
 have hg:=Bio.get0 h 2 3 (by omega) (by omega);have hlen:2<=((Bit.rbits s n).drop a).length:=(by rw[Va2,Bit.rbits_length];omega);rw[hx,ZiQ hlen] at hg;rw[getD_drop,getD_drop,Vb3,Vcy] at hg;refine hg.mono ?_;rintro e w1 ⟨y,rfl,h1,h2,h3⟩;exact⟨y,rfl,h1,h2,h3.symm⟩
theorem Bio.RdAt.off {w:World} {b x n:Nat} {s:ByteArray} (h:Bio.RdAt w b s x n) {p:Addr} (hp:b≠p.block) (u:Value):Bio.RdAt (w.setCell p u) b s x n:=⟨h.1.off hp u,h.2⟩
theorem Z0P {s:List UInt8} {n:Nat} {r:List UInt8} (h:rnum s 4096=some (n,r)):numR (bs s) 0 4096=(n,bs r,0)/\n<=4096/\r.length<=s.length:=Zp h
theorem Z9u {w:World} {b:Nat} {s:ByteArray} (h:RV w b s 0) (hs:s.size<=1000000000) (W:Int) (dC:rnum (toL s) 4096=none):
  Calls Tryz.prog 156 #[.agg #[.int .i64 W],.pointer (some ⟨b,0,none⟩)] w λx w'=>RdrR b w none x w':=by
 obtain⟨e,he,ef⟩:=Y4 dC;rw[Za,show(((4096:Nat):Int))=4096 from rfl] at ef;have ab:=Bk.lt h;have h0:RV (w.alloc (.cells #[.int .i64 W] 127)) b s 0:=Bk.alloc h _;have aD:=Zx w (.cells #[.int .i64 W] 127);have HN:=h_ (Zi h0 (by omega) 4096);rw[ef] at HN;have HL:=h_ (λW2 (h:RV W2 b s e)=>Zt h (by omega));have HT:=h_ (λW2 (h:RV W2 b s e)=>Zu h (by omega) (s.size:Int));rw[Z1W he] at HT;have HE:=h_ (λW2 (h:RV W2 b s e)=>Zb h);have HR:=h_ (λW2=>Bio.newreader_none (bs []) W2 (by rw[Z0];simp) (by rw[Z0];simp) (by rfl));have hz:bs ([]:List UInt8)=⟨#[]⟩:=rfl;rw[hz] at HT HR;have ay:(((e:Nat):Int) !=0)=true:=(by rw[Va1];omega);have aP:=h_ aD;clear h0 aD hz ef dC h he;go_enter Tryz.func156,Tryz.ntmps156;go_wp2_with fail;refine(HN.o).mono ?_;rintro x w1 ⟨rfl,bq,aC⟩;have qC:=h_ (HL.o w1 bq);have nf:=h_ (HT.o w1 bq);have cS:=h_ ((Fr.of_below (S:=only b) aP.o).trans aC);clear bq aC HN HL HT aP;go_wp2_with fail;refine(qC.o).mono ?_;rintro x w2 ⟨rfl,rfl⟩;clear qC;go_wp2_with fail;refine(nf.o).mono ?_;rintro x w2 ⟨rfl,bm,ai⟩;have cl:=h_ (cS.o.trans ai);have fa:=h_ bm;clear nf cS bm ai;go_wp2_with fail;refine(HR.o _).mono ?_;rintro x w3 ⟨rfl,af⟩;have gM:=h_ (cl.o.below af);have eu:RV w3 b s e:=Bk.below fa.o af (Bk.lt fa.o);have We:=h_ (HE.o w3 eu);have oH:=h_ (λq=>HE.o (w3.drewN q) eu);clear af cl fa HE eu;go_wp2;go_quiet ((go_at_call 87;first|exact Wv.q1 (oH.o _)|exact Wv.q2 (oH.o _)));go_wp2;go_returns;exact⟨gM.o.drewN _,_,rfl⟩
theorem Z6K {w:World} {b n:Nat} {s:ByteArray} {r:List UInt8} (h:RV w b s 0) (hs:s.size<=1000000000) (W:Int) (dP:rnum (toL s) 4096=some (n,r)) (dC:Bit.nrd (bs r)=none):
  Calls Tryz.prog 156 #[.agg #[.int .i64 W],.pointer (some ⟨b,0,none⟩)] w λx w'=>RdrR b w none x w':=by
 obtain⟨ef,bf,df⟩:=Z0P dP;rw[Za] at ef;rw[Z1] at df;have ab:=Bk.lt h;have h0:RV (w.alloc (.cells #[.int .i64 W] 127)) b s 0:=Bk.alloc h _;have aD:=Zx w (.cells #[.int .i64 W] 127);have ad:(bs r).size<=1000000000:=(by rw[Z0];omega);have HN:=h_ (Zi h0 (by omega) 4096);rw[ef] at HN;have HL:=h_ (λW2 (h:RV W2 b (bs r) 0)=>Zt h (by omega));have HT:=h_ (λW2 (h:RV W2 b (bs r) 0)=>Zu h (by omega) ((bs r).size:Int));rw[Z0q] at HT;have HE:=h_ (λW2 (h:RV W2 b (bs []) 0)=>Zb h);have HR:=h_ (λW2=>Bio.newreader_none (bs r) W2 (by omega) (by omega) dC);have aP:=h_ aD;have Wf:((12:Int) !=0)=true:=(by decide);generalize bs r=S at*;clear h0 aD ef dC h dP;go_enter Tryz.func156,Tryz.ntmps156;go_wp2_with fail;refine(HN.o).mono ?_;rintro x w1 ⟨rfl,bq,aC⟩;have qC:=h_ (HL.o w1 bq);have nf:=h_ (HT.o w1 bq);have cS:=h_ ((Fr.of_below (S:=only b) aP.o).trans aC);clear bq aC HN HL HT aP;go_wp2_with fail;refine(qC.o).mono ?_;rintro x w2 ⟨rfl,rfl⟩;clear qC;go_wp2_with fail;refine(nf.o).mono ?_;rintro x w2 ⟨rfl,bm,ai⟩;have cl:=h_ (cS.o.trans ai);have fa:=h_ bm;clear nf cS bm ai;go_wp2_with fail;refine(HR.o _).mono ?_;rintro x w3 ⟨rfl,af⟩;have gM:=h_ (cl.o.below af);have eu:RV w3 b (bs []) 0:=Bk.below fa.o af (Bk.lt fa.o);have oH:=h_ (λq=>HE.o (w3.drewN q) eu);clear af cl fa HE eu;go_wp2;go_quiet ((go_at_call 87;first|exact Wv.q1 (oH.o _)|exact Wv.q2 (oH.o _)));go_wp2;go_returns;exact⟨gM.o.drewN _,_,rfl⟩
theorem Z6L {w:World} {b n k m:Nat} {s:ByteArray} {r:List UInt8} (h:RV w b s 0) (hs:s.size<=1000000000) (hm:m<=128) (dP:rnum (toL s) 4096=some (n,r)) (hk:Bit.nrd (bs r)=some k) (ay:¬k=2*n*m):
  Calls Tryz.prog 156 #[.agg #[.int .i64 (m:Int)],.pointer (some ⟨b,0,none⟩)] w λx w'=>RdrR b w none x w':=by
 obtain⟨ef,bf,df⟩:=Z0P dP;rw[Za] at ef;rw[Z1] at df;have ab:=Bk.lt h;have h0:RV (w.alloc (.cells #[.int .i64 (m:Int)] 127)) b s 0:=Bk.alloc h _;have aD:=Zx w (.cells #[.int .i64 (m:Int)] 127);have bP:=Bk.new w 127 #[.int .i64 (m:Int)];have ad:(bs r).size<=1000000000:=(by rw[Z0];omega);have zT:=(Bit.nrd_le hk).1;have HN:=h_ (Zi h0 (by omega) 4096);rw[ef] at HN;have HL:=h_ (λW2 (h:RV W2 b (bs r) 0)=>Zt h (by omega));have HT:=h_ (λW2 (h:RV W2 b (bs r) 0)=>Zu h (by omega) ((bs r).size:Int));rw[Z0q] at HT;have HE:=h_ (λW2 (h:RV W2 b (bs []) 0)=>Zb h);have HR:=h_ (λW2=>Bio.newreader_some (bs r) W2 k hk);have aP:=h_ aD;have iR:=h_ bP;obtain⟨T,hT⟩:∃T,2*n*m=T:=⟨_,rfl⟩
 have U6:T<=1048576:=by
  rw[<-hT];have:=Nat.mul_le_mul (Nat.mul_le_mul (Vaa 2) bf) hm;omega
 have i1:IntKind.i64.wrap (2*(n:Int))=2*(n:Int):=IntWalk.i64_in _ (by omega)
 have i2:IntKind.i64.wrap (2*(n:Int)*(m:Int))=(T:Int):=by
  have:2*(n:Int)*(m:Int)=(T:Int):=(by rw[<-hT,Vb1,Vb1];rfl);rw[this,IntWalk.i64_in _ (by omega)]
 rw[hT] at ay;have U7:((k:Int) !=(T:Int))=true:=(by rw[Va1];omega);have iW:=h_ ab;have I1:=h_ i1;have I2:=h_ i2;generalize bs r=S at*;clear h0 aD bP ef hk h dP hT i1 i2 ab;go_enter Tryz.func156,Tryz.ntmps156;go_wp2_with fail;refine(HN.o).mono ?_;rintro x w1 ⟨rfl,bq,aC⟩;have qC:=h_ (HL.o w1 bq);have nf:=h_ (HT.o w1 bq);have cS:=h_ ((Fr.of_below (S:=only b) aP.o).trans aC);have fL:=h_ (iR.o.fr aC (by have:=iW.o;unfold only;omega));clear bq aC HN HL HT aP iR;go_wp2_with fail;refine(qC.o).mono ?_;rintro x w2 ⟨rfl,rfl⟩;clear qC;go_wp2_with fail;refine(nf.o).mono ?_;rintro x w2 ⟨rfl,bm,ai⟩;have cl:=h_ (cS.o.trans ai);have il:=h_ (fL.o.fr ai (by have:=iW.o;unfold only;omega));have fa:=h_ bm;clear nf cS bm ai fL;go_wp2_with fail;refine(HR.o _).mono ?_;rintro x w3 ⟨rfl,eV,af⟩;have gM:=h_ (cl.o.below af);have eu:RV w3 b (bs []) 0:=Bk.below fa.o af (Bk.lt fa.o);have fE:w3.cell? ⟨w.heap.size,0,none⟩=some (.int .i64 (m:Int)):=(il.o.below af il.o.lt).cell 0;have oH:=h_ (λq=>HE.o (w3.drewN q) eu)
 have yH:=h_ (λq=>(show Calls Tryz.prog 203 #[.pointer (some ⟨w2.heap.size,0,none⟩)] (w3.drewN q) λe w'=>e=.returned (.int .i64 (k:Int))/\∃p,w'=(w3.drewN q).drewN p by
  have:=Bio.left_any (w:=w3.drewN q) (show Bio.RdAt (w3.drewN q) w2.heap.size S 0 k from eV)
  rwa [show((k:Int)-((0:Nat):Int))=(k:Int) by omega] at this))
 generalize w2.heap.size=BB at*;clear af cl fa HE eu il eV;have i1:=I1.out;have i2:=I2.out;go_wp2
 go_quiet (first
  |(go_at_call 87;first|exact Wv.q1 (oH.o _)|exact Wv.q2 (oH.o _))
  |(go_at_call 203;first|exact Wv.q3 (yH.o _)|exact Wv.q4 (yH.o _)))
 clear i1 i2;go_wp2;go_returns;exact⟨gM.o.drewN _,_,rfl⟩
theorem Z6M {w:World} {b n k m:Nat} {s:ByteArray} {r:List UInt8} (h:RV w b s 0) (hs:s.size<=1000000000) (dH:1<=m) (hm:m<=128) (dP:rnum (toL s) 4096=some (n,r)) (hk:Bit.nrd (bs r)=some k) (ay:k=2*n*m):
  Calls Tryz.prog 156 #[.agg #[.int .i64 (m:Int)],.pointer (some ⟨b,0,none⟩)] w λx w'=>RdrR b w (some (QJ m n (Bit.rbits (bs r) k))) x w':=by
 obtain⟨ef,bf,df⟩:=Z0P dP;rw[Za] at ef;rw[Z1] at df;have ab:=Bk.lt h;have h0:RV (w.alloc (.cells #[.int .i64 (m:Int)] 127)) b s 0:=Bk.alloc h _;have aD:=Zx w (.cells #[.int .i64 (m:Int)] 127);have bP:=Bk.new w 127 #[.int .i64 (m:Int)];have ad:(bs r).size<=1000000000:=(by rw[Z0];omega);have zT:=(Bit.nrd_le hk).1;rw[Z5u];have nB:k=n*(2*m):=(by rw[ay,Vbu 2 n,Vb4]);have IS:=h_ nB;have HN:=h_ (Zi h0 (by omega) 4096);rw[ef] at HN;have HL:=h_ (λW2 (h:RV W2 b (bs r) 0)=>Zt h (by omega));have HT:=h_ (λW2 (h:RV W2 b (bs r) 0)=>Zu h (by omega) ((bs r).size:Int));rw[Z0q] at HT;have HE:=h_ (λW2 (h:RV W2 b (bs []) 0)=>Zb h);have HR:=h_ (λW2=>Bio.newreader_some (bs r) W2 k hk);have aP:=h_ aD;have iR:=h_ bP;obtain⟨T,hT⟩:∃T,2*n*m=T:=⟨_,rfl⟩
 have U6:T<=1048576:=by
  rw[<-hT];have:=Nat.mul_le_mul (Nat.mul_le_mul (Vaa 2) bf) hm;omega
 have i1:IntKind.i64.wrap (2*(n:Int))=2*(n:Int):=IntWalk.i64_in _ (by omega)
 have i2:IntKind.i64.wrap (2*(n:Int)*(m:Int))=(T:Int):=by
  have:2*(n:Int)*(m:Int)=(T:Int):=(by rw[<-hT,Vb1,Vb1];rfl);rw[this,IntWalk.i64_in _ (by omega)]
 rw[hT] at ay;have U7:((k:Int) !=(T:Int))=false:=(by rw[ay];exact Vca _);clear ay;have iW:=h_ ab;have I1:=h_ i1;have I2:=h_ i2;generalize bs r=S at*;clear h0 aD bP ef hk h dP hT i1 i2 ab nB;go_enter Tryz.func156,Tryz.ntmps156;go_wp2_with fail;refine(HN.o).mono ?_;rintro x w1 ⟨rfl,bq,aC⟩;have qC:=h_ (HL.o w1 bq);have nf:=h_ (HT.o w1 bq);have cS:=h_ ((Fr.of_below (S:=only b) aP.o).trans aC);have fL:=h_ (iR.o.fr aC (by have:=iW.o;unfold only;omega));clear bq aC HN HL HT aP iR;go_wp2_with fail;refine(qC.o).mono ?_;rintro x w2 ⟨rfl,rfl⟩;clear qC;go_wp2_with fail;refine(nf.o).mono ?_;rintro x w2 ⟨rfl,bm,ai⟩;have cl:=h_ (cS.o.trans ai);have il:=h_ (fL.o.fr ai (by have:=iW.o;unfold only;omega));have fa:=h_ bm;clear nf cS bm ai fL;go_wp2_with fail;refine(HR.o _).mono ?_;rintro x w3 ⟨rfl,eV,af⟩;have gM:=h_ (cl.o.below af);have eu:RV w3 b (bs []) 0:=Bk.below fa.o af (Bk.lt fa.o);have fE:w3.cell? ⟨w.heap.size,0,none⟩=some (.int .i64 (m:Int)):=(il.o.below af il.o.lt).cell 0;have oH:=h_ (λq=>HE.o (w3.drewN q) eu)
 have yH:=h_ (λq=>(show Calls Tryz.prog 203 #[.pointer (some ⟨w2.heap.size,0,none⟩)] (w3.drewN q) λe w'=>e=.returned (.int .i64 (k:Int))/\∃p,w'=(w3.drewN q).drewN p by
  have:=Bio.left_any (w:=w3.drewN q) (show Bio.RdAt (w3.drewN q) w2.heap.size S 0 k from eV)
  rwa [show((k:Int)-((0:Nat):Int))=(k:Int) by omega] at this))
 have NT:w.heap.size<w2.heap.size:=Va5 il.o.lt UZz;have NU:w2.heap.size<w3.heap.size:=eV.1.lt;have vr:=h_ (il.o.below af il.o.lt);generalize w2.heap.size=BB at*;have lS:=h_ eV;clear af cl fa HE eu il eV;have i1:=I1.out;have i2:=I2.out;go_wp2
 go_quiet (first
  |(go_at_call 87;first|exact Wv.q1 (oH.o _)|exact Wv.q2 (oH.o _))
  |(go_at_call 203;first|exact Wv.q3 (yH.o _)|exact Wv.q4 (yH.o _)))
 clear i1 i2 oH yH I1 I2;have cH:Hid (Fr (only b) w (w3.drewN nq)):=h_ (gM.o.drewN nq);have mo:Hid (Bio.RdAt (w3.drewN nq) BB S 0 k):=h_ lS.o;have NW:Hid (Bk (w3.drewN nq) w.heap.size 127 #[.int .i64 (m:Int)]):=h_ vr.o;have wY:BB<(w3.drewN nq).heap.size:=NU;clear gM lS vr fE NU;generalize w3.drewN nq=W4 at*;have bG:=Yi (P:=Tryz.prog) 64 9 (.string ⟨#[]⟩) 16 Tryz.underlying64 YC rfl (n:Int) n rfl (by omega) (by omega) W4;have qs:=h_ (Bk.new W4 9 (Array.replicate n (.string ⟨#[]⟩)));have sw:=h_ (cH.o.alloc (.cells (Array.replicate n (.string ⟨#[]⟩)) 9));have su:=h_ (mo.o.alloc (.cells (Array.replicate n (.string ⟨#[]⟩)) 9));have NX:=h_ (NW.o.alloc (.cells (Array.replicate n (.string ⟨#[]⟩)) 9))
 have fP:Array.replicate n (.string ⟨#[]⟩:Value)=(svs (gF (λj=>bs (valOf m ((Bit.rbits S k).drop (2*m*j)))) ⟨#[]⟩ n 0)).toArray:=by
  rw[gF_0];unfold svs;rw[List.map_replicate];rfl
 have jQ:=h_ fP;obtain⟨G,hG⟩:∃G,W4.heap.size=G:=⟨_,rfl⟩;rw[hG] at bG qs wY;generalize W4.alloc (.cells (Array.replicate n (.string ⟨#[]⟩)) 9)=W5 at*;rw[jQ.o] at qs;have Ex:=h_ wY;have Ey:=h_ NT;obtain⟨L,hL⟩:∃L,Bit.rbits S k=L:=⟨_,rfl⟩;have Cj:=h_ hL;rw[hL] at qs;clear cH mo NW fP jQ hG wY NT hL;go_wp2;go_loopw [46] (λqD wr=>∃j x:Nat,j<=n/\qD=.int .i64 (j:Int)/\Hid (Bio.RdAt wr BB S x k)/\Hid (L.drop x=L.drop (2*m*j))/\Hid (Bk wr G 9 (svs (gF (λj=>bs (valOf m (L.drop (2*m*j)))) ⟨#[]⟩ n j)).toArray)/\Hid (Bk wr w.heap.size 127 #[.int .i64 (m:Int)])/\Hid (Fr (only b) w wr)) (λqD _=>(n-intOf qD).toNat);case atStart=>exact⟨0,0,Var _,rfl,su,h_ (by rw[Nat.mul_zero]),qs,NX,sw⟩
 case round=>
  clear su qs NX sw bG;obtain⟨j,x,hj,rfl,cJ,wZ,hk,fh,hf⟩:=hrel;by_cases ab:j<n
  ·have NY:=Yi (P:=Tryz.prog) 115 5 (.int .u8 0) 1 Tryz.underlying115 (by kernel_rfl) rfl (m:Int) m rfl (by omega) (by omega) wr;have vR:wr.cell? ⟨w.heap.size,0,none⟩=some (.int .i64 (m:Int)):=fh.o.cell 0
   have po:Array.replicate m (.int .u8 0:Value)=((gF (chAt (L.drop (2*m*j))) 0 m 0).map bv).toArray:=by
    rw[gF_0,List.map_replicate];rfl
   have dd:=Bk.new wr 5 (Array.replicate m (.int .u8 0));have Ck:=h_ (cJ.o.alloc (.cells (Array.replicate m (.int .u8 0)) 5));have NZ:=h_ (hk.o.alloc (.cells (Array.replicate m (.int .u8 0)) 5));have Cl:=h_ (fh.o.alloc (.cells (Array.replicate m (.int .u8 0)) 5));have O0:=h_ (hf.o.alloc (.cells (Array.replicate m (.int .u8 0)) 5));have O1:=hk.o.lt;have O2:=hf.o.size;obtain⟨H,hH⟩:∃H,wr.heap.size=H:=⟨_,rfl⟩;have Ez:=h_ dd;have EA:=h_ po;have O3:=h_ (show w.heap.size<=H by rw[<-hH];exact O2);have O4:=h_ (show G<H by rw[<-hH];exact O1);rw[hH] at NY Ez;generalize wr.alloc (.cells (Array.replicate m (.int .u8 0)) 5)=W6 at*;rw[EA.o] at Ez;clear dd po EA O1 O2 hH cJ hk fh hf;go_wp2;go_loopw [54] (λJb wx=>∃i x:Nat,i<=m/\Jb=.int .i64 (i:Int)/\Hid (Bio.RdAt wx BB S x k)/\Hid (L.drop x=L.drop (2*m*j+2*i))/\Hid (Bk wx H 5 ((gF (chAt (L.drop (2*m*j))) 0 m i).map bv).toArray)/\Hid (Bk wx G 9 (svs (gF (λj=>bs (valOf m (L.drop (2*m*j)))) ⟨#[]⟩ n j)).toArray)/\Hid (Bk wx w.heap.size 127 #[.int .i64 (m:Int)])/\Hid (Fr (only b) w wx)) (λJb _=>(m-intOf Jb).toNat);case atStart=>exact⟨0,x,Var _,rfl,Ck,h_ (by exact wZ.o),Ez,NZ,Cl,O0⟩
   case round=>
    clear Ck Ez NZ Cl O0 NY vR wZ;obtain⟨i,x,hi,rfl,cJ,wZ,dd,hk,fh,hf⟩:=hrel;by_cases bS:i<m
    ·have vh:2*m*j+2*i+2<=k:=by
      rw[IS.o];have h1:(j+1)*(2*m)<=n*(2*m):=Vb2 _ ab;rw[Vc8,Nat.one_mul,Vbu j] at h1;omega
     have HG:=h_ (Zg9 cJ.o (by rw[Cj.o];exact wZ.o) vh);rw[Cj.o] at HG;have eH:=ZkF (L.getD (2*m*j+2*i) false) (L.getD (2*m*j+2*i+1) false)
     have Jc:chAt (L.drop (2*m*j)) i=ch (2*(L.getD (2*m*j+2*i) false).toNat+(L.getD (2*m*j+2*i+1) false).toNat):=by
      unfold chAt;rw[getD_drop,getD_drop];rfl
     obtain⟨cv,Cm⟩:∃cv,2*(L.getD (2*m*j+2*i) false).toNat+(L.getD (2*m*j+2*i+1) false).toNat=cv:=⟨_,rfl⟩;rw[Cm] at HG eH Jc;have HC:=h_ (λW2=>Z7u cv eH W2);have aZ:=h_ (Zhb (chAt (L.drop (2*m*j))) 0 m i bS);rw[Jc] at aZ;have hlen:=Zha (chAt (L.drop (2*m*j))) 0 m i hi;have av:=h_ (show i<(gF (chAt (L.drop (2*m*j))) 0 m i).length by rw[hlen];exact bS);obtain⟨cc,ju⟩:∃cc,ch cv=cc:=⟨_,rfl⟩;rw[ju] at HC aZ;have iS:(0:Int)<=(i:Int):=(by omega);have gh:(i:Int)<(m:Int):=(by omega);clear vh eH Jc Cm hlen ju cJ wZ;go_wp2_with fail;refine(HG.o).mono ?_;rintro e w1 ⟨y,rfl,Cn,aC,O5⟩;have n1:=Ex.o;have n2:=Ey.o;have n3:=O4.o;have n4:=O3.o;have sV:=h_ (dd.o.fr aC (by unfold only;omega));have ft:=h_ (hk.o.fr aC (by unfold only;omega));have qd:=h_ (fh.o.fr aC (by unfold only;omega));have cS:=h_ (hf.o.trans' aC (λq hq e=>by unfold only at e;omega));have Co:=h_ Cn;have O6:=h_ O5;clear Cn aC O5 HG dd hk fh hf n1 n2 n3 n4;go_wp2_with fail;refine(HC.o _).mono ?_;rintro e w2 ⟨rfl,rfl⟩;have hcell:=sV.o.cell i;rw[Vbf,Vbc,Vao av.o] at hcell;have fj:=sV.o.frozen i;have aj:=ZiR sV.o i cc;rw[aZ.o] at aj;have n1:=Ex.o;have n2:=Ey.o;have n3:=O4.o;have n4:=O3.o;have az:=h_ aj;have ox:=h_ (ft.o.off (p:=⟨H,i,none⟩) (by simp only;omega) (.int .u8 (cc.toNat:Int)));have nL:=h_ (qd.o.off (p:=⟨H,i,none⟩) (by simp only;omega) (.int .u8 (cc.toNat:Int)));have fO:=h_ (Bio.RdAt.off Co.o (p:=⟨H,i,none⟩) (by simp only;omega) (.int .u8 (cc.toNat:Int)));have cl:=h_ (cS.o.setCell (p:=⟨H,i,none⟩) (.inr n4) (.int .u8 (cc.toNat:Int)));have sW:=h_ (show L.drop y=L.drop (2*m*j+2*(i+1)) by rw[O6.o];rfl);generalize (gF (chAt (L.drop (2*m*j))) 0 m i)[i]=OLD at*;clear aj sV ft qd cS Co O6 HC aZ av n1 n2 n3 n4;go_wp2;go_roundw;case rel=>first|exact⟨i+1,y,bS,by go_num,fO,sW,az,ox,nL,cl⟩|((repeat apply Exists.intro);exact⟨⟨i+1,y,bS,by go_num,fO,sW,az,ox,nL,cl⟩,rfl⟩)
     case measure=>simp[intOf]<;>omega
    ·have yk:i=m:=(by omega);subst yk;have ja:=dd.o;rw[Zhc,<-Z2g] at ja;have O7:(valOf i (L.drop (2*i*j))).length=i:=(by rw[Z2g,Vag,Vbv])
     have jb:=run_convert_bytes_back (P:=Tryz.prog) wr 115 9 5 ⟨H,0,none⟩ i (valOf i (L.drop (2*i*j))) Tryz.underlying115 Tryz.underlying5 Tryz.underlying9 (λq hq=>by
      rw[Go.WideShapes.add_plain,Vbo,ja.cell q,Vbf,Vbc,Vao hq];rfl)
     rw[O7] at jb;have iu:(⟨(valOf i (L.drop (2*i*j))).toArray⟩:ByteArray)=bs (valOf i (L.drop (2*i*j))):=rfl;rw[iu] at jb;have aZ:=h_ (Zhb (λj=>bs (valOf i (L.drop (2*i*j)))) ⟨#[]⟩ n j ab);have hlen:=Zha (λj=>bs (valOf i (L.drop (2*i*j)))) ⟨#[]⟩ n j hj;have av:=h_ (show j<(gF (λj=>bs (valOf i (L.drop (2*i*j)))) ⟨#[]⟩ n j).length by rw[hlen];exact ab);have hcell:=hk.o.cell j;rw[Vbf,Ys _ _ av.o] at hcell;have fj:=hk.o.frozen j;have n1:=Ex.o;have n2:=Ey.o;have aj:=Z26 hk.o j (bs (valOf i (L.drop (2*i*j))));rw[aZ.o] at aj;have az:=h_ aj;obtain⟨ST,x6⟩:∃s,bs (valOf i (L.drop (2*i*j)))=s:=⟨_,rfl⟩;rw[x6] at jb az;have nL:=h_ (fh.o.off (p:=⟨G,j,none⟩) (by simp only;omega) (.string ST));have fO:=h_ (Bio.RdAt.off cJ.o (p:=⟨G,j,none⟩) (by simp only;omega) (.string ST));have cl:=h_ (hf.o.setCell (p:=⟨G,j,none⟩) (.inr (by simp only;omega)) (.string ST));have sW:=h_ (show L.drop x=L.drop (2*i*(j+1)) by rw[wZ.o,Vdg,Vcv]);have gx:(0:Int)<=(j:Int):=(by omega);have gh:(j:Int)<(n:Int):=(by omega);generalize (gF (λj=>bs (valOf i (L.drop (2*i*j)))) ⟨#[]⟩ n j)[j]=OLD at*;clear ja O7 iu dd hk aj x6 hlen aZ av fh cJ hf wZ n1 n2;go_wp2;refine⟨⟨j+1,x,ab,by go_num,fO,sW,az,nL,cl⟩,?_⟩;simp[intOf]<;>omega
  ·have iB:j=n:=(by omega);have bk:=hk.o;rw[iB,Zhc] at bk;have ft:=h_ bk;have n1:=Ex.o;have n2:=Ey.o;have Hl:=h_ (show((List.range n).map (λj=>bs (valOf m (L.drop (2*m*j))))).length=n by rw[Vag,Vbv]);clear bk hk;go_wp2;go_returns;rw[Cj.o];refine⟨hf.o,G,?_,by omega,ft.o⟩;rw[Hl.o];rfl
def FinR (b:Nat) (w:World) (o:Option (List ByteArray)) (x:Ending) (w':World):Prop:=Fr (only b) w w'/\match o with
 |none=>∃A n c,x=.returned (.tuple #[.slice A n c,.bool false])
 |some r=>∃A c,x=.returned (.tuple #[.slice A r.length c,.bool true])/\At w' A (svs r)
theorem Z0Q {b:Nat} {w w':World} {o:Option (List ByteArray)} {x:Ending} (h:RdrR b w o x w'):FinR b w o x w':=by
 obtain⟨h1,h2⟩:=h;refine⟨h1,?_⟩;cases o with
 |none=>
  obtain⟨A,h⟩:=h2;exact⟨A,0,0,h⟩
 |some r=>
  obtain⟨g,h,_,hk⟩:=h2;refine⟨_,_,h,?_⟩;have:=hk.at_;rw[Vck] at this;exact this
theorem Z9v {w : World} {b m : Nat} {s : ByteArray} (h : RV w b s 0) (hs : s.size <= 1000000000) (dH : 1 <= m) (hm : m <= 128) :
    Calls Tryz.prog 156 #[.agg #[.int .i64 (m:Int)],.pointer (some ⟨b,0,none⟩)] w λx w'=>FinR b w (Z21 (m:Int) (toL s)) x w':=by
  unfold Z21;cases hr:rnum (toL s) 4096 with
  |none=>exact(Z9u h hs _ hr).mono λx w' h=>Z0Q h
  |some p=>
    obtain⟨n,r⟩:=p;simp only;cases hk:Bit.nrd (bs r) with
    |none=>exact(Z6K h hs _ hr hk).mono λx w' h=>Z0Q h
    |some k=>
      simp only;by_cases ay:k=2*n*m
      · rw[Vaf (by rw[ay,Vb1,Vb1];rfl),Vav]
        exact(Z6M h hs dH hm hr hk ay).mono λx w' h=>Z0Q h
      · rw[Vad (λh=>ay (by(have h2:((k:Nat):Int)=((2*n*m:Nat):Int):=by rw[h,Vb1,Vb1];rfl);exact Int.ofNat.inj h2))]
        exact(Z6L h hs hm hr hk ay).mono λx w' h=>Z0Q h
def Zq:Array MapEntry:= #[⟨.int .i64 0,.func (.func 120) #[] #[],0⟩,⟨.int .i64 1,.func (.func 121) #[] #[],1⟩,⟨.int .i64 2,.func (.func 122) #[] #[],2⟩,⟨.int .i64 3,.func (.func 123) #[] #[],3⟩]
theorem ZZ (w:World):Calls Tryz.prog 76 #[] w λx w'=>x=.returned (.map (some w.heap.size))/\w.alloc (.map Zq 4)=w':=by
 have jF:= @run_makeMap Tryz.prog;have p0:=Zj (P:=Tryz.prog) Tryz.underlying124 Tryz.underlying3 w #[] 0 0 (.func (.func 120) #[] #[]) rfl;have p1:=Zj (P:=Tryz.prog) Tryz.underlying124 Tryz.underlying3 w #[⟨.int .i64 0,.func (.func 120) #[] #[],0⟩] 1 1 (.func (.func 121) #[] #[]) rfl;have p2:=Zj (P:=Tryz.prog) Tryz.underlying124 Tryz.underlying3 w #[⟨.int .i64 0,.func (.func 120) #[] #[],0⟩,⟨.int .i64 1,.func (.func 121) #[] #[],1⟩] 2 2 (.func (.func 122) #[] #[]) rfl;have p3:=Zj (P:=Tryz.prog) Tryz.underlying124 Tryz.underlying3 w #[⟨.int .i64 0,.func (.func 120) #[] #[],0⟩,⟨.int .i64 1,.func (.func 121) #[] #[],1⟩,⟨.int .i64 2,.func (.func 122) #[] #[],2⟩] 3 3 (.func (.func 123) #[] #[]) rfl;go_enter Tryz.func76,Tryz.ntmps76;go_wp2;go_returns;exact⟨rfl,rfl⟩
theorem Z9w (w:World) (k:Nat) (hk:k<=3) (w2:World) (h2:Below (w.heap.size+1) (w.alloc (.map Zq 4)) w2):(Instr.lookup 124 (.map (some w.heap.size)) (.int .i64 (k:Int)) false).run Tryz.prog w2=.ok (if k=0 then(.func (.func 120) #[] #[]) else if k=1 then(.func (.func 121) #[] #[]) else if k=2 then(.func (.func 122) #[] #[]) else(.func (.func 123) #[] #[])) w2:=by
 have hm:MpV (.int .i64) (w.alloc (.map Zq 4)) w.heap.size (λk=>lk Zq.toList k):=⟨Zq,4,heap_alloc_new w _,(λx hx=>by
  simp only[Zq,Va9,Vcq,or_false] at hx;rcases hx with rfl|rfl|rfl|rfl<;>rfl),λ_ _=>rfl⟩
 have eJ:=hm.below h2 (Vc0 _);rcases(show k=0\/k=1\/k=2\/k=3 by omega) with rfl|rfl|rfl|rfl
 ·exact(MpV.get Tryz.underlying124 Tryz.underlying3 eJ (.int .i64 ((0:Nat):Int)) _ rfl (XR rfl)).1
 ·exact(MpV.get Tryz.underlying124 Tryz.underlying3 eJ (.int .i64 ((1:Nat):Int)) _ rfl ((Yu (by simp)).trans (XR rfl))).1
 ·exact(MpV.get Tryz.underlying124 Tryz.underlying3 eJ (.int .i64 ((2:Nat):Int)) _ rfl ((Yu (by simp)).trans ((Yu (by simp)).trans (XR rfl)))).1
 ·exact(MpV.get Tryz.underlying124 Tryz.underlying3 eJ (.int .i64 ((3:Nat):Int)) _ rfl ((Yu (by simp)).trans ((Yu (by simp)).trans ((Yu (by simp)).trans (XR rfl))))).1
def Zr:Array MapEntry:= #[⟨.int .i64 0,.func (.func 156) #[] #[],0⟩,⟨.int .i64 1,.func (.func 157) #[] #[],1⟩,⟨.int .i64 2,.func (.func 158) #[] #[],2⟩,⟨.int .i64 3,.func (.func 159) #[] #[],3⟩]
theorem XS (w:World):Calls Tryz.prog 112 #[] w λx w'=>x=.returned (.map (some w.heap.size))/\w.alloc (.map Zr 4)=w':=by
 have jF:= @run_makeMap Tryz.prog;have p0:=Zj (P:=Tryz.prog) Tryz.underlying149 Tryz.underlying3 w #[] 0 0 (.func (.func 156) #[] #[]) rfl;have p1:=Zj (P:=Tryz.prog) Tryz.underlying149 Tryz.underlying3 w #[⟨.int .i64 0,.func (.func 156) #[] #[],0⟩] 1 1 (.func (.func 157) #[] #[]) rfl;have p2:=Zj (P:=Tryz.prog) Tryz.underlying149 Tryz.underlying3 w #[⟨.int .i64 0,.func (.func 156) #[] #[],0⟩,⟨.int .i64 1,.func (.func 157) #[] #[],1⟩] 2 2 (.func (.func 158) #[] #[]) rfl;have p3:=Zj (P:=Tryz.prog) Tryz.underlying149 Tryz.underlying3 w #[⟨.int .i64 0,.func (.func 156) #[] #[],0⟩,⟨.int .i64 1,.func (.func 157) #[] #[],1⟩,⟨.int .i64 2,.func (.func 158) #[] #[],2⟩] 3 3 (.func (.func 159) #[] #[]) rfl;go_enter Tryz.func112,Tryz.ntmps112;go_wp2;go_returns;exact⟨rfl,rfl⟩
theorem Z9x (w:World) (k:Nat) (hk:k<=3) (w2:World) (h2:Below (w.heap.size+1) (w.alloc (.map Zr 4)) w2):(Instr.lookup 149 (.map (some w.heap.size)) (.int .i64 (k:Int)) false).run Tryz.prog w2=.ok (if k=0 then(.func (.func 156) #[] #[]) else if k=1 then(.func (.func 157) #[] #[]) else if k=2 then(.func (.func 158) #[] #[]) else(.func (.func 159) #[] #[])) w2:=by
 have hm:MpV (.int .i64) (w.alloc (.map Zr 4)) w.heap.size (λk=>lk Zr.toList k):=⟨Zr,4,heap_alloc_new w _,(λx hx=>by
  simp only[Zr,Va9,Vcq,or_false] at hx;rcases hx with rfl|rfl|rfl|rfl<;>rfl),λ_ _=>rfl⟩
 have eJ:=hm.below h2 (Vc0 _);rcases(show k=0\/k=1\/k=2\/k=3 by omega) with rfl|rfl|rfl|rfl
 ·exact(MpV.get Tryz.underlying149 Tryz.underlying3 eJ (.int .i64 ((0:Nat):Int)) _ rfl (XR rfl)).1
 ·exact(MpV.get Tryz.underlying149 Tryz.underlying3 eJ (.int .i64 ((1:Nat):Int)) _ rfl ((Yu (by simp)).trans (XR rfl))).1
 ·exact(MpV.get Tryz.underlying149 Tryz.underlying3 eJ (.int .i64 ((2:Nat):Int)) _ rfl ((Yu (by simp)).trans ((Yu (by simp)).trans (XR rfl)))).1
 ·exact(MpV.get Tryz.underlying149 Tryz.underlying3 eJ (.int .i64 ((3:Nat):Int)) _ rfl ((Yu (by simp)).trans ((Yu (by simp)).trans ((Yu (by simp)).trans (XR rfl))))).1
open Wv.Tm
theorem Z9y (s:ByteArray) (e:Nat) (n:Int):(ZB s e n).2.1.size<=s.size:=by
 unfold ZB;split
 ·split
  ·exact UZz
  ·split
   ·exact UZz
   ·rw[Z0,Va2,Z1];omega
 ·exact UZz
theorem Z0R (s:ByteArray) (e:Nat) (most:Int):(ZT s e most).2.1.size<=s.size:=by
 unfold ZT;split
 ·exact Vas (Z9y _ _ _) X1
 ·exact UZz
theorem Z85 (r : List UInt8) : ∃ t1 S1 e1 t2 S2 e2 t3 S3 e3 t4 S4 e4, ZT (bs r) 0 128 = (t1, S1, e1) /\ ZT S1 e1 128 = (t2, S2, e2) /\ ZT S2 e2 (S2.size : Int) = (t3, S3, e3) /\ ZB S3 e3 (S3.size : Int) = (t4, S4, e4) /\
    S1.size<=r.length/\S2.size<=r.length/\S3.size<=r.length/\
    ((e4≠0/\∀f s2 st s3 a s4,ZG r 128=some (f,s2)->ZG s2 128=some (st,s3)->ZG s3 s3.length≠some (a,s4))\/
     (e4=0/\∃f s2 st s3 a s4,ZG r 128=some (f,s2)/\ZG s2 128=some (st,s3)/\ZG s3 s3.length=some (a,s4)/\t1=bs f/\t2=bs st/\t3=bs a/\t4=bs s4/\f.length<=128/\st.length<=128/\a.length<=r.length/\s4.length<=r.length)):=by
  obtain⟨⟨t1,S1,e1⟩,h1⟩:∃q,ZT (bs r) 0 128=q:=⟨_,rfl⟩;obtain⟨⟨t2,S2,e2⟩,h2⟩:∃q,ZT S1 e1 128=q:=⟨_,rfl⟩;obtain⟨⟨t3,S3,e3⟩,h3⟩:∃q,ZT S2 e2 (S2.size:Int)=q:=⟨_,rfl⟩;obtain⟨⟨t4,S4,e4⟩,h4⟩:∃q,ZB S3 e3 (S3.size:Int)=q:=⟨_,rfl⟩;have z1:=Z0R (bs r) 0 128;have z2:=Z0R S1 e1 128;have z3:=Z0R S2 e2 (S2.size:Int);rw[h1,Z0] at z1;rw[h2] at z2;rw[h3] at z3;simp only at z1 z2 z3;refine⟨t1,S1,e1,t2,S2,e2,t3,S3,e3,t4,S4,e4,h1,h2,h3,h4,z1,by omega,by omega,?_⟩
  have far:∀ {s:ByteArray} {e:Nat} {n:Int} {t S:ByteArray} {f:Nat},e≠0->ZB s e n=(t,S,f)->f≠0:=λhe h=>by
    unfold ZB at h;rw[Vad he] at h;injection h with _ h;injection h with _ h;rw[<-h];exact he
  obtain⟨q1,Q1,f1,g1,c1⟩:=X4 r 128;rw[show((128:Nat):Int)=128 from rfl,h1] at g1;injection g1 with a1 a2;injection a2 with a2 a3;subst a1;subst a2;subst a3;rcases c1 with ⟨rfl,f,s2,r1,rfl,rfl,l1,l2,l3⟩|⟨eK,r1⟩
  · obtain⟨q2,Q2,f2,g2,c2⟩:=X4 s2 128
    rw[show((128:Nat):Int)=128 from rfl,h2] at g2;injection g2 with a1 a2;injection a2 with a2 a3;subst a1;subst a2;subst a3;rcases c2 with ⟨rfl,st,s3,r2,rfl,rfl,l4,l5,l6⟩|⟨cR,r2⟩
    · obtain⟨q3,Q3,f3,g3,c3⟩:=X4 s3 s3.length
      rw[Z0] at h3;rw[h3] at g3;injection g3 with a1 a2;injection a2 with a2 a3;subst a1;subst a2;subst a3;rcases c3 with ⟨rfl,a,s4,r3,rfl,rfl,l7,l8,l9⟩|⟨rJ,r3⟩
      · rw[Z0q] at h4
        injection h4 with b1 b2;injection b2 with b2 b3;subst b1;subst b3;exact .inr ⟨rfl,f,s2,st,s3,a,s4,r1,r2,r3,rfl,rfl,rfl,rfl,l3,l6,by omega,by omega⟩
      · refine .inl ⟨far rJ h4,λf' O8 O9 Oa a' Ob k1 k2 k3=> ?_⟩
        rw[r1] at k1;injection k1 with k1;injection k1 with _ k1;subst k1;rw[r2] at k2;injection k2 with k2;injection k2 with _ k2;subst k2;rw[r3] at k3;cases k3
    · rw[YF cR] at h3
      injection h3 with _ b2;injection b2 with _ b3;refine .inl ⟨far (by rw[<-b3];exact cR) h4,λf' O8 O9 Oa a' Ob k1 k2 k3=> ?_⟩;rw[r1] at k1;injection k1 with k1;injection k1 with _ k1;subst k1;rw[r2] at k2;cases k2
  · rw[YF eK] at h2
    injection h2 with _ b2;injection b2 with _ b3;have cR:e2≠0:=(by rw[<-b3];exact eK);rw[YF cR] at h3;injection h3 with _ b2;injection b2 with _ b3;refine .inl ⟨far (by rw[<-b3];exact cR) h4,λf' O8 O9 Oa a' Ob k1 k2 k3=> ?_⟩;rw[r1] at k1;cases k1
def Z5v (w:Int) (n:Nat) (f st:List UInt8) (G:List Int×Nat) (D:List ByteArray×Nat):Option (List ByteArray):=
  if G.2≠0\/D.2≠0 then none else match extL w D.1 with
    |none=>none
    | some vs => if (ext w f).2 ≠ 0 then none else if G.1.length ≠ vs.length then none else
        if st≠[]/\(ext w st).2≠0 then none else
        if(∀g∈G.1,g<(n:Int)) then(runB (atS (-1) G.1) vs (bs (if st=[] then[] else(ext w st).1)) (n-1) 1 (bs (ext w f).1)).map (bs (ext w f).1::·) else none
theorem Z39 {w:Int} {s r f s2 st s3 a s4:List UInt8} {n:Nat} (h0:rnum s 4096=some (n,r)) (hn:n≠0) (h1:ZG r 128=some (f,s2)) (h2:ZG s2 128=some (st,s3)) (h3:ZG s3 s3.length=some (a,s4)):
  YG w s=Z5v w n f st (decn a 4096) (dec s4 4096):=by
 unfold YG Z5v;rw[h0];simp only;rw[Vad hn,h1];simp only;rw[h2];simp only;rw[h3];simp only;split
 ·rfl
 ·have he:extL w [bs f]=if(ext w f).2=0 then some [bs (ext w f).1] else none:=by
   show(if(ext w (toL (bs f))).2=0 then(extL w []).map (bs (ext w (toL (bs f))).1::·) else none)=_;rw[Zd];rfl
  rw[he];cases extL w (dec s4 4096).1 with
  |none=>rfl
  |some vs=>
   by_cases h5:(ext w f).2=0
   ·rw[Vaf h5];simp only;rw[Vad (show ¬(ext w f).2≠0 from λh=>h h5)];rfl
   ·rw[Vad h5];simp only;rw[Vaf (show(ext w f).2≠0 from h5)]
theorem Z3a {w:Int} {s r:List UInt8} {n:Nat} (h0:rnum s 4096=some (n,r)) (hn:n≠0) (hb:∀f s2 st s3 a s4,ZG r 128=some (f,s2)->ZG s2 128=some (st,s3)->ZG s3 s3.length≠some (a,s4)):YG w s=none:=by
 unfold YG;rw[h0];simp only;rw[Vad hn];cases h1:ZG r 128 with
 |none=>rfl
 |some p=>
  obtain⟨f,s2⟩:=p;simp only;cases h2:ZG s2 128 with
  |none=>rfl
  |some p=>
   obtain⟨st,s3⟩:=p;simp only;cases h3:ZG s3 s3.length with
   |none=>rfl
   |some p=>
    obtain⟨a,s4⟩:=p;exact absurd h3 (hb _ _ _ _ _ _ h1 h2)
theorem Z2h {w:Int} {s:List UInt8} (S:ByteArray) (e:Nat) (h:numR (bs s) 0 4096=(0,S,e)):YG w s=if endR S e=0 then some [] else none:=by
 unfold YG;cases h0:rnum s 4096 with
 |none=>
  obtain⟨e',he,hn⟩:=Y4 h0;rw[show((4096:Nat):Int)=4096 from rfl,h] at hn;injection hn with _ hn;injection hn with fI jt;subst jt;simp only;rw[Vad];unfold endR;rw[Vad (λh=>he h.1)];exact he
 |some p=>
  obtain⟨n,r⟩:=p;obtain⟨hn,_,_⟩:=Zp h0;rw[show((4096:Nat):Int)=4096 from rfl,h] at hn;injection hn with mR hn;injection hn with fI jt;subst mR;subst fI;subst jt;simp only[if_true];unfold endR;rw[Z0];cases r<;>simp
theorem Z2i (a:Int) (v:ByteArray) (k:Int):∀(x:List Int) (vs:List ByteArray),x.length=vs.length->a∉x->look (x++[a]) (vs++[v]) k=if k=a then some v else look x vs k
 |[],[],_,_=>by
  show(if a=k then some v else none)=_;by_cases h:k=a
  ·rw[Vaf h,Vaf h.symm]
  ·rw[Vad h,Vad (λe=>h e.symm)];rfl
 |i::x,u::vs,hl,hn=>by
  show(if i=k then some u else look (x++[a]) (vs++[v]) k)=_;rw[Z2i a v k x vs (by simpa using hl) (λh=>hn (Vat _ h))];have tH:i≠a:=λe=>hn (by rw[e];exact Vap);show _=if k=a then some v else(if i=k then some u else look x vs k)
  by_cases h1:i=k
  ·rw[Vaf h1,Vad (by omega),Vaf h1]
  ·rw[Vad h1,Vad h1]
 |[],_::_,hl,_=>by simp at hl
 |_::_,[],hl,_=>by simp at hl
theorem Z86 (g:Int):∀(l:List Int) (last:Int),atS last (l++[g])=atS last l++[(atS last l).getLastD last+1+g]
 |[],last=>rfl
 |a::r,last=>by
  show(last+1+a)::atS (last+1+a) (r++[g])=_;rw[Z86 g r (last+1+a)];show _=(last+1+a)::(atS (last+1+a) r++[((last+1+a)::atS (last+1+a) r).getLastD last+1+g]);congr 4;cases atS (last+1+a) r with
  |nil=>rfl
  |cons b q=>rfl
theorem Z9z (l:List Int):∀last,(atS last l).length=l.length:=by
 induction l with
 |nil=>intro _;rfl
 |cons a r ih=>intro last;show(atS _ r).length+1=_;rw[ih];rfl
theorem Zd0 {n:Int} (hn:0<=n):∀(l:List Int) (last:Int),(∀g∈l,0<=g/\g<n)->(∀t∈atS last l,last<t/\t<=(atS last l).getLastD last)/\last<=(atS last l).getLastD last/\(atS last l).getLastD last<=last+n*l.length
 |[],last,_=>⟨λt h=>(by cases h),Int.le_refl _,by simp[atS]⟩
 |g::r,last,h=>by
  obtain⟨g0,g1⟩:=h g Vap;obtain⟨i1,i2,i3⟩:=Zd0 hn r (last+1+g) (λx hx=>h x (Vat _ hx))
  have hl:(atS last (g::r)).getLastD last=(atS (last+1+g) r).getLastD (last+1+g):=by
   show((last+1+g)::atS (last+1+g) r).getLastD last=_;cases atS (last+1+g) r<;>rfl
  rw[hl];refine⟨λt ht=> ?_,by omega,?_⟩
  ·rcases Va9.1 ht with rfl|ht
   ·exact⟨by omega,i2⟩
   ·have:=i1 t ht;omega
  ·rw[Vaz,Vch,Int.mul_add];simp only[Int.natCast_one,Int.mul_one];omega
end Go.Proofs.YtchokmkfobandaaGreatDoor
namespace Wv
open Go Go.RowKit
theorem Zd1 {P:Program} (t e:TypeId) (z:Value) (bytes:Nat) (ht:P.underlying t=some (.slice e)) (aK:(P.info? e).map (λi=>(i.zero,i.size,i.bytes))=some (some z,1,bytes)) (bO:z.cells.size=1) {w wb:World} {B:Nat} {v:Value} {n:Nat} {xs:List Value} (h:w.ownsRow B e 1 v n xs) (hf:Below B wb w) (hB:B<=w.heap.size) (x:Value) (hx:x.oneCell'=true) (ei:n+1<=maxLen) (aY:(n+1)*bytes<=140737488355328):
  ∃v' w',(Builtin.append_ #[t,t] t #[v,.slice (some ⟨w.heap.size,0,none⟩) 1 1]).run P (w.alloc (.cells #[x] e))=.ok v' w'/\w'.ownsRow B e 1 v' (n+1) (xs++[x])/\Below B wb w'/\(v'.ownBlock=v.ownBlock\/v'.ownBlock=some (w.heap.size+1))/\Fr (λk=>v.ownBlock=some k) (w.alloc (.cells #[x] e)) w'/\
   (∀A vs,At w A vs->(∀b o,A=some ⟨b,o,none⟩->v.ownBlock≠some b)->At w' A vs):=by
 obtain⟨v1,w1,r1,a1,a2,a3,a4,a5⟩:=Zey t e z bytes ht aK bO h hf hB x hx ei aY;obtain⟨i,hi,hz,hs,dt⟩:=info_parts aK;obtain⟨v',w',hr,h2,h3,_,h5⟩:=run_append_own_at (P:=P) (w.alloc (.cells #[x] e)) B t t e i z 1 bytes ht hi hz hs dt bO (by omega) v n xs (h.alloc _) ⟨w.heap.size,0,none⟩ 1 1 [x] rfl (XB _ _ _) (by simpa using hx) ei aY (Vas hB (by simp));have e:=r1.symm.trans hr;injection e with e1 e2;subst e1;subst e2;exact⟨v1,w1,r1,a1,a2,a3,(Fr.refl _ _).grown h3 (λk hk=>.inl hk),a5⟩
theorem QK {S:Nat->Prop} {w a c:World} (h:Fr S w a) (hb:Below w.heap.size a c):Fr S w c:=
 ⟨hb.os.trans h.os,hb.tape.trans h.tape,hb.output.trans h.output,Vas h.size hb.size,λk hk hn=>(hb.block k hk).trans (h.block k hk hn)⟩
end Wv
namespace Go.Proofs.YtchokmkfobandaaGreatDoor
open Go.RowKit Go.Proofs Wv Wv.Vi Wv.Rc Wv.Mo Wv.Ru Wv.Tm Wv.Bc
theorem ZiS (w:World):(zeroValue 9).run Tryz.prog w=.ok (.string ⟨#[]⟩) w:=by kernel_rfl
def lkM (x:List Int) (vs:List ByteArray):Value->Option Value
 |.int .i64 k=>(look x vs k).map Value.string
 |_=>none
abbrev MI (w:World) (b:Nat) (x:List Int) (vs:List ByteArray):Prop:=MpV (.int .i64) w b (lkM x vs)
theorem ZkG (w:World):MI (w.alloc (.map #[] 0)) w.heap.size [] []:=by
 obtain⟨es,c,h1,h2,h3⟩:=MpV.new (.int .i64) w;refine⟨es,c,h1,h2,λk hk=>(h3 k hk).trans ?_⟩;unfold lkM;split<;>rfl
theorem ZiT {w:World} {b:Nat} {x:List Int} {vs:List ByteArray} (h:MI w b x vs) (k:Int) {v:ByteArray} (hv:look x vs k=some v):(Instr.lookup 266 (.map (some b)) (.int .i64 k) true).run Tryz.prog w=.ok (.tuple #[.string v,.bool true]) w:=
 (MpV.get Tryz.underlying266 Tryz.underlying3 h (.int .i64 k) _ rfl (by show(look x vs k).map Value.string=_;rw[hv];rfl)).2
theorem ZiU {w:World} {b:Nat} {x:List Int} {vs:List ByteArray} (h:MI w b x vs) (k:Int) (hv:look x vs k=none):(Instr.lookup 266 (.map (some b)) (.int .i64 k) true).run Tryz.prog w=.ok (.tuple #[.string ⟨#[]⟩,.bool false]) w:=
 (MpV.miss Tryz.underlying266 Tryz.underlying3 h (.int .i64 k) (.string ⟨#[]⟩) rfl (by show(look x vs k).map Value.string=_;rw[hv];rfl) (ZiS w)).2
theorem ZkH {w:World} {b:Nat} {x:List Int} {vs:List ByteArray} (h:MI w b x vs) (a:Int) (v:ByteArray) (hl:x.length=vs.length) (ha:a∉x):∃w',(Instr.mapUpdate 266 (.map (some b)) (.int .i64 a) (.string v)).run Tryz.prog w=.ok () w'/\MI w' b (x++[a]) (vs++[v])/\Fr (λj=>j=b) w w'/\w'.heap.size=w.heap.size:=by
 obtain⟨w',h1,h2,h3,h4⟩:=MpV.put Tryz.underlying266 Tryz.underlying3 h (.int .i64 a) (.string v) rfl;refine⟨w',h1,h2 _ ?_ (λy hy=> ?_),h3,h4⟩
 ·show(look (x++[a]) (vs++[v]) a).map Value.string=_;rw[Z2i a v a x vs hl ha,Vaf rfl];rfl
 ·unfold lkM;split
  ·rename_i k;rw[Z2i a v k x vs hl ha,Vad (λe=>hy (by rw[e]))]
  ·rfl
theorem Zd2 {w w':World} {b B n:Nat} {x:List Int} {vs:List ByteArray} {v:Value} {xs:List Value} (h:MI w b x vs) (hf:Fr (λk=>v.ownBlock=some k) w w') (ho:w.ownsRow B 9 1 v n xs):MI w' b x vs:=
 h.fr hf (λe=>by
  obtain⟨es,c,h1,_⟩:=h;rcases ho.2 with ⟨rfl,_⟩|⟨g,cap,cur,rfl,_,hg,_⟩
  ·cases e
  ·injection e with e;have e:g=b:=e;subst e;rw[h1] at hg;cases hg)
theorem Z4a {k:Int} {v:ByteArray} :∀(x:List Int) (vs:List ByteArray),look x vs k=some v->v∈vs
 |i::x,u::vs,h=>by
  have h2:(if i=k then some u else look x vs k)=some v:=h;by_cases hi:i=k
  ·rw[Vaf hi] at h2;injection h2 with h2;rw[h2];exact Vap
  ·rw[Vad hi] at h2;exact Vat _ (Z4a x vs h2)
 |[],[],h=>by cases h
 |[],_::_,h=>by cases h
 |_::_,[],h=>by cases h
theorem Z6N {w w':World} {o:Option (List ByteArray)} {x:Ending} (h:LgR w o x w'):∃A k ok,x=.returned (.tuple #[.slice A k k,.bool ok])/\Below w.heap.size w w'/\((ok=false/\o=none)\/(ok=true/\∃r g,o=some r/\k=r.length/\A=some ⟨g,0,none⟩/\w.heap.size<=g/\Bk w' g 9 (svs r).toArray)):=by
 obtain⟨h1,h2⟩:=h;cases o with
 |none=>obtain⟨A,h⟩:=h2;exact⟨A,0,false,h,h1,.inl ⟨rfl,rfl⟩⟩
 |some r=>obtain⟨g,h,hg,hk⟩:=h2;exact⟨_,_,true,h,h1,.inr ⟨rfl,r,g,rfl,rfl,rfl,hg,hk⟩⟩
theorem YP {b:Nat} {w w':World} {A:Option Addr} {n c:Nat} {o:Option (List ByteArray)} (hf:Fr (only b) w w') (ho:o=none):FinR b w o (.returned (.tuple #[.slice A n c,.bool false])) w':=by
 subst ho;exact⟨hf,_,_,_,rfl⟩
theorem Z87 {w:World} {b:Nat} {s:ByteArray} (h:RV w b s 0) (hs:s.size<=1000000000) (W:Int) {S:ByteArray} {e:Nat} (hN:numR s 0 4096=(0,S,e)):
  Calls Tryz.prog 157 #[.agg #[.int .i64 W],.pointer (some ⟨b,0,none⟩)] w λx w'=>FinR b w (if endR S e=0 then some [] else none) x w':=by
 have aD:=Zx w (.cells #[.int .i64 W] 127);have h0:RV (w.alloc (.cells #[.int .i64 W] 127)) b s 0:=Bk.alloc h _;have HN:=h_ (Zi h0 (by omega) 4096);rw[hN] at HN;have HE:=h_ (λW2 (h:RV W2 b S e)=>Z3A h);have aP:=h_ aD;generalize endR S e=E at*;clear h0 aD hN h;by_cases h0:E=0
 ·rw[Vaf h0];subst h0;go_enter Tryz.func157,Tryz.ntmps157;go_wp2_with fail;refine(HN.o).mono ?_;rintro x w1 ⟨rfl,bq,aC⟩;have kF:=h_ (HE.o w1 bq);have cS:=h_ ((Fr.of_below (S:=only b) aP.o).trans aC);clear bq aC HN HE aP;go_wp2_with fail;refine(kF.o).mono ?_;rintro x w2 ⟨rfl,ai⟩;have cl:=h_ (cS.o.trans ai);clear ai cS kF;go_wp2;go_returns;exact⟨cl.o,none,0,rfl,At.nil _ _⟩
 ·rw[Vad h0];have ay:((E:Int)==0)=false:=(by rw[Van];omega);go_enter Tryz.func157,Tryz.ntmps157;go_wp2_with fail;refine(HN.o).mono ?_;rintro x w1 ⟨rfl,bq,aC⟩;have kF:=h_ (HE.o w1 bq);have cS:=h_ ((Fr.of_below (S:=only b) aP.o).trans aC);clear bq aC HN HE aP;go_wp2_with fail;refine(kF.o).mono ?_;rintro x w2 ⟨rfl,ai⟩;have cl:=h_ (cS.o.trans ai);clear ai cS kF;go_wp2;go_returns;exact⟨cl.o,_,_,_,rfl⟩
def CtP (b:Nat) (w:World) (W:Int) (S:ByteArray) (e:Nat) (w1:World):Prop:=Fr (only b) w w1/\Bk w1 w.heap.size 127 #[.int .i64 W]/\RV w1 b S e
theorem CtP.next {b:Nat} {w w1 w2:World} {W:Int} {S S':ByteArray} {e e':Nat} (h:CtP b w W S e w1) (ab:b<w.heap.size) (hv:RV w2 b S' e') (hf:Fr (only b) w1 w2):CtP b w W S' e' w2:=
 ⟨h.1.trans hf,h.2.1.fr hf (by unfold only;omega),hv⟩
def CtQ (b:Nat) (w:World) (W:Int) (w1:World):Prop:=Fr (only b) w w1/\Bk w1 w.heap.size 127 #[.int .i64 W]
theorem CtQ.next {b:Nat} {w w1 w2:World} {W:Int} (h:CtQ b w W w1) (hb:Below w1.heap.size w1 w2):CtQ b w W w2:=⟨h.1.below hb,h.2.below hb h.2.lt⟩
theorem Zd3 {w:World} {B g:Nat} {e:TypeId} {l:List ByteArray} (h:Bk w g e (svs l).toArray) (hB:B<=g) (hl:l.length<=maxLen):w.ownsRow B e 1 (.slice (some ⟨g,0,none⟩) l.length l.length) l.length (svs l):=
 ⟨by rw[Z6u,Vcv],.inr ⟨g,l.length,(svs l).toArray,rfl,hB,h,UZz,hl,by simp[Z6u],by
  simp only[Vcv];rw[<-Z6u l];simp⟩⟩
theorem ZiV (l:List Int) (i:Nat) (h:i<l.length):(ivs l)[i]? =some (.int .i64 l[i]):=by simp[ivs,iv,h]
theorem Z6O {w:Int} {u:List UInt8} (h:(ext w u).2=0):(ext w u).1.length<=128:=by
 have:=Zaw (w:=w) (s:=u) (v:=(ext w u).1) (Prod.ext rfl h);exact(Zv.1 (ZL.1 this).1).2.2
def CtM (b:Nat) (w:World) (A1:Option Addr) (G:List Int) (gv:Nat) (vs:List ByteArray) (gf:Nat) (F:ByteArray) (w1:World):Prop:=Fr (only b) w w1/\At w1 A1 (ivs G)/\Bk w1 gv 9 (svs vs).toArray/\Bk w1 gf 9 (svs [F]).toArray/\w.heap.size<=gf
theorem CtM.next {b:Nat} {w w1 w2:World} {A1:Option Addr} {G:List Int} {gv gf:Nat} {vs:List ByteArray} {F:ByteArray} (h:CtM b w A1 G gv vs gf F w1) (hb:Below w1.heap.size w1 w2):CtM b w A1 G gv vs gf F w2:=
 ⟨h.1.below hb,h.2.1.below hb,h.2.2.1.below hb h.2.2.1.lt,h.2.2.2.1.below hb h.2.2.2.1.lt,h.2.2.2.2⟩
end Go.Proofs.YtchokmkfobandaaGreatDoor
