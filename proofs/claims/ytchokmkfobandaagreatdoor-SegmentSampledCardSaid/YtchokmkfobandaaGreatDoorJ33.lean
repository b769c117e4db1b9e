import Derived.Test.YtchokmkfobandaaGreatDoorJ30
import Derived.Test.YtchokmkfobandaaGreatDoorJ23
set_option linter.unusedVariables false
set_option linter.unusedSimpArgs false
set_option maxRecDepth 100000
set_option maxHeartbeats 8000000
namespace Go.Proofs.YtchokmkfobandaaGreatDoor
open Go.RowKit Go.Proofs Wv Wv.Vi Wv.Rc Wv.Mo Wv.Ru Wv.Bc
def gF {β:Type} (F:Nat->β) (z:β) (n i:Nat):List β:=(List.range i).map F++List.replicate (n-i) z
theorem Zh6 {β:Type} (F:Nat->β) (z:β) (n i:Nat) (h:i<=n):(gF F z n i).length=n:=by
 unfold gF;rw[Vab,Vag,Vbu,Vaw];omega
theorem Zh7 {β:Type} (F:Nat->β) (z:β) (n i:Nat) (h:i<n):(gF F z n i).set i (F i)=gF F z n (i+1):=by
 unfold gF;rw[Va8 _ _ (by rw[Vag,Vbu];exact UZz),Vag,Vbu,Va7,show n-i=(n-(i+1))+1 by omega,Vbg,List.set_cons_zero,Vcr,Vbk,Vay];rfl
theorem Zh8 {β:Type} (F:Nat->β) (z:β) (n:Nat):gF F z n n=(List.range n).map F:=by
 unfold gF;rw[Va7,List.replicate_zero,Va3]
theorem gF_0 {β:Type} (F:Nat->β) (z:β) (n:Nat):gF F z n 0=List.replicate n z:=rfl
def chAt (L:List Bool) (i:Nat):UInt8:=ch (2*(L.getD (2*i) false).toNat+(L.getD (2*i+1) false).toNat)
theorem getD_drop (L:List Bool) (a i:Nat):(L.drop a).getD i false=L.getD (a+i) false:=by
 rw[Vbn,Vbn,List.getElem?_drop]
theorem Z2a (L:List Bool) (k:Nat):valOf k L=(List.range k).map (chAt L):=by
 induction k generalizing L with
 |zero=>rfl
 |succ k ih=>
  rw[valOf,ih,List.range_succ_eq_map,Vcj,Vb8];congr 1;apply List.map_congr_left;intro i _;show chAt (L.drop 2) i=chAt L (i+1);unfold chAt;rw[getD_drop,getD_drop,show 2+2*i=2*(i+1) by omega,show 2+(2*i+1)=2*(i+1)+1 by omega]
theorem Z5o (L:List Bool) (m n:Nat):QH m n L=(List.range n).map (λj=>bs (valOf m (L.drop (2*m*j)))):=by
 induction n generalizing L with
 |zero=>rfl
 |succ n ih=>
  rw[QH,ih,List.range_succ_eq_map,Vcj,Vb8];congr 1;apply List.map_congr_left;intro j _;show bs (valOf m ((L.drop (2*m)).drop (2*m*j)))=bs (valOf m (L.drop (2*m*(j+1))));rw[Vcz,show 2*m+2*m*j=2*m*(j+1) by rw[Vde,Vcw,Vdf]]
theorem ZiL {L:List Bool} (h:2<=L.length):Bit.getm 0 2 3 L=(L.drop 2,2*(L.getD 0 false).toNat+(L.getD 1 false).toNat,0):=by
 match L,h with
 |a::b::r,_=>cases a<;>cases b<;>rfl
theorem ZkB (a b:Bool):2*a.toNat+b.toNat<4:=by cases a<;>cases b<;>decide
theorem ZiM {w:World} {g:Nat} {t:TypeId} {l:List UInt8} (h:Bk w g t (l.map bv).toArray) (i:Nat) (x:UInt8):Bk (w.setCell ⟨g,i,none⟩ (.int .u8 (x.toNat:Int))) g t ((l.set i x).map bv).toArray:=by
 have:=h.put i (bv x);rw[List.setIfInBounds_toArray] at this;rw[List.map_set];exact this
theorem Zg4 {w:World} {b x n a:Nat} {s:ByteArray} (h:Bio.RdAt w b s x n) (hx:(Bit.rbits s n).drop x=(Bit.rbits s n).drop a) (ha:a+2<=n):
  Calls Tryz.prog 204 #[.pointer (some ⟨b,0,none⟩),.int .i64 0,.int .i64 2,.int .i64 3] w λe w'=>∃y,e=.returned (.tuple #[.int .i64 ((2*((Bit.rbits s n).getD a false).toNat+((Bit.rbits s n).getD (a+1) false).toNat:Nat):Int),.int .i64 0])/\Bio.RdAt w' b s y n/\Fr (only b) w w'/\(Bit.rbits s n).drop y=(Bit.rbits s n).drop (a+2):=by
 have hg:=Bio.get0 h 2 3 (by omega) (by omega);have hlen:2<=((Bit.rbits s n).drop a).length:=(by rw[Va2,Bit.rbits_length];omega);rw[hx,ZiL hlen] at hg;rw[getD_drop,getD_drop,Vb3,Vcz] at hg;refine hg.mono ?_;rintro e w1 ⟨y,rfl,h1,h2,h3⟩;exact⟨y,rfl,h1,h2,h3.symm⟩
theorem Bio.RdAt.off {w:World} {b x n:Nat} {s:ByteArray} (h:Bio.RdAt w b s x n) {p:Addr} (hp:b≠p.block) (u:Value):Bio.RdAt (w.setCell p u) b s x n:=⟨h.1.off hp u,h.2⟩
theorem Z0N {s:List UInt8} {n:Nat} {r:List UInt8} (h:rnum s 4096=some (n,r)):numR (bs s) 0 4096=(n,bs r,0)/\n<=4096/\r.length<=s.length:=Zp h
theorem Z9u {w:World} {b:Nat} {s:ByteArray} (h:RV w b s 0) (hs:s.size<=1000000000) (W:Int) (dw:rnum (toL s) 4096=none):
  Calls Tryz.prog 156 #[.agg #[.int .i64 W],.pointer (some ⟨b,0,none⟩)] w λx w'=>RdrR b w none x w':=by
 obtain⟨e,he,dY⟩:=Y1 dw;rw[Zc,show(((4096:Nat):Int))=4096 from rfl] at dY;have ab:=Bk.lt h;have h0:RV (w.alloc (.cells #[.int .i64 W] 127)) b s 0:=Bk.alloc h _;have aB:=Zy w (.cells #[.int .i64 W] 127);have HN:=h_ (Zi h0 (by omega) 4096);rw[dY] at HN;have HL:=h_ (λW2 (h:RV W2 b s e)=>Zt h (by omega));have HT:=h_ (λW2 (h:RV W2 b s e)=>Zu h (by omega) (s.size:Int));rw[Z1Q he] at HT;have HE:=h_ (λW2 (h:RV W2 b s e)=>Za h);have HR:=h_ (λW2=>Bio.newreader_none (bs []) W2 (by rw[Z0];simp) (by rw[Z0];simp) (by rfl));have hz:bs ([]:List UInt8)=⟨#[]⟩:=rfl;rw[hz] at HT HR;have az:(((e:Nat):Int) !=0)=true:=(by rw[Va0];omega);have aL:=h_ aB;clear h0 aB hz dY dw h he;go_enter Tryz.func156,Tryz.ntmps156;go_wp2_with fail;refine(HN.o).mono ?_;rintro x w1 ⟨rfl,bk,aC⟩;have qy:=h_ (HL.o w1 bk);have mZ:=h_ (HT.o w1 bk);have cP:=h_ ((Fr.of_below (S:=only b) aL.o).trans aC);clear bk aC HN HL HT aL;go_wp2_with fail;refine(qy.o).mono ?_;rintro x w2 ⟨rfl,rfl⟩;clear qy;go_wp2_with fail;refine(mZ.o).mono ?_;rintro x w2 ⟨rfl,bj,ai⟩;have cl:=h_ (cP.o.trans ai);have eW:=h_ bj;clear mZ cP bj ai;go_wp2_with fail;refine(HR.o _).mono ?_;rintro x w3 ⟨rfl,af⟩;have gN:=h_ (cl.o.below af);have ei:RV w3 b s e:=Bk.below eW.o af (Bk.lt eW.o);have WD:=h_ (HE.o w3 ei);have oy:=h_ (λq=>HE.o (w3.drewN q) ei);clear af cl eW HE ei;go_wp2;go_quiet ((go_at_call 87;first|exact Wv.q1 (oy.o _)|exact Wv.q2 (oy.o _)));go_wp2;go_returns;exact⟨gN.o.drewN _,_,rfl⟩
theorem Z6H {w:World} {b n:Nat} {s:ByteArray} {r:List UInt8} (h:RV w b s 0) (hs:s.size<=1000000000) (W:Int) (dK:rnum (toL s) 4096=some (n,r)) (dw:Bit.nrd (bs r)=none):
  Calls Tryz.prog 156 #[.agg #[.int .i64 W],.pointer (some ⟨b,0,none⟩)] w λx w'=>RdrR b w none x w':=by
 obtain⟨dY,bo,dc⟩:=Z0N dK;rw[Zc] at dY;rw[Z1] at dc;have ab:=Bk.lt h;have h0:RV (w.alloc (.cells #[.int .i64 W] 127)) b s 0:=Bk.alloc h _;have aB:=Zy w (.cells #[.int .i64 W] 127);have ad:(bs r).size<=1000000000:=(by rw[Z0];omega);have HN:=h_ (Zi h0 (by omega) 4096);rw[dY] at HN;have HL:=h_ (λW2 (h:RV W2 b (bs r) 0)=>Zt h (by omega));have HT:=h_ (λW2 (h:RV W2 b (bs r) 0)=>Zu h (by omega) ((bs r).size:Int));rw[Z0n] at HT;have HE:=h_ (λW2 (h:RV W2 b (bs []) 0)=>Za h);have HR:=h_ (λW2=>Bio.newreader_none (bs r) W2 (by omega) (by omega) dw);have aL:=h_ aB;have WE:((12:Int) !=0)=true:=(by decide);generalize bs r=S at*;clear h0 aB dY dw h dK;go_enter Tryz.func156,Tryz.ntmps156;go_wp2_with fail;refine(HN.o).mono ?_;rintro x w1 ⟨rfl,bk,aC⟩;have qy:=h_ (HL.o w1 bk);have mZ:=h_ (HT.o w1 bk);have cP:=h_ ((Fr.of_below (S:=only b) aL.o).trans aC);clear bk aC HN HL HT aL;go_wp2_with fail;refine(qy.o).mono ?_;rintro x w2 ⟨rfl,rfl⟩;clear qy;go_wp2_with fail;refine(mZ.o).mono ?_;rintro x w2 ⟨rfl,bj,ai⟩;have cl:=h_ (cP.o.trans ai);have eW:=h_ bj;clear mZ cP bj ai;go_wp2_with fail;refine(HR.o _).mono ?_;rintro x w3 ⟨rfl,af⟩;have gN:=h_ (cl.o.below af);have ei:RV w3 b (bs []) 0:=Bk.below eW.o af (Bk.lt eW.o);have oy:=h_ (λq=>HE.o (w3.drewN q) ei);clear af cl eW HE ei;go_wp2;go_quiet ((go_at_call 87;first|exact Wv.q1 (oy.o _)|exact Wv.q2 (oy.o _)));go_wp2;go_returns;exact⟨gN.o.drewN _,_,rfl⟩
theorem Z6I {w:World} {b n k m:Nat} {s:ByteArray} {r:List UInt8} (h:RV w b s 0) (hs:s.size<=1000000000) (hm:m<=128) (dK:rnum (toL s) 4096=some (n,r)) (hk:Bit.nrd (bs r)=some k) (az:¬k=2*n*m):
  Calls Tryz.prog 156 #[.agg #[.int .i64 (m:Int)],.pointer (some ⟨b,0,none⟩)] w λx w'=>RdrR b w none x w':=by
 obtain⟨dY,bo,dc⟩:=Z0N dK;rw[Zc] at dY;rw[Z1] at dc;have ab:=Bk.lt h;have h0:RV (w.alloc (.cells #[.int .i64 (m:Int)] 127)) b s 0:=Bk.alloc h _;have aB:=Zy w (.cells #[.int .i64 (m:Int)] 127);have bO:=Bk.new w 127 #[.int .i64 (m:Int)];have ad:(bs r).size<=1000000000:=(by rw[Z0];omega);have zN:=(Bit.nrd_le hk).1;have HN:=h_ (Zi h0 (by omega) 4096);rw[dY] at HN;have HL:=h_ (λW2 (h:RV W2 b (bs r) 0)=>Zt h (by omega));have HT:=h_ (λW2 (h:RV W2 b (bs r) 0)=>Zu h (by omega) ((bs r).size:Int));rw[Z0n] at HT;have HE:=h_ (λW2 (h:RV W2 b (bs []) 0)=>Za h);have HR:=h_ (λW2=>Bio.newreader_some (bs r) W2 k hk);have aL:=h_ aB;have iY:=h_ bO;obtain⟨T,hT⟩:∃T,2*n*m=T:=⟨_,rfl⟩
 have Uh:T<=1048576:=by
  rw[<-hT];have:=Nat.mul_le_mul (Nat.mul_le_mul (Vaa 2) bo) hm;omega
 have i1:IntKind.i64.wrap (2*(n:Int))=2*(n:Int):=IntWalk.i64_in _ (by omega)
 have i2:IntKind.i64.wrap (2*(n:Int)*(m:Int))=(T:Int):=by
  have:2*(n:Int)*(m:Int)=(T:Int):=(by rw[<-hT,Vb1,Vb1];rfl);rw[this,IntWalk.i64_in _ (by omega)]
 rw[hT] at az;have Ui:((k:Int) !=(T:Int))=true:=(by rw[Va0];omega);have je:=h_ ab;have I1:=h_ i1;have I2:=h_ i2;generalize bs r=S at*;clear h0 aB bO dY hk h dK hT i1 i2 ab;go_enter Tryz.func156,Tryz.ntmps156;go_wp2_with fail;refine(HN.o).mono ?_;rintro x w1 ⟨rfl,bk,aC⟩;have qy:=h_ (HL.o w1 bk);have mZ:=h_ (HT.o w1 bk);have cP:=h_ ((Fr.of_below (S:=only b) aL.o).trans aC);have fL:=h_ (iY.o.fr aC (by have:=je.o;unfold only;omega));clear bk aC HN HL HT aL iY;go_wp2_with fail;refine(qy.o).mono ?_;rintro x w2 ⟨rfl,rfl⟩;clear qy;go_wp2_with fail;refine(mZ.o).mono ?_;rintro x w2 ⟨rfl,bj,ai⟩;have cl:=h_ (cP.o.trans ai);have im:=h_ (fL.o.fr ai (by have:=je.o;unfold only;omega));have eW:=h_ bj;clear mZ cP bj ai fL;go_wp2_with fail;refine(HR.o _).mono ?_;rintro x w3 ⟨rfl,eU,af⟩;have gN:=h_ (cl.o.below af);have ei:RV w3 b (bs []) 0:=Bk.below eW.o af (Bk.lt eW.o);have fE:w3.cell? ⟨w.heap.size,0,none⟩=some (.int .i64 (m:Int)):=(im.o.below af im.o.lt).cell 0;have oy:=h_ (λq=>HE.o (w3.drewN q) ei)
 have yC:=h_ (λq=>(show Calls Tryz.prog 203 #[.pointer (some ⟨w2.heap.size,0,none⟩)] (w3.drewN q) λe w'=>e=.returned (.int .i64 (k:Int))/\∃p,w'=(w3.drewN q).drewN p by
  have:=Bio.left_any (w:=w3.drewN q) (show Bio.RdAt (w3.drewN q) w2.heap.size S 0 k from eU)
  rwa [show((k:Int)-((0:Nat):Int))=(k:Int) by omega] at this))
 generalize w2.heap.size=BB at*;clear af cl eW HE ei im eU;have i1:=I1.out;have i2:=I2.out;go_wp2
 go_quiet (first
  |(go_at_call 87;first|exact Wv.q1 (oy.o _)|exact Wv.q2 (oy.o _))
  |(go_at_call 203;first|exact Wv.q3 (yC.o _)|exact Wv.q4 (yC.o _)))
 clear i1 i2;go_wp2;go_returns;exact⟨gN.o.drewN _,_,rfl⟩
theorem Z6J {w:World} {b n k m:Nat} {s:ByteArray} {r:List UInt8} (h:RV w b s 0) (hs:s.size<=1000000000) (dC:1<=m) (hm:m<=128) (dK:rnum (toL s) 4096=some (n,r)) (hk:Bit.nrd (bs r)=some k) (az:k=2*n*m):
  Calls Tryz.prog 156 #[.agg #[.int .i64 (m:Int)],.pointer (some ⟨b,0,none⟩)] w λx w'=>RdrR b w (some (QH m n (Bit.rbits (bs r) k))) x w':=by
 obtain⟨dY,bo,dc⟩:=Z0N dK;rw[Zc] at dY;rw[Z1] at dc;have ab:=Bk.lt h;have h0:RV (w.alloc (.cells #[.int .i64 (m:Int)] 127)) b s 0:=Bk.alloc h _;have aB:=Zy w (.cells #[.int .i64 (m:Int)] 127);have bO:=Bk.new w 127 #[.int .i64 (m:Int)];have ad:(bs r).size<=1000000000:=(by rw[Z0];omega);have zN:=(Bit.nrd_le hk).1;rw[Z5o];have nu:k=n*(2*m):=(by rw[az,Vbt 2 n,Vb4]);have IS:=h_ nu;have HN:=h_ (Zi h0 (by omega) 4096);rw[dY] at HN;have HL:=h_ (λW2 (h:RV W2 b (bs r) 0)=>Zt h (by omega));have HT:=h_ (λW2 (h:RV W2 b (bs r) 0)=>Zu h (by omega) ((bs r).size:Int));rw[Z0n] at HT;have HE:=h_ (λW2 (h:RV W2 b (bs []) 0)=>Za h);have HR:=h_ (λW2=>Bio.newreader_some (bs r) W2 k hk);have aL:=h_ aB;have iY:=h_ bO;obtain⟨T,hT⟩:∃T,2*n*m=T:=⟨_,rfl⟩
 have Uh:T<=1048576:=by
  rw[<-hT];have:=Nat.mul_le_mul (Nat.mul_le_mul (Vaa 2) bo) hm;omega
 have i1:IntKind.i64.wrap (2*(n:Int))=2*(n:Int):=IntWalk.i64_in _ (by omega)
 have i2:IntKind.i64.wrap (2*(n:Int)*(m:Int))=(T:Int):=by
  have:2*(n:Int)*(m:Int)=(T:Int):=(by rw[<-hT,Vb1,Vb1];rfl);rw[this,IntWalk.i64_in _ (by omega)]
 rw[hT] at az;have Ui:((k:Int) !=(T:Int))=false:=(by rw[az];exact Vb5 _);clear az;have je:=h_ ab;have I1:=h_ i1;have I2:=h_ i2;generalize bs r=S at*;clear h0 aB bO dY hk h dK hT i1 i2 ab nu;go_enter Tryz.func156,Tryz.ntmps156;go_wp2_with fail;refine(HN.o).mono ?_;rintro x w1 ⟨rfl,bk,aC⟩;have qy:=h_ (HL.o w1 bk);have mZ:=h_ (HT.o w1 bk);have cP:=h_ ((Fr.of_below (S:=only b) aL.o).trans aC);have fL:=h_ (iY.o.fr aC (by have:=je.o;unfold only;omega));clear bk aC HN HL HT aL iY;go_wp2_with fail;refine(qy.o).mono ?_;rintro x w2 ⟨rfl,rfl⟩;clear qy;go_wp2_with fail;refine(mZ.o).mono ?_;rintro x w2 ⟨rfl,bj,ai⟩;have cl:=h_ (cP.o.trans ai);have im:=h_ (fL.o.fr ai (by have:=je.o;unfold only;omega));have eW:=h_ bj;clear mZ cP bj ai fL;go_wp2_with fail;refine(HR.o _).mono ?_;rintro x w3 ⟨rfl,eU,af⟩;have gN:=h_ (cl.o.below af);have ei:RV w3 b (bs []) 0:=Bk.below eW.o af (Bk.lt eW.o);have fE:w3.cell? ⟨w.heap.size,0,none⟩=some (.int .i64 (m:Int)):=(im.o.below af im.o.lt).cell 0;have oy:=h_ (λq=>HE.o (w3.drewN q) ei)
 have yC:=h_ (λq=>(show Calls Tryz.prog 203 #[.pointer (some ⟨w2.heap.size,0,none⟩)] (w3.drewN q) λe w'=>e=.returned (.int .i64 (k:Int))/\∃p,w'=(w3.drewN q).drewN p by
  have:=Bio.left_any (w:=w3.drewN q) (show Bio.RdAt (w3.drewN q) w2.heap.size S 0 k from eU)
  rwa [show((k:Int)-((0:Nat):Int))=(k:Int) by omega] at this))
 have NY:w.heap.size<w2.heap.size:=Va5 im.o.lt UZz;have NZ:w2.heap.size<w3.heap.size:=eU.1.lt;have vt:=h_ (im.o.below af im.o.lt);generalize w2.heap.size=BB at*;have lS:=h_ eU;clear af cl eW HE ei im eU;have i1:=I1.out;have i2:=I2.out;go_wp2
 go_quiet (first
  |(go_at_call 87;first|exact Wv.q1 (oy.o _)|exact Wv.q2 (oy.o _))
  |(go_at_call 203;first|exact Wv.q3 (yC.o _)|exact Wv.q4 (yC.o _)))
 clear i1 i2 oy yC I1 I2;have cE:Hid (Fr (only b) w (w3.drewN nq)):=h_ (gN.o.drewN nq);have mi:Hid (Bio.RdAt (w3.drewN nq) BB S 0 k):=h_ lS.o;have O0:Hid (Bk (w3.drewN nq) w.heap.size 127 #[.int .i64 (m:Int)]):=h_ vt.o;have wZ:BB<(w3.drewN nq).heap.size:=NZ;clear gN lS vt fE NZ;generalize w3.drewN nq=W4 at*;have bG:=Yg (P:=Tryz.prog) 64 9 (.string ⟨#[]⟩) 16 Tryz.underlying64 YC rfl (n:Int) n rfl (by omega) (by omega) W4;have qn:=h_ (Bk.new W4 9 (Array.replicate n (.string ⟨#[]⟩)));have sr:=h_ (cE.o.alloc (.cells (Array.replicate n (.string ⟨#[]⟩)) 9));have sq:=h_ (mi.o.alloc (.cells (Array.replicate n (.string ⟨#[]⟩)) 9));have O1:=h_ (O0.o.alloc (.cells (Array.replicate n (.string ⟨#[]⟩)) 9))
 have fQ:Array.replicate n (.string ⟨#[]⟩:Value)=(svs (gF (λj=>bs (valOf m ((Bit.rbits S k).drop (2*m*j)))) ⟨#[]⟩ n 0)).toArray:=by
  rw[gF_0];unfold svs;rw[List.map_replicate];rfl
 have jX:=h_ fQ;obtain⟨G,hG⟩:∃G,W4.heap.size=G:=⟨_,rfl⟩;rw[hG] at bG qn wZ;generalize W4.alloc (.cells (Array.replicate n (.string ⟨#[]⟩)) 9)=W5 at*;rw[jX.o] at qn;have Ey:=h_ wZ;have Ez:=h_ NY;obtain⟨L,hL⟩:∃L,Bit.rbits S k=L:=⟨_,rfl⟩;have C9:=h_ hL;rw[hL] at qn;clear cE mi O0 fQ jX hG wZ NY hL;go_wp2;go_loopw [46] (λqz wr=>∃j x:Nat,j<=n/\qz=.int .i64 (j:Int)/\Hid (Bio.RdAt wr BB S x k)/\Hid (L.drop x=L.drop (2*m*j))/\Hid (Bk wr G 9 (svs (gF (λj=>bs (valOf m (L.drop (2*m*j)))) ⟨#[]⟩ n j)).toArray)/\Hid (Bk wr w.heap.size 127 #[.int .i64 (m:Int)])/\Hid (Fr (only b) w wr)) (λqz _=>(n-intOf qz).toNat);case atStart=>exact⟨0,0,Vat _,rfl,sq,h_ (by rw[Nat.mul_zero]),qn,O1,sr⟩
 case round=>
  clear sq qn O1 sr bG;obtain⟨j,x,hj,rfl,cG,x6,hk,fg,hf⟩:=hrel;by_cases ab:j<n
  ·have O2:=Yg (P:=Tryz.prog) 115 5 (.int .u8 0) 1 Tryz.underlying115 (by kernel_rfl) rfl (m:Int) m rfl (by omega) (by omega) wr;have vV:wr.cell? ⟨w.heap.size,0,none⟩=some (.int .i64 (m:Int)):=fg.o.cell 0
   have zo:Array.replicate m (.int .u8 0:Value)=((gF (chAt (L.drop (2*m*j))) 0 m 0).map bv).toArray:=by
    rw[gF_0,List.map_replicate];rfl
   have da:=Bk.new wr 5 (Array.replicate m (.int .u8 0));have Ca:=h_ (cG.o.alloc (.cells (Array.replicate m (.int .u8 0)) 5));have O3:=h_ (hk.o.alloc (.cells (Array.replicate m (.int .u8 0)) 5));have Cb:=h_ (fg.o.alloc (.cells (Array.replicate m (.int .u8 0)) 5));have O4:=h_ (hf.o.alloc (.cells (Array.replicate m (.int .u8 0)) 5));have O5:=hk.o.lt;have O6:=hf.o.size;obtain⟨H,hH⟩:∃H,wr.heap.size=H:=⟨_,rfl⟩;have EA:=h_ da;have O7:=h_ zo;have O8:=h_ (show w.heap.size<=H by rw[<-hH];exact O6);have O9:=h_ (show G<H by rw[<-hH];exact O5);rw[hH] at O2 EA;generalize wr.alloc (.cells (Array.replicate m (.int .u8 0)) 5)=W6 at*;rw[O7.o] at EA;clear da zo O7 O5 O6 hH cG hk fg hf;go_wp2;go_loopw [54] (λJa wx=>∃i x:Nat,i<=m/\Ja=.int .i64 (i:Int)/\Hid (Bio.RdAt wx BB S x k)/\Hid (L.drop x=L.drop (2*m*j+2*i))/\Hid (Bk wx H 5 ((gF (chAt (L.drop (2*m*j))) 0 m i).map bv).toArray)/\Hid (Bk wx G 9 (svs (gF (λj=>bs (valOf m (L.drop (2*m*j)))) ⟨#[]⟩ n j)).toArray)/\Hid (Bk wx w.heap.size 127 #[.int .i64 (m:Int)])/\Hid (Fr (only b) w wx)) (λJa _=>(m-intOf Ja).toNat);case atStart=>exact⟨0,x,Vat _,rfl,Ca,h_ (by exact x6.o),EA,O3,Cb,O4⟩
   case round=>
    clear Ca EA O3 Cb O4 O2 vV x6;obtain⟨i,x,hi,rfl,cG,x6,da,hk,fg,hf⟩:=hrel;by_cases bQ:i<m
    ·have vi:2*m*j+2*i+2<=k:=by
      rw[IS.o];have h1:(j+1)*(2*m)<=n*(2*m):=Vb2 _ ab;rw[Vc7,Nat.one_mul,Vbt j] at h1;omega
     have HG:=h_ (Zg4 cG.o (by rw[C9.o];exact x6.o) vi);rw[C9.o] at HG;have eD:=ZkB (L.getD (2*m*j+2*i) false) (L.getD (2*m*j+2*i+1) false)
     have Jb:chAt (L.drop (2*m*j)) i=ch (2*(L.getD (2*m*j+2*i) false).toNat+(L.getD (2*m*j+2*i+1) false).toNat):=by
      unfold chAt;rw[getD_drop,getD_drop];rfl
     obtain⟨cv,Cc⟩:∃cv,2*(L.getD (2*m*j+2*i) false).toNat+(L.getD (2*m*j+2*i+1) false).toNat=cv:=⟨_,rfl⟩;rw[Cc] at HG eD Jb;have HC:=h_ (λW2=>Z7u cv eD W2);have aW:=h_ (Zh7 (chAt (L.drop (2*m*j))) 0 m i bQ);rw[Jb] at aW;have hlen:=Zh6 (chAt (L.drop (2*m*j))) 0 m i hi;have av:=h_ (show i<(gF (chAt (L.drop (2*m*j))) 0 m i).length by rw[hlen];exact bQ);obtain⟨cc,jA⟩:∃cc,ch cv=cc:=⟨_,rfl⟩;rw[jA] at HC aW;have iZ:(0:Int)<=(i:Int):=(by omega);have gi:(i:Int)<(m:Int):=(by omega);clear vi eD Jb Cc hlen jA cG x6;go_wp2_with fail;refine(HG.o).mono ?_;rintro e w1 ⟨y,rfl,Ce,aC,Oa⟩;have n1:=Ey.o;have n2:=Ez.o;have n3:=O9.o;have n4:=O8.o;have sU:=h_ (da.o.fr aC (by unfold only;omega));have fo:=h_ (hk.o.fr aC (by unfold only;omega));have q8:=h_ (fg.o.fr aC (by unfold only;omega));have cP:=h_ (hf.o.trans' aC (λq hq e=>by unfold only at e;omega));have Cf:=h_ Ce;have Ob:=h_ Oa;clear Ce aC Oa HG da hk fg hf n1 n2 n3 n4;go_wp2_with fail;refine(HC.o _).mono ?_;rintro e w2 ⟨rfl,rfl⟩;have hcell:=sU.o.cell i;rw[Vbe,Vbb,Van av.o] at hcell;have fi:=sU.o.frozen i;have aj:=ZiM sU.o i cc;rw[aW.o] at aj;have n1:=Ey.o;have n2:=Ez.o;have n3:=O9.o;have n4:=O8.o;have aA:=h_ aj;have oo:=h_ (fo.o.off (p:=⟨H,i,none⟩) (by simp only;omega) (.int .u8 (cc.toNat:Int)));have nE:=h_ (q8.o.off (p:=⟨H,i,none⟩) (by simp only;omega) (.int .u8 (cc.toNat:Int)));have fO:=h_ (Bio.RdAt.off Cf.o (p:=⟨H,i,none⟩) (by simp only;omega) (.int .u8 (cc.toNat:Int)));have cl:=h_ (cP.o.setCell (p:=⟨H,i,none⟩) (.inr n4) (.int .u8 (cc.toNat:Int)));have sV:=h_ (show L.drop y=L.drop (2*m*j+2*(i+1)) by rw[Ob.o];rfl);generalize (gF (chAt (L.drop (2*m*j))) 0 m i)[i]=OLD at*;clear aj sU fo q8 cP Cf Ob HC aW av n1 n2 n3 n4;go_wp2;go_roundw;case rel=>first|exact⟨i+1,y,bQ,by go_num,fO,sV,aA,oo,nE,cl⟩|((repeat apply Exists.intro);exact⟨⟨i+1,y,bQ,by go_num,fO,sV,aA,oo,nE,cl⟩,rfl⟩)
     case measure=>simp[intOf]<;>omega
    ·have yf:i=m:=(by omega);subst yf;have jj:=da.o;rw[Zh8,<-Z2a] at jj;have Oc:(valOf i (L.drop (2*i*j))).length=i:=(by rw[Z2a,Vag,Vbu])
     have jk:=run_convert_bytes_back (P:=Tryz.prog) wr 115 9 5 ⟨H,0,none⟩ i (valOf i (L.drop (2*i*j))) Tryz.underlying115 Tryz.underlying5 Tryz.underlying9 (λq hq=>by
      rw[Go.WideShapes.add_plain,Vbo,jj.cell q,Vbe,Vbb,Van hq];rfl)
     rw[Oc] at jk;have iw:(⟨(valOf i (L.drop (2*i*j))).toArray⟩:ByteArray)=bs (valOf i (L.drop (2*i*j))):=rfl;rw[iw] at jk;have aW:=h_ (Zh7 (λj=>bs (valOf i (L.drop (2*i*j)))) ⟨#[]⟩ n j ab);have hlen:=Zh6 (λj=>bs (valOf i (L.drop (2*i*j)))) ⟨#[]⟩ n j hj;have av:=h_ (show j<(gF (λj=>bs (valOf i (L.drop (2*i*j)))) ⟨#[]⟩ n j).length by rw[hlen];exact ab);have hcell:=hk.o.cell j;rw[Vbe,Yr _ _ av.o] at hcell;have fi:=hk.o.frozen j;have n1:=Ey.o;have n2:=Ez.o;have aj:=Z1Z hk.o j (bs (valOf i (L.drop (2*i*j))));rw[aW.o] at aj;have aA:=h_ aj;obtain⟨ST,x7⟩:∃s,bs (valOf i (L.drop (2*i*j)))=s:=⟨_,rfl⟩;rw[x7] at jk aA;have nE:=h_ (fg.o.off (p:=⟨G,j,none⟩) (by simp only;omega) (.string ST));have fO:=h_ (Bio.RdAt.off cG.o (p:=⟨G,j,none⟩) (by simp only;omega) (.string ST));have cl:=h_ (hf.o.setCell (p:=⟨G,j,none⟩) (.inr (by simp only;omega)) (.string ST));have sV:=h_ (show L.drop x=L.drop (2*i*(j+1)) by rw[x6.o,Vde,Vcw]);have gI:(0:Int)<=(j:Int):=(by omega);have gi:(j:Int)<(n:Int):=(by omega);generalize (gF (λj=>bs (valOf i (L.drop (2*i*j)))) ⟨#[]⟩ n j)[j]=OLD at*;clear jj Oc iw da hk aj x7 hlen aW av fg cG hf x6 n1 n2;go_wp2;refine⟨⟨j+1,x,ab,by go_num,fO,sV,aA,nE,cl⟩,?_⟩;simp[intOf]<;>omega
  ·have iB:j=n:=(by omega);have aZ:=hk.o;rw[iB,Zh8] at aZ;have fo:=h_ aZ;have n1:=Ey.o;have n2:=Ez.o;have Hl:=h_ (show((List.range n).map (λj=>bs (valOf m (L.drop (2*m*j))))).length=n by rw[Vag,Vbu]);clear aZ hk;go_wp2;go_returns;rw[C9.o];refine⟨hf.o,G,?_,by omega,fo.o⟩;rw[Hl.o];rfl
def FinR (b:Nat) (w:World) (o:Option (List ByteArray)) (x:Ending) (w':World):Prop:=Fr (only b) w w'/\match o with
 |none=>∃A n c,x=.returned (.tuple #[.slice A n c,.bool false])
 |some r=>∃A c,x=.returned (.tuple #[.slice A r.length c,.bool true])/\At w' A (svs r)
theorem Z0O {b:Nat} {w w':World} {o:Option (List ByteArray)} {x:Ending} (h:RdrR b w o x w'):FinR b w o x w':=by
 obtain⟨h1,h2⟩:=h;refine⟨h1,?_⟩;cases o with
 |none=>
  obtain⟨A,h⟩:=h2;exact⟨A,0,0,h⟩
 |some r=>
  obtain⟨g,h,_,hk⟩:=h2;refine⟨_,_,h,?_⟩;have:=hk.at_;rw[Vcl] at this;exact this
theorem Z9v {w : World} {b m : Nat} {s : ByteArray} (h : RV w b s 0) (hs : s.size <= 1000000000) (dC : 1 <= m) (hm : m <= 128) :
    Calls Tryz.prog 156 #[.agg #[.int .i64 (m:Int)],.pointer (some ⟨b,0,none⟩)] w λx w'=>FinR b w (Z1V (m:Int) (toL s)) x w':=by
  unfold Z1V;cases hr:rnum (toL s) 4096 with
  |none=>exact(Z9u h hs _ hr).mono λx w' h=>Z0O h
  |some p=>
    obtain⟨n,r⟩:=p;simp only;cases hk:Bit.nrd (bs r) with
    |none=>exact(Z6H h hs _ hr hk).mono λx w' h=>Z0O h
    |some k=>
      simp only;by_cases az:k=2*n*m
      · rw[Vaf (by rw[az,Vb1,Vb1];rfl),Vav]
        exact(Z6J h hs dC hm hr hk az).mono λx w' h=>Z0O h
      · rw[Vad (λh=>az (by(have h2:((k:Nat):Int)=((2*n*m:Nat):Int):=by rw[h,Vb1,Vb1];rfl);exact Int.ofNat.inj h2))]
        exact(Z6I h hs hm hr hk az).mono λx w' h=>Z0O h
def Zq:Array MapEntry:= #[⟨.int .i64 0,.func (.func 120) #[] #[],0⟩,⟨.int .i64 1,.func (.func 121) #[] #[],1⟩,⟨.int .i64 2,.func (.func 122) #[] #[],2⟩,⟨.int .i64 3,.func (.func 123) #[] #[],3⟩]
theorem ZX (w:World):Calls Tryz.prog 76 #[] w λx w'=>x=.returned (.map (some w.heap.size))/\w.alloc (.map Zq 4)=w':=by
 have jL:= @run_makeMap Tryz.prog;have p0:=Zj (P:=Tryz.prog) Tryz.underlying124 Tryz.underlying3 w #[] 0 0 (.func (.func 120) #[] #[]) rfl;have p1:=Zj (P:=Tryz.prog) Tryz.underlying124 Tryz.underlying3 w #[⟨.int .i64 0,.func (.func 120) #[] #[],0⟩] 1 1 (.func (.func 121) #[] #[]) rfl;have p2:=Zj (P:=Tryz.prog) Tryz.underlying124 Tryz.underlying3 w #[⟨.int .i64 0,.func (.func 120) #[] #[],0⟩,⟨.int .i64 1,.func (.func 121) #[] #[],1⟩] 2 2 (.func (.func 122) #[] #[]) rfl;have p3:=Zj (P:=Tryz.prog) Tryz.underlying124 Tryz.underlying3 w #[⟨.int .i64 0,.func (.func 120) #[] #[],0⟩,⟨.int .i64 1,.func (.func 121) #[] #[],1⟩,⟨.int .i64 2,.func (.func 122) #[] #[],2⟩] 3 3 (.func (.func 123) #[] #[]) rfl;go_enter Tryz.func76,Tryz.ntmps76;go_wp2;go_returns;exact⟨rfl,rfl⟩
theorem Z9w (w:World) (k:Nat) (hk:k<=3) (w2:World) (h2:Below (w.heap.size+1) (w.alloc (.map Zq 4)) w2):(Instr.lookup 124 (.map (some w.heap.size)) (.int .i64 (k:Int)) false).run Tryz.prog w2=.ok (if k=0 then(.func (.func 120) #[] #[]) else if k=1 then(.func (.func 121) #[] #[]) else if k=2 then(.func (.func 122) #[] #[]) else(.func (.func 123) #[] #[])) w2:=by
 have hm:MpV (.int .i64) (w.alloc (.map Zq 4)) w.heap.size (λk=>lk Zq.toList k):=⟨Zq,4,heap_alloc_new w _,(λx hx=>by
  simp only[Zq,Vba,Vcs,or_false] at hx;rcases hx with rfl|rfl|rfl|rfl<;>rfl),λ_ _=>rfl⟩
 have eG:=hm.below h2 (Vc1 _);rcases(show k=0\/k=1\/k=2\/k=3 by omega) with rfl|rfl|rfl|rfl
 ·exact(MpV.get Tryz.underlying124 Tryz.underlying3 eG (.int .i64 ((0:Nat):Int)) _ rfl (XS rfl)).1
 ·exact(MpV.get Tryz.underlying124 Tryz.underlying3 eG (.int .i64 ((1:Nat):Int)) _ rfl ((Yt (by simp)).trans (XS rfl))).1
 ·exact(MpV.get Tryz.underlying124 Tryz.underlying3 eG (.int .i64 ((2:Nat):Int)) _ rfl ((Yt (by simp)).trans ((Yt (by simp)).trans (XS rfl)))).1
 ·exact(MpV.get Tryz.underlying124 Tryz.underlying3 eG (.int .i64 ((3:Nat):Int)) _ rfl ((Yt (by simp)).trans ((Yt (by simp)).trans ((Yt (by simp)).trans (XS rfl))))).1
def Zr:Array MapEntry:= #[⟨.int .i64 0,.func (.func 156) #[] #[],0⟩,⟨.int .i64 1,.func (.func 157) #[] #[],1⟩,⟨.int .i64 2,.func (.func 158) #[] #[],2⟩,⟨.int .i64 3,.func (.func 159) #[] #[],3⟩]
theorem XT (w:World):Calls Tryz.prog 112 #[] w λx w'=>x=.returned (.map (some w.heap.size))/\w.alloc (.map Zr 4)=w':=by
 have jL:= @run_makeMap Tryz.prog;have p0:=Zj (P:=Tryz.prog) Tryz.underlying149 Tryz.underlying3 w #[] 0 0 (.func (.func 156) #[] #[]) rfl;have p1:=Zj (P:=Tryz.prog) Tryz.underlying149 Tryz.underlying3 w #[⟨.int .i64 0,.func (.func 156) #[] #[],0⟩] 1 1 (.func (.func 157) #[] #[]) rfl;have p2:=Zj (P:=Tryz.prog) Tryz.underlying149 Tryz.underlying3 w #[⟨.int .i64 0,.func (.func 156) #[] #[],0⟩,⟨.int .i64 1,.func (.func 157) #[] #[],1⟩] 2 2 (.func (.func 158) #[] #[]) rfl;have p3:=Zj (P:=Tryz.prog) Tryz.underlying149 Tryz.underlying3 w #[⟨.int .i64 0,.func (.func 156) #[] #[],0⟩,⟨.int .i64 1,.func (.func 157) #[] #[],1⟩,⟨.int .i64 2,.func (.func 158) #[] #[],2⟩] 3 3 (.func (.func 159) #[] #[]) rfl;go_enter Tryz.func112,Tryz.ntmps112;go_wp2;go_returns;exact⟨rfl,rfl⟩
theorem Z9x (w:World) (k:Nat) (hk:k<=3) (w2:World) (h2:Below (w.heap.size+1) (w.alloc (.map Zr 4)) w2):(Instr.lookup 149 (.map (some w.heap.size)) (.int .i64 (k:Int)) false).run Tryz.prog w2=.ok (if k=0 then(.func (.func 156) #[] #[]) else if k=1 then(.func (.func 157) #[] #[]) else if k=2 then(.func (.func 158) #[] #[]) else(.func (.func 159) #[] #[])) w2:=by
 have hm:MpV (.int .i64) (w.alloc (.map Zr 4)) w.heap.size (λk=>lk Zr.toList k):=⟨Zr,4,heap_alloc_new w _,(λx hx=>by
  simp only[Zr,Vba,Vcs,or_false] at hx;rcases hx with rfl|rfl|rfl|rfl<;>rfl),λ_ _=>rfl⟩
 have eG:=hm.below h2 (Vc1 _);rcases(show k=0\/k=1\/k=2\/k=3 by omega) with rfl|rfl|rfl|rfl
 ·exact(MpV.get Tryz.underlying149 Tryz.underlying3 eG (.int .i64 ((0:Nat):Int)) _ rfl (XS rfl)).1
 ·exact(MpV.get Tryz.underlying149 Tryz.underlying3 eG (.int .i64 ((1:Nat):Int)) _ rfl ((Yt (by simp)).trans (XS rfl))).1
 ·exact(MpV.get Tryz.underlying149 Tryz.underlying3 eG (.int .i64 ((2:Nat):Int)) _ rfl ((Yt (by simp)).trans ((Yt (by simp)).trans (XS rfl)))).1
 ·exact(MpV.get Tryz.underlying149 Tryz.underlying3 eG (.int .i64 ((3:Nat):Int)) _ rfl ((Yt (by simp)).trans ((Yt (by simp)).trans ((Yt (by simp)).trans (XS rfl))))).1
open Wv.Tm
theorem Z9y (s:ByteArray) (e:Nat) (n:Int):(ZC s e n).2.1.size<=s.size:=by
 unfold ZC;split
 ·split
  ·exact UZz
  ·split
   ·exact UZz
   ·rw[Z0,Va2,Z1];omega
 ·exact UZz
theorem Z0P (s:ByteArray) (e:Nat) (most:Int):(ZR s e most).2.1.size<=s.size:=by
 unfold ZR;split
 ·exact Vaq (Z9y _ _ _) X1
 ·exact UZz
theorem Z85 (r : List UInt8) : ∃ t1 S1 e1 t2 S2 e2 t3 S3 e3 t4 S4 e4, ZR (bs r) 0 128 = (t1, S1, e1) /\ ZR S1 e1 128 = (t2, S2, e2) /\ ZR S2 e2 (S2.size : Int) = (t3, S3, e3) /\ ZC S3 e3 (S3.size : Int) = (t4, S4, e4) /\
    S1.size<=r.length/\S2.size<=r.length/\S3.size<=r.length/\
    ((e4≠0/\∀f s2 st s3 a s4,ZH r 128=some (f,s2)->ZH s2 128=some (st,s3)->ZH s3 s3.length≠some (a,s4))\/
     (e4=0/\∃f s2 st s3 a s4,ZH r 128=some (f,s2)/\ZH s2 128=some (st,s3)/\ZH s3 s3.length=some (a,s4)/\t1=bs f/\t2=bs st/\t3=bs a/\t4=bs s4/\f.length<=128/\st.length<=128/\a.length<=r.length/\s4.length<=r.length)):=by
  obtain⟨⟨t1,S1,e1⟩,h1⟩:∃q,ZR (bs r) 0 128=q:=⟨_,rfl⟩;obtain⟨⟨t2,S2,e2⟩,h2⟩:∃q,ZR S1 e1 128=q:=⟨_,rfl⟩;obtain⟨⟨t3,S3,e3⟩,h3⟩:∃q,ZR S2 e2 (S2.size:Int)=q:=⟨_,rfl⟩;obtain⟨⟨t4,S4,e4⟩,h4⟩:∃q,ZC S3 e3 (S3.size:Int)=q:=⟨_,rfl⟩;have z1:=Z0P (bs r) 0 128;have z2:=Z0P S1 e1 128;have z3:=Z0P S2 e2 (S2.size:Int);rw[h1,Z0] at z1;rw[h2] at z2;rw[h3] at z3;simp only at z1 z2 z3;refine⟨t1,S1,e1,t2,S2,e2,t3,S3,e3,t4,S4,e4,h1,h2,h3,h4,z1,by omega,by omega,?_⟩
  have far:∀ {s:ByteArray} {e:Nat} {n:Int} {t S:ByteArray} {f:Nat},e≠0->ZC s e n=(t,S,f)->f≠0:=λhe h=>by
    unfold ZC at h;rw[Vad he] at h;injection h with _ h;injection h with _ h;rw[<-h];exact he
  obtain⟨q1,Q1,f1,g1,c1⟩:=X4 r 128;rw[show((128:Nat):Int)=128 from rfl,h1] at g1;injection g1 with a1 a2;injection a2 with a2 a3;subst a1;subst a2;subst a3;rcases c1 with ⟨rfl,f,s2,r1,rfl,rfl,l1,l2,l3⟩|⟨dU,r1⟩
  · obtain⟨q2,Q2,f2,g2,c2⟩:=X4 s2 128
    rw[show((128:Nat):Int)=128 from rfl,h2] at g2;injection g2 with a1 a2;injection a2 with a2 a3;subst a1;subst a2;subst a3;rcases c2 with ⟨rfl,st,s3,r2,rfl,rfl,l4,l5,l6⟩|⟨cO,r2⟩
    · obtain⟨q3,Q3,f3,g3,c3⟩:=X4 s3 s3.length
      rw[Z0] at h3;rw[h3] at g3;injection g3 with a1 a2;injection a2 with a2 a3;subst a1;subst a2;subst a3;rcases c3 with ⟨rfl,a,s4,r3,rfl,rfl,l7,l8,l9⟩|⟨uM,r3⟩
      · rw[Z0n] at h4
        injection h4 with b1 b2;injection b2 with b2 b3;subst b1;subst b3;exact .inr ⟨rfl,f,s2,st,s3,a,s4,r1,r2,r3,rfl,rfl,rfl,rfl,l3,l6,by omega,by omega⟩
      · refine .inl ⟨far uM h4,λf' Od Oe Of a' Og k1 k2 k3=> ?_⟩
        rw[r1] at k1;injection k1 with k1;injection k1 with _ k1;subst k1;rw[r2] at k2;injection k2 with k2;injection k2 with _ k2;subst k2;rw[r3] at k3;cases k3
    · rw[YF cO] at h3
      injection h3 with _ b2;injection b2 with _ b3;refine .inl ⟨far (by rw[<-b3];exact cO) h4,λf' Od Oe Of a' Og k1 k2 k3=> ?_⟩;rw[r1] at k1;injection k1 with k1;injection k1 with _ k1;subst k1;rw[r2] at k2;cases k2
  · rw[YF dU] at h2
    injection h2 with _ b2;injection b2 with _ b3;have cO:e2≠0:=(by rw[<-b3];exact dU);rw[YF cO] at h3;injection h3 with _ b2;injection b2 with _ b3;refine .inl ⟨far (by rw[<-b3];exact cO) h4,λf' Od Oe Of a' Og k1 k2 k3=> ?_⟩;rw[r1] at k1;cases k1
def Z5p (w:Int) (n:Nat) (f st:List UInt8) (G:List Int×Nat) (D:List ByteArray×Nat):Option (List ByteArray):=
  if G.2≠0\/D.2≠0 then none else match extL w D.1 with
    |none=>none
    | some vs => if (ext w f).2 ≠ 0 then none else if G.1.length ≠ vs.length then none else
        if st≠[]/\(ext w st).2≠0 then none else
        if(∀g∈G.1,g<(n:Int)) then(runB (atS (-1) G.1) vs (bs (if st=[] then[] else(ext w st).1)) (n-1) 1 (bs (ext w f).1)).map (bs (ext w f).1::·) else none
theorem Z32 {w:Int} {s r f s2 st s3 a s4:List UInt8} {n:Nat} (h0:rnum s 4096=some (n,r)) (hn:n≠0) (h1:ZH r 128=some (f,s2)) (h2:ZH s2 128=some (st,s3)) (h3:ZH s3 s3.length=some (a,s4)):
  YG w s=Z5p w n f st (decn a 4096) (dec s4 4096):=by
 unfold YG Z5p;rw[h0];simp only;rw[Vad hn,h1];simp only;rw[h2];simp only;rw[h3];simp only;split
 ·rfl
 ·have he:extL w [bs f]=if(ext w f).2=0 then some [bs (ext w f).1] else none:=by
   show(if(ext w (toL (bs f))).2=0 then(extL w []).map (bs (ext w (toL (bs f))).1::·) else none)=_;rw[Ze];rfl
  rw[he];cases extL w (dec s4 4096).1 with
  |none=>rfl
  |some vs=>
   by_cases h5:(ext w f).2=0
   ·rw[Vaf h5];simp only;rw[Vad (show ¬(ext w f).2≠0 from λh=>h h5)];rfl
   ·rw[Vad h5];simp only;rw[Vaf (show(ext w f).2≠0 from h5)]
theorem Z33 {w:Int} {s r:List UInt8} {n:Nat} (h0:rnum s 4096=some (n,r)) (hn:n≠0) (hb:∀f s2 st s3 a s4,ZH r 128=some (f,s2)->ZH s2 128=some (st,s3)->ZH s3 s3.length≠some (a,s4)):YG w s=none:=by
 unfold YG;rw[h0];simp only;rw[Vad hn];cases h1:ZH r 128 with
 |none=>rfl
 |some p=>
  obtain⟨f,s2⟩:=p;simp only;cases h2:ZH s2 128 with
  |none=>rfl
  |some p=>
   obtain⟨st,s3⟩:=p;simp only;cases h3:ZH s3 s3.length with
   |none=>rfl
   |some p=>
    obtain⟨a,s4⟩:=p;exact absurd h3 (hb _ _ _ _ _ _ h1 h2)
theorem Z2b {w:Int} {s:List UInt8} (S:ByteArray) (e:Nat) (h:numR (bs s) 0 4096=(0,S,e)):YG w s=if endR S e=0 then some [] else none:=by
 unfold YG;cases h0:rnum s 4096 with
 |none=>
  obtain⟨e',he,hn⟩:=Y1 h0;rw[show((4096:Nat):Int)=4096 from rfl,h] at hn;injection hn with _ hn;injection hn with fR jz;subst jz;simp only;rw[Vad];unfold endR;rw[Vad (λh=>he h.1)];exact he
 |some p=>
  obtain⟨n,r⟩:=p;obtain⟨hn,_,_⟩:=Zp h0;rw[show((4096:Nat):Int)=4096 from rfl,h] at hn;injection hn with o8 hn;injection hn with fR jz;subst o8;subst fR;subst jz;simp only[if_true];unfold endR;rw[Z0];cases r<;>simp
theorem Z2c (a:Int) (v:ByteArray) (k:Int):∀(x:List Int) (vs:List ByteArray),x.length=vs.length->a∉x->look (x++[a]) (vs++[v]) k=if k=a then some v else look x vs k
 |[],[],_,_=>by
  show(if a=k then some v else none)=_;by_cases h:k=a
  ·rw[Vaf h,Vaf h.symm]
  ·rw[Vad h,Vad (λe=>h e.symm)];rfl
 |i::x,u::vs,hl,hn=>by
  show(if i=k then some u else look (x++[a]) (vs++[v]) k)=_;rw[Z2c a v k x vs (by simpa using hl) (λh=>hn (Var _ h))];have tG:i≠a:=λe=>hn (by rw[e];exact Vap);show _=if k=a then some v else(if i=k then some u else look x vs k)
  by_cases h1:i=k
  ·rw[Vaf h1,Vad (by omega),Vaf h1]
  ·rw[Vad h1,Vad h1]
 |[],_::_,hl,_=>by simp at hl
 |_::_,[],hl,_=>by simp at hl
theorem Z86 (g:Int):∀(l:List Int) (last:Int),atS last (l++[g])=atS last l++[(atS last l).getLastD last+1+g]
 |[],last=>rfl
 |a::r,last=>by
  show(last+1+a)::atS (last+1+a) (r++[g])=_;rw[Z86 g r (last+1+a)];show _=(last+1+a)::(atS (last+1+a) r++[((last+1+a)::atS (last+1+a) r).getLastD last+1+g]);congr 4;cases atS (last+1+a) r with
  |nil=>rfl
  |cons b q=>rfl
theorem Z9z (l:List Int):∀last,(atS last l).length=l.length:=by
 induction l with
 |nil=>intro _;rfl
 |cons a r ih=>intro last;show(atS _ r).length+1=_;rw[ih];rfl
theorem Zd0 {n:Int} (hn:0<=n):∀(l:List Int) (last:Int),(∀g∈l,0<=g/\g<n)->(∀t∈atS last l,last<t/\t<=(atS last l).getLastD last)/\last<=(atS last l).getLastD last/\(atS last l).getLastD last<=last+n*l.length
 |[],last,_=>⟨λt h=>(by cases h),Int.le_refl _,by simp[atS]⟩
 |g::r,last,h=>by
  obtain⟨g0,g1⟩:=h g Vap;obtain⟨i1,i2,i3⟩:=Zd0 hn r (last+1+g) (λx hx=>h x (Var _ hx))
  have hl:(atS last (g::r)).getLastD last=(atS (last+1+g) r).getLastD (last+1+g):=by
   show((last+1+g)::atS (last+1+g) r).getLastD last=_;cases atS (last+1+g) r<;>rfl
  rw[hl];refine⟨λt ht=> ?_,by omega,?_⟩
  ·rcases Vba.1 ht with rfl|ht
   ·exact⟨by omega,i2⟩
   ·have:=i1 t ht;omega
  ·rw[Vaz,Vcq,Int.mul_add];simp only[Int.natCast_one,Int.mul_one];omega
end Go.Proofs.YtchokmkfobandaaGreatDoor
namespace Wv
open Go Go.RowKit
theorem Zd1 {P:Program} (t e:TypeId) (z:Value) (bytes:Nat) (ht:P.underlying t=some (.slice e)) (aK:(P.info? e).map (λi=>(i.zero,i.size,i.bytes))=some (some z,1,bytes)) (bN:z.cells.size=1) {w wb:World} {B:Nat} {v:Value} {n:Nat} {xs:List Value} (h:w.ownsRow B e 1 v n xs) (hf:Below B wb w) (hB:B<=w.heap.size) (x:Value) (hx:x.oneCell'=true) (e9:n+1<=maxLen) (aV:(n+1)*bytes<=140737488355328):
  ∃v' w',(Builtin.append_ #[t,t] t #[v,.slice (some ⟨w.heap.size,0,none⟩) 1 1]).run P (w.alloc (.cells #[x] e))=.ok v' w'/\w'.ownsRow B e 1 v' (n+1) (xs++[x])/\Below B wb w'/\(v'.ownBlock=v.ownBlock\/v'.ownBlock=some (w.heap.size+1))/\Fr (λk=>v.ownBlock=some k) (w.alloc (.cells #[x] e)) w'/\
   (∀A vs,At w A vs->(∀b o,A=some ⟨b,o,none⟩->v.ownBlock≠some b)->At w' A vs):=by
 obtain⟨v1,w1,r1,a1,a2,a3,a4,a5⟩:=Zet t e z bytes ht aK bN h hf hB x hx e9 aV;obtain⟨i,hi,hz,hs,dj⟩:=info_parts aK;obtain⟨v',w',hr,h2,h3,_,h5⟩:=run_append_own_at (P:=P) (w.alloc (.cells #[x] e)) B t t e i z 1 bytes ht hi hz hs dj bN (by omega) v n xs (h.alloc _) ⟨w.heap.size,0,none⟩ 1 1 [x] rfl (XC _ _ _) (by simpa using hx) e9 aV (Vaq hB (by simp));have e:=r1.symm.trans hr;injection e with e1 e2;subst e1;subst e2;exact⟨v1,w1,r1,a1,a2,a3,(Fr.refl _ _).grown h3 (λk hk=>.inl hk),a5⟩
theorem QI {S:Nat->Prop} {w a c:World} (h:Fr S w a) (hb:Below w.heap.size a c):Fr S w c:=
 ⟨hb.os.trans h.os,hb.tape.trans h.tape,hb.output.trans h.output,Vaq h.size hb.size,λk hk hn=>(hb.block k hk).trans (h.block k hk hn)⟩
end Wv
namespace Go.Proofs.YtchokmkfobandaaGreatDoor
open Go.RowKit Go.Proofs Wv Wv.Vi Wv.Rc Wv.Mo Wv.Ru Wv.Tm Wv.Bc
theorem ZiN (w:World):(zeroValue 9).run Tryz.prog w=.ok (.string ⟨#[]⟩) w:=by kernel_rfl
def lkM (x:List Int) (vs:List ByteArray):Value->Option Value
 |.int .i64 k=>(look x vs k).map Value.string
 |_=>none
abbrev MI (w:World) (b:Nat) (x:List Int) (vs:List ByteArray):Prop:=MpV (.int .i64) w b (lkM x vs)
theorem ZkC (w:World):MI (w.alloc (.map #[] 0)) w.heap.size [] []:=by
 obtain⟨es,c,h1,h2,h3⟩:=MpV.new (.int .i64) w;refine⟨es,c,h1,h2,λk hk=>(h3 k hk).trans ?_⟩;unfold lkM;split<;>rfl
theorem ZiO {w:World} {b:Nat} {x:List Int} {vs:List ByteArray} (h:MI w b x vs) (k:Int) {v:ByteArray} (hv:look x vs k=some v):(Instr.lookup 266 (.map (some b)) (.int .i64 k) true).run Tryz.prog w=.ok (.tuple #[.string v,.bool true]) w:=
 (MpV.get Tryz.underlying266 Tryz.underlying3 h (.int .i64 k) _ rfl (by show(look x vs k).map Value.string=_;rw[hv];rfl)).2
theorem ZiP {w:World} {b:Nat} {x:List Int} {vs:List ByteArray} (h:MI w b x vs) (k:Int) (hv:look x vs k=none):(Instr.lookup 266 (.map (some b)) (.int .i64 k) true).run Tryz.prog w=.ok (.tuple #[.string ⟨#[]⟩,.bool false]) w:=
 (MpV.miss Tryz.underlying266 Tryz.underlying3 h (.int .i64 k) (.string ⟨#[]⟩) rfl (by show(look x vs k).map Value.string=_;rw[hv];rfl) (ZiN w)).2
theorem ZkD {w:World} {b:Nat} {x:List Int} {vs:List ByteArray} (h:MI w b x vs) (a:Int) (v:ByteArray) (hl:x.length=vs.length) (ha:a∉x):∃w',(Instr.mapUpdate 266 (.map (some b)) (.int .i64 a) (.string v)).run Tryz.prog w=.ok () w'/\MI w' b (x++[a]) (vs++[v])/\Fr (λj=>j=b) w w'/\w'.heap.size=w.heap.size:=by
 obtain⟨w',h1,h2,h3,h4⟩:=MpV.put Tryz.underlying266 Tryz.underlying3 h (.int .i64 a) (.string v) rfl;refine⟨w',h1,h2 _ ?_ (λy hy=> ?_),h3,h4⟩
 ·show(look (x++[a]) (vs++[v]) a).map Value.string=_;rw[Z2c a v a x vs hl ha,Vaf rfl];rfl
 ·unfold lkM;split
  ·rename_i k;rw[Z2c a v k x vs hl ha,Vad (λe=>hy (by rw[e]))]
  ·rfl
theorem Zd2 {w w':World} {b B n:Nat} {x:List Int} {vs:List ByteArray} {v:Value} {xs:List Value} (h:MI w b x vs) (hf:Fr (λk=>v.ownBlock=some k) w w') (ho:w.ownsRow B 9 1 v n xs):MI w' b x vs:=
 h.fr hf (λe=>by
  obtain⟨es,c,h1,_⟩:=h;rcases ho.2 with ⟨rfl,_⟩|⟨g,cap,cur,rfl,_,hg,_⟩
  ·cases e
  ·injection e with e;have e:g=b:=e;subst e;rw[h1] at hg;cases hg)
theorem Z43 {k:Int} {v:ByteArray} :∀(x:List Int) (vs:List ByteArray),look x vs k=some v->v∈vs
 |i::x,u::vs,h=>by
  have h2:(if i=k then some u else look x vs k)=some v:=h;by_cases hi:i=k
  ·rw[Vaf hi] at h2;injection h2 with h2;rw[h2];exact Vap
  ·rw[Vad hi] at h2;exact Var _ (Z43 x vs h2)
 |[],[],h=>by cases h
 |[],_::_,h=>by cases h
 |_::_,[],h=>by cases h
theorem Z6K {w w':World} {o:Option (List ByteArray)} {x:Ending} (h:LgR w o x w'):∃A k ok,x=.returned (.tuple #[.slice A k k,.bool ok])/\Below w.heap.size w w'/\((ok=false/\o=none)\/(ok=true/\∃r g,o=some r/\k=r.length/\A=some ⟨g,0,none⟩/\w.heap.size<=g/\Bk w' g 9 (svs r).toArray)):=by
 obtain⟨h1,h2⟩:=h;cases o with
 |none=>obtain⟨A,h⟩:=h2;exact⟨A,0,false,h,h1,.inl ⟨rfl,rfl⟩⟩
 |some r=>obtain⟨g,h,hg,hk⟩:=h2;exact⟨_,_,true,h,h1,.inr ⟨rfl,r,g,rfl,rfl,rfl,hg,hk⟩⟩
theorem YQ {b:Nat} {w w':World} {A:Option Addr} {n c:Nat} {o:Option (List ByteArray)} (hf:Fr (only b) w w') (ho:o=none):FinR b w o (.returned (.tuple #[.slice A n c,.bool false])) w':=by
 subst ho;exact⟨hf,_,_,_,rfl⟩
theorem Z87 {w:World} {b:Nat} {s:ByteArray} (h:RV w b s 0) (hs:s.size<=1000000000) (W:Int) {S:ByteArray} {e:Nat} (hN:numR s 0 4096=(0,S,e)):
  Calls Tryz.prog 157 #[.agg #[.int .i64 W],.pointer (some ⟨b,0,none⟩)] w λx w'=>FinR b w (if endR S e=0 then some [] else none) x w':=by
 have aB:=Zy w (.cells #[.int .i64 W] 127);have h0:RV (w.alloc (.cells #[.int .i64 W] 127)) b s 0:=Bk.alloc h _;have HN:=h_ (Zi h0 (by omega) 4096);rw[hN] at HN;have HE:=h_ (λW2 (h:RV W2 b S e)=>Z3s h);have aL:=h_ aB;generalize endR S e=E at*;clear h0 aB hN h;by_cases h0:E=0
 ·rw[Vaf h0];subst h0;go_enter Tryz.func157,Tryz.ntmps157;go_wp2_with fail;refine(HN.o).mono ?_;rintro x w1 ⟨rfl,bk,aC⟩;have rl:=h_ (HE.o w1 bk);have cP:=h_ ((Fr.of_below (S:=only b) aL.o).trans aC);clear bk aC HN HE aL;go_wp2_with fail;refine(rl.o).mono ?_;rintro x w2 ⟨rfl,ai⟩;have cl:=h_ (cP.o.trans ai);clear ai cP rl;go_wp2;go_returns;exact⟨cl.o,none,0,rfl,At.nil _ _⟩
 ·rw[Vad h0];have az:((E:Int)==0)=false:=(by rw[Vam];omega);go_enter Tryz.func157,Tryz.ntmps157;go_wp2_with fail;refine(HN.o).mono ?_;rintro x w1 ⟨rfl,bk,aC⟩;have rl:=h_ (HE.o w1 bk);have cP:=h_ ((Fr.of_below (S:=only b) aL.o).trans aC);clear bk aC HN HE aL;go_wp2_with fail;refine(rl.o).mono ?_;rintro x w2 ⟨rfl,ai⟩;have cl:=h_ (cP.o.trans ai);clear ai cP rl;go_wp2;go_returns;exact⟨cl.o,_,_,_,rfl⟩
def CtP (b:Nat) (w:World) (W:Int) (S:ByteArray) (e:Nat) (w1:World):Prop:=Fr (only b) w w1/\Bk w1 w.heap.size 127 #[.int .i64 W]/\RV w1 b S e
theorem CtP.next {b:Nat} {w w1 w2:World} {W:Int} {S S':ByteArray} {e e':Nat} (h:CtP b w W S e w1) (ab:b<w.heap.size) (hv:RV w2 b S' e') (hf:Fr (only b) w1 w2):CtP b w W S' e' w2:=
 ⟨h.1.trans hf,h.2.1.fr hf (by unfold only;omega),hv⟩
def CtQ (b:Nat) (w:World) (W:Int) (w1:World):Prop:=Fr (only b) w w1/\Bk w1 w.heap.size 127 #[.int .i64 W]
theorem CtQ.next {b:Nat} {w w1 w2:World} {W:Int} (h:CtQ b w W w1) (hb:Below w1.heap.size w1 w2):CtQ b w W w2:=⟨h.1.below hb,h.2.below hb h.2.lt⟩
theorem Zd3 {w:World} {B g:Nat} {e:TypeId} {l:List ByteArray} (h:Bk w g e (svs l).toArray) (hB:B<=g) (hl:l.length<=maxLen):w.ownsRow B e 1 (.slice (some ⟨g,0,none⟩) l.length l.length) l.length (svs l):=
 ⟨by rw[Z6r,Vcw],.inr ⟨g,l.length,(svs l).toArray,rfl,hB,h,UZz,hl,by simp[Z6r],by
  simp only[Vcw];rw[<-Z6r l];simp⟩⟩
theorem ZiQ (l:List Int) (i:Nat) (h:i<l.length):(ivs l)[i]? =some (.int .i64 l[i]):=by simp[ivs,iv,h]
theorem Z6L {w:Int} {u:List UInt8} (h:(ext w u).2=0):(ext w u).1.length<=128:=by
 have:=Zav (w:=w) (s:=u) (v:=(ext w u).1) (Prod.ext rfl h);exact(Zv.1 (ZM.1 this).1).2.2
def CtM (b:Nat) (w:World) (A1:Option Addr) (G:List Int) (gv:Nat) (vs:List ByteArray) (gf:Nat) (F:ByteArray) (w1:World):Prop:=Fr (only b) w w1/\At w1 A1 (ivs G)/\Bk w1 gv 9 (svs vs).toArray/\Bk w1 gf 9 (svs [F]).toArray/\w.heap.size<=gf
theorem CtM.next {b:Nat} {w w1 w2:World} {A1:Option Addr} {G:List Int} {gv gf:Nat} {vs:List ByteArray} {F:ByteArray} (h:CtM b w A1 G gv vs gf F w1) (hb:Below w1.heap.size w1 w2):CtM b w A1 G gv vs gf F w2:=
 ⟨h.1.below hb,h.2.1.below hb,h.2.2.1.below hb h.2.2.1.lt,h.2.2.2.1.below hb h.2.2.2.1.lt,h.2.2.2.2⟩
end Go.Proofs.YtchokmkfobandaaGreatDoor
