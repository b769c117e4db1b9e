import Derived.Test.YtchokmkfobandaaGreatDoorJ34
import Derived.Test.YtchokmkfobandaaGreatDoorJ26
set_option linter.unusedVariables false
set_option linter.unusedSimpArgs false
set_option maxRecDepth 100000
set_option maxHeartbeats 8000000
namespace Go.Proofs.YtchokmkfobandaaGreatDoor
open Go.RowKit Go.Proofs Wv Wv.Vi Wv.Rc Wv.Mo Wv.Ru Wv.Bc
def gF {β:Type} (F:Nat->β) (z:β) (n i:Nat):List β:=(List.range i).map F++List.replicate (n-i) z
theorem ZkI {β:Type} (F:Nat->β) (z:β) (n i:Nat) (h:i<=n):(gF F z n i).length=n:=by
 unfold gF;rw[List.length_append,List.length_map,List.length_range,List.length_replicate];omega
theorem ZkJ {β:Type} (F:Nat->β) (z:β) (n i:Nat) (h:i<n):(gF F z n i).set i (F i)=gF F z n (i+1):=by
 unfold gF;rw[List.set_append_right _ _ (by rw[List.length_map,List.length_range];exact Nat.le_refl _),List.length_map,List.length_range,Nat.sub_self,show n-i=(n-(i+1))+1 by omega,List.replicate_succ,List.set_cons_zero,List.range_succ,List.map_append,List.append_assoc];rfl
theorem ZkK {β:Type} (F:Nat->β) (z:β) (n:Nat):gF F z n n=(List.range n).map F:=by
 unfold gF;rw[Nat.sub_self,List.replicate_zero,List.append_nil]
theorem gF_0 {β:Type} (F:Nat->β) (z:β) (n:Nat):gF F z n 0=List.replicate n z:=rfl
def chAt (L:List Bool) (i:Nat):UInt8:=ch (2*(L.getD (2*i) false).toNat+(L.getD (2*i+1) false).toNat)
theorem getD_drop (L:List Bool) (a i:Nat):(L.drop a).getD i false=L.getD (a+i) false:=by
 rw[List.getD_eq_getElem?_getD,List.getD_eq_getElem?_getD,List.getElem?_drop]
theorem Z67 (L:List Bool) (k:Nat):valOf k L=(List.range k).map (chAt L):=by
 induction k generalizing L with
 |zero=>rfl
 |succ k ih=>
  rw[valOf,ih,List.range_succ_eq_map,List.map_cons,List.map_map];congr 1;apply List.map_congr_left;intro i _;show chAt (L.drop 2) i=chAt L (i+1);unfold chAt;rw[getD_drop,getD_drop,show 2+2*i=2*(i+1) by omega,show 2+(2*i+1)=2*(i+1)+1 by omega]
theorem Z9p (L:List Bool) (m n:Nat):Z3G m n L=(List.range n).map (λj=>bs (valOf m (L.drop (2*m*j)))):=by
 induction n generalizing L with
 |zero=>rfl
 |succ n ih=>
  rw[Z3G,ih,List.range_succ_eq_map,List.map_cons,List.map_map];congr 1;apply List.map_congr_left;intro j _;show bs (valOf m ((L.drop (2*m)).drop (2*m*j)))=bs (valOf m (L.drop (2*m*(j+1))));rw[List.drop_drop,show 2*m+2*m*j=2*m*(j+1) by rw[Nat.mul_add,Nat.mul_one,Nat.add_comm]]
theorem Zmr {L:List Bool} (h:2<=L.length):Bit.getm 0 2 3 L=(L.drop 2,2*(L.getD 0 false).toNat+(L.getD 1 false).toNat,0):=by
 match L,h with
 |a::b::r,_=>cases a<;>cases b<;>rfl
theorem Zo7 (a b:Bool):2*a.toNat+b.toNat<4:=by cases a<;>cases b<;>decide
theorem Zms {w:World} {g:Nat} {t:TypeId} {l:List UInt8} (h:Bk w g t (l.map bv).toArray) (i:Nat) (x:UInt8):Bk (w.setCell ⟨g,i,none⟩ (.int .u8 (x.toNat:Int))) g t ((l.set i x).map bv).toArray:=by
 have:=h.put i (bv x);rw[List.setIfInBounds_toArray] at this;rw[List.map_set];exact this
theorem ZjN {w:World} {b x n a:Nat} {s:ByteArray} (h:Bio.RdAt w b s x n) (hx:(Bit.rbits s n).drop x=(Bit.rbits s n).drop a) (ha:a+2<=n):
  Calls Tryz.prog 204 #[.pointer (some ⟨b,0,none⟩),.int .i64 0,.int .i64 2,.int .i64 3] w λe w'=>∃y,e=.returned (.tuple #[.int .i64 ((2*((Bit.rbits s n).getD a false).toNat+((Bit.rbits s n).getD (a+1) false).toNat:Nat):Int),.int .i64 0])/\Bio.RdAt w' b s y n/\Fr (only b) w w'/\(Bit.rbits s n).drop y=(Bit.rbits s n).drop (a+2):=by
 have hg:=Bio.get0 h 2 3 (by omega) (by omega);have hlen:2<=((Bit.rbits s n).drop a).length:=(by rw[List.length_drop,Bit.rbits_length];omega);rw[hx,Zmr hlen] at hg;rw[getD_drop,getD_drop,Nat.add_zero,List.drop_drop] at hg;refine hg.mono ?_;rintro e w1 ⟨y,rfl,h1,h2,h3⟩;exact⟨y,rfl,h1,h2,h3.symm⟩
theorem Bio.RdAt.off {w:World} {b x n:Nat} {s:ByteArray} (h:Bio.RdAt w b s x n) {p:Addr} (hp:b≠p.block) (u:Value):Bio.RdAt (w.setCell p u) b s x n:=⟨h.1.off hp u,h.2⟩
theorem Z4N {s:List UInt8} {n:Nat} {r:List UInt8} (h:rnum s 4096=some (n,r)):numR (bs s) 0 4096=(n,bs r,0)/\n<=4096/\r.length<=s.length:=Z0l h
theorem Zdo {w:World} {b:Nat} {s:ByteArray} (h:RV w b s 0) (hs:s.size<=1000000000) (W:Int) (dt:rnum (toL s) 4096=none):
  Calls Tryz.prog 156 #[.agg #[.int .i64 W],.pointer (some ⟨b,0,none⟩)] w λx w'=>RdrR b w none x w':=by
 obtain⟨e,he,dS⟩:=Z11 dt;rw[Z09,show(((4096:Nat):Int))=4096 from rfl] at dS;have ab:=Bk.lt h;have h0:RV (w.alloc (.cells #[.int .i64 W] 127)) b s 0:=Bk.alloc h _;have aA:=Z0y w (.cells #[.int .i64 W] 127);have HN:=h_ (Z0h h0 (by omega) 4096);rw[dS] at HN;have HL:=h_ (λW2 (h:RV W2 b s e)=>Z0r h (by omega));have HT:=h_ (λW2 (h:RV W2 b s e)=>Z0s h (by omega) (s.size:Int));rw[Z5N he] at HT;have HE:=h_ (λW2 (h:RV W2 b s e)=>Z0a h);have HR:=h_ (λW2=>Bio.newreader_none (bs []) W2 (by rw[Z00];simp) (by rw[Z00];simp) (by rfl));have hz:bs ([]:List UInt8)=⟨#[]⟩:=rfl;rw[hz] at HT HR;have ay:(((e:Nat):Int) !=0)=true:=(by rw[bne_iff_ne];omega);have aI:=h_ aA;clear h0 aA hz dS dt h he;go_enter Tryz.func156,Tryz.ntmps156;go_wp2_with fail;refine(HN.o).mono ?_;rintro x w1 ⟨rfl,aW,aB⟩;have qj:=h_ (HL.o w1 aW);have mE:=h_ (HT.o w1 aW);have cG:=h_ ((Fr.of_below (S:=only b) aI.o).trans aB);clear aW aB HN HL HT aI;go_wp2_with fail;refine(qj.o).mono ?_;rintro x w2 ⟨rfl,rfl⟩;clear qj;go_wp2_with fail;refine(mE.o).mono ?_;rintro x w2 ⟨rfl,bj,ah⟩;have bW:=h_ (cG.o.trans ah);have eK:=h_ bj;clear mE cG bj ah;go_wp2_with fail;refine(HR.o _).mono ?_;rintro x w3 ⟨rfl,ae⟩;have gz:=h_ (bW.o.below ae);have dX:RV w3 b s e:=Bk.below eK.o ae (Bk.lt eK.o);have V1:=h_ (HE.o w3 dX);have oa:=h_ (λq=>HE.o (w3.drewN q) dX);clear ae bW eK HE dX;go_wp2;go_quiet ((go_at_call 87;first|exact Wv.q1 (oa.o _)|exact Wv.q2 (oa.o _)));go_wp2;go_returns;exact⟨gz.o.drewN _,_,rfl⟩
theorem ZaD {w:World} {b n:Nat} {s:ByteArray} {r:List UInt8} (h:RV w b s 0) (hs:s.size<=1000000000) (W:Int) (dH:rnum (toL s) 4096=some (n,r)) (dt:Bit.nrd (bs r)=none):
  Calls Tryz.prog 156 #[.agg #[.int .i64 W],.pointer (some ⟨b,0,none⟩)] w λx w'=>RdrR b w none x w':=by
 obtain⟨dS,bu,cT⟩:=Z4N dH;rw[Z09] at dS;rw[Z01] at cT;have ab:=Bk.lt h;have h0:RV (w.alloc (.cells #[.int .i64 W] 127)) b s 0:=Bk.alloc h _;have aA:=Z0y w (.cells #[.int .i64 W] 127);have ad:(bs r).size<=1000000000:=(by rw[Z00];omega);have HN:=h_ (Z0h h0 (by omega) 4096);rw[dS] at HN;have HL:=h_ (λW2 (h:RV W2 b (bs r) 0)=>Z0r h (by omega));have HT:=h_ (λW2 (h:RV W2 b (bs r) 0)=>Z0s h (by omega) ((bs r).size:Int));rw[Z4m] at HT;have HE:=h_ (λW2 (h:RV W2 b (bs []) 0)=>Z0a h);have HR:=h_ (λW2=>Bio.newreader_none (bs r) W2 (by omega) (by omega) dt);have aI:=h_ aA;have V2:((12:Int) !=0)=true:=(by decide);generalize bs r=S at*;clear h0 aA dS dt h dH;go_enter Tryz.func156,Tryz.ntmps156;go_wp2_with fail;refine(HN.o).mono ?_;rintro x w1 ⟨rfl,aW,aB⟩;have qj:=h_ (HL.o w1 aW);have mE:=h_ (HT.o w1 aW);have cG:=h_ ((Fr.of_below (S:=only b) aI.o).trans aB);clear aW aB HN HL HT aI;go_wp2_with fail;refine(qj.o).mono ?_;rintro x w2 ⟨rfl,rfl⟩;clear qj;go_wp2_with fail;refine(mE.o).mono ?_;rintro x w2 ⟨rfl,bj,ah⟩;have bW:=h_ (cG.o.trans ah);have eK:=h_ bj;clear mE cG bj ah;go_wp2_with fail;refine(HR.o _).mono ?_;rintro x w3 ⟨rfl,ae⟩;have gz:=h_ (bW.o.below ae);have dX:RV w3 b (bs []) 0:=Bk.below eK.o ae (Bk.lt eK.o);have oa:=h_ (λq=>HE.o (w3.drewN q) dX);clear ae bW eK HE dX;go_wp2;go_quiet ((go_at_call 87;first|exact Wv.q1 (oa.o _)|exact Wv.q2 (oa.o _)));go_wp2;go_returns;exact⟨gz.o.drewN _,_,rfl⟩
theorem ZaE {w:World} {b n k m:Nat} {s:ByteArray} {r:List UInt8} (h:RV w b s 0) (hs:s.size<=1000000000) (hm:m<=128) (dH:rnum (toL s) 4096=some (n,r)) (hk:Bit.nrd (bs r)=some k) (ay:¬k=2*n*m):
  Calls Tryz.prog 156 #[.agg #[.int .i64 (m:Int)],.pointer (some ⟨b,0,none⟩)] w λx w'=>RdrR b w none x w':=by
 obtain⟨dS,bu,cT⟩:=Z4N dH;rw[Z09] at dS;rw[Z01] at cT;have ab:=Bk.lt h;have h0:RV (w.alloc (.cells #[.int .i64 (m:Int)] 127)) b s 0:=Bk.alloc h _;have aA:=Z0y w (.cells #[.int .i64 (m:Int)] 127);have bN:=Bk.new w 127 #[.int .i64 (m:Int)];have ad:(bs r).size<=1000000000:=(by rw[Z00];omega);have za:=(Bit.nrd_le hk).1;have HN:=h_ (Z0h h0 (by omega) 4096);rw[dS] at HN;have HL:=h_ (λW2 (h:RV W2 b (bs r) 0)=>Z0r h (by omega));have HT:=h_ (λW2 (h:RV W2 b (bs r) 0)=>Z0s h (by omega) ((bs r).size:Int));rw[Z4m] at HT;have HE:=h_ (λW2 (h:RV W2 b (bs []) 0)=>Z0a h);have HR:=h_ (λW2=>Bio.newreader_some (bs r) W2 k hk);have aI:=h_ aA;have iK:=h_ bN;obtain⟨T,hT⟩:∃T,2*n*m=T:=⟨_,rfl⟩
 have SJ:T<=1048576:=by
  rw[<-hT];have:=Nat.mul_le_mul (Nat.mul_le_mul (Nat.le_refl 2) bu) hm;omega
 have i1:IntKind.i64.wrap (2*(n:Int))=2*(n:Int):=IntWalk.i64_in _ (by omega)
 have i2:IntKind.i64.wrap (2*(n:Int)*(m:Int))=(T:Int):=by
  have:2*(n:Int)*(m:Int)=(T:Int):=(by rw[<-hT,Int.natCast_mul,Int.natCast_mul];rfl);rw[this,IntWalk.i64_in _ (by omega)]
 rw[hT] at ay;have SK:((k:Int) !=(T:Int))=true:=(by rw[bne_iff_ne];omega);have iO:=h_ ab;have I1:=h_ i1;have I2:=h_ i2;generalize bs r=S at*;clear h0 aA bN dS hk h dH hT i1 i2 ab;go_enter Tryz.func156,Tryz.ntmps156;go_wp2_with fail;refine(HN.o).mono ?_;rintro x w1 ⟨rfl,aW,aB⟩;have qj:=h_ (HL.o w1 aW);have mE:=h_ (HT.o w1 aW);have cG:=h_ ((Fr.of_below (S:=only b) aI.o).trans aB);have fy:=h_ (iK.o.fr aB (by have:=iO.o;unfold only;omega));clear aW aB HN HL HT aI iK;go_wp2_with fail;refine(qj.o).mono ?_;rintro x w2 ⟨rfl,rfl⟩;clear qj;go_wp2_with fail;refine(mE.o).mono ?_;rintro x w2 ⟨rfl,bj,ah⟩;have bW:=h_ (cG.o.trans ah);have gX:=h_ (fy.o.fr ah (by have:=iO.o;unfold only;omega));have eK:=h_ bj;clear mE cG bj ah fy;go_wp2_with fail;refine(HR.o _).mono ?_;rintro x w3 ⟨rfl,eJ,ae⟩;have gz:=h_ (bW.o.below ae);have dX:RV w3 b (bs []) 0:=Bk.below eK.o ae (Bk.lt eK.o);have fl:w3.cell? ⟨w.heap.size,0,none⟩=some (.int .i64 (m:Int)):=(gX.o.below ae gX.o.lt).cell 0;have oa:=h_ (λq=>HE.o (w3.drewN q) dX)
 have xV:=h_ (λq=>(show Calls Tryz.prog 203 #[.pointer (some ⟨w2.heap.size,0,none⟩)] (w3.drewN q) λe w'=>e=.returned (.int .i64 (k:Int))/\∃p,w'=(w3.drewN q).drewN p by
  have:=Bio.left_any (w:=w3.drewN q) (show Bio.RdAt (w3.drewN q) w2.heap.size S 0 k from eJ)
  rwa [show((k:Int)-((0:Nat):Int))=(k:Int) by omega] at this))
 generalize w2.heap.size=BB at*;clear ae bW eK HE dX gX eJ;have i1:=I1.out;have i2:=I2.out;go_wp2
 go_quiet (first
  |(go_at_call 87;first|exact Wv.q1 (oa.o _)|exact Wv.q2 (oa.o _))
  |(go_at_call 203;first|exact Wv.q3 (xV.o _)|exact Wv.q4 (xV.o _)))
 clear i1 i2;go_wp2;go_returns;exact⟨gz.o.drewN _,_,rfl⟩
theorem ZaF {w:World} {b n k m:Nat} {s:ByteArray} {r:List UInt8} (h:RV w b s 0) (hs:s.size<=1000000000) (dh:1<=m) (hm:m<=128) (dH:rnum (toL s) 4096=some (n,r)) (hk:Bit.nrd (bs r)=some k) (ay:k=2*n*m):
  Calls Tryz.prog 156 #[.agg #[.int .i64 (m:Int)],.pointer (some ⟨b,0,none⟩)] w λx w'=>RdrR b w (some (Z3G m n (Bit.rbits (bs r) k))) x w':=by
 obtain⟨dS,bu,cT⟩:=Z4N dH;rw[Z09] at dS;rw[Z01] at cT;have ab:=Bk.lt h;have h0:RV (w.alloc (.cells #[.int .i64 (m:Int)] 127)) b s 0:=Bk.alloc h _;have aA:=Z0y w (.cells #[.int .i64 (m:Int)] 127);have bN:=Bk.new w 127 #[.int .i64 (m:Int)];have ad:(bs r).size<=1000000000:=(by rw[Z00];omega);have za:=(Bit.nrd_le hk).1;rw[Z9p];have mY:k=n*(2*m):=(by rw[ay,Nat.mul_comm 2 n,Nat.mul_assoc]);have Iu:=h_ mY;have HN:=h_ (Z0h h0 (by omega) 4096);rw[dS] at HN;have HL:=h_ (λW2 (h:RV W2 b (bs r) 0)=>Z0r h (by omega));have HT:=h_ (λW2 (h:RV W2 b (bs r) 0)=>Z0s h (by omega) ((bs r).size:Int));rw[Z4m] at HT;have HE:=h_ (λW2 (h:RV W2 b (bs []) 0)=>Z0a h);have HR:=h_ (λW2=>Bio.newreader_some (bs r) W2 k hk);have aI:=h_ aA;have iK:=h_ bN;obtain⟨T,hT⟩:∃T,2*n*m=T:=⟨_,rfl⟩
 have SJ:T<=1048576:=by
  rw[<-hT];have:=Nat.mul_le_mul (Nat.mul_le_mul (Nat.le_refl 2) bu) hm;omega
 have i1:IntKind.i64.wrap (2*(n:Int))=2*(n:Int):=IntWalk.i64_in _ (by omega)
 have i2:IntKind.i64.wrap (2*(n:Int)*(m:Int))=(T:Int):=by
  have:2*(n:Int)*(m:Int)=(T:Int):=(by rw[<-hT,Int.natCast_mul,Int.natCast_mul];rfl);rw[this,IntWalk.i64_in _ (by omega)]
 rw[hT] at ay;have SK:((k:Int) !=(T:Int))=false:=(by rw[ay];exact bne_self_eq_false _);clear ay;have iO:=h_ ab;have I1:=h_ i1;have I2:=h_ i2;generalize bs r=S at*;clear h0 aA bN dS hk h dH hT i1 i2 ab mY;go_enter Tryz.func156,Tryz.ntmps156;go_wp2_with fail;refine(HN.o).mono ?_;rintro x w1 ⟨rfl,aW,aB⟩;have qj:=h_ (HL.o w1 aW);have mE:=h_ (HT.o w1 aW);have cG:=h_ ((Fr.of_below (S:=only b) aI.o).trans aB);have fy:=h_ (iK.o.fr aB (by have:=iO.o;unfold only;omega));clear aW aB HN HL HT aI iK;go_wp2_with fail;refine(qj.o).mono ?_;rintro x w2 ⟨rfl,rfl⟩;clear qj;go_wp2_with fail;refine(mE.o).mono ?_;rintro x w2 ⟨rfl,bj,ah⟩;have bW:=h_ (cG.o.trans ah);have gX:=h_ (fy.o.fr ah (by have:=iO.o;unfold only;omega));have eK:=h_ bj;clear mE cG bj ah fy;go_wp2_with fail;refine(HR.o _).mono ?_;rintro x w3 ⟨rfl,eJ,ae⟩;have gz:=h_ (bW.o.below ae);have dX:RV w3 b (bs []) 0:=Bk.below eK.o ae (Bk.lt eK.o);have fl:w3.cell? ⟨w.heap.size,0,none⟩=some (.int .i64 (m:Int)):=(gX.o.below ae gX.o.lt).cell 0;have oa:=h_ (λq=>HE.o (w3.drewN q) dX)
 have xV:=h_ (λq=>(show Calls Tryz.prog 203 #[.pointer (some ⟨w2.heap.size,0,none⟩)] (w3.drewN q) λe w'=>e=.returned (.int .i64 (k:Int))/\∃p,w'=(w3.drewN q).drewN p by
  have:=Bio.left_any (w:=w3.drewN q) (show Bio.RdAt (w3.drewN q) w2.heap.size S 0 k from eJ)
  rwa [show((k:Int)-((0:Nat):Int))=(k:Int) by omega] at this))
 have NK:w.heap.size<w2.heap.size:=Nat.lt_of_lt_of_le gX.o.lt (Nat.le_refl _);have NL:w2.heap.size<w3.heap.size:=eJ.1.lt;have uF:=h_ (gX.o.below ae gX.o.lt);generalize w2.heap.size=BB at*;have lu:=h_ eJ;clear ae bW eK HE dX gX eJ;have i1:=I1.out;have i2:=I2.out;go_wp2
 go_quiet (first
  |(go_at_call 87;first|exact Wv.q1 (oa.o _)|exact Wv.q2 (oa.o _))
  |(go_at_call 203;first|exact Wv.q3 (xV.o _)|exact Wv.q4 (xV.o _)))
 clear i1 i2 oa xV I1 I2;have cQ:Hid (Fr (only b) w (w3.drewN nq)):=h_ (gz.o.drewN nq);have lM:Hid (Bio.RdAt (w3.drewN nq) BB S 0 k):=h_ lu.o;have NM:Hid (Bk (w3.drewN nq) w.heap.size 127 #[.int .i64 (m:Int)]):=h_ uF.o;have vV:BB<(w3.drewN nq).heap.size:=NL;clear gz lu uF fl NL;generalize w3.drewN nq=W4 at*;have bE:=Z1g (P:=Tryz.prog) 64 9 (.string ⟨#[]⟩) 16 Tryz.underlying64 Z1x rfl (n:Int) n rfl (by omega) (by omega) W4;have pZ:=h_ (Bk.new W4 9 (Array.replicate n (.string ⟨#[]⟩)));have rM:=h_ (cQ.o.alloc (.cells (Array.replicate n (.string ⟨#[]⟩)) 9));have rL:=h_ (lM.o.alloc (.cells (Array.replicate n (.string ⟨#[]⟩)) 9));have NN:=h_ (NM.o.alloc (.cells (Array.replicate n (.string ⟨#[]⟩)) 9))
 have fE:Array.replicate n (.string ⟨#[]⟩:Value)=(svs (gF (λj=>bs (valOf m ((Bit.rbits S k).drop (2*m*j)))) ⟨#[]⟩ n 0)).toArray:=by
  rw[gF_0];unfold svs;rw[List.map_replicate];rfl
 have jJ:=h_ fE;obtain⟨G,hG⟩:∃G,W4.heap.size=G:=⟨_,rfl⟩;rw[hG] at bE pZ vV;generalize W4.alloc (.cells (Array.replicate n (.string ⟨#[]⟩)) 9)=W5 at*;rw[jJ.o] at pZ;have DT:=h_ vV;have DU:=h_ NK;obtain⟨L,hL⟩:∃L,Bit.rbits S k=L:=⟨_,rfl⟩;have By:=h_ hL;rw[hL] at pZ;clear cQ lM NM fE jJ hG vV NK hL;go_wp2;go_loopw [46] (λqk wr=>∃j x:Nat,j<=n/\qk=.int .i64 (j:Int)/\Hid (Bio.RdAt wr BB S x k)/\Hid (L.drop x=L.drop (2*m*j))/\Hid (Bk wr G 9 (svs (gF (λj=>bs (valOf m (L.drop (2*m*j)))) ⟨#[]⟩ n j)).toArray)/\Hid (Bk wr w.heap.size 127 #[.int .i64 (m:Int)])/\Hid (Fr (only b) w wr)) (λqk _=>(n-intOf qk).toNat);case atStart=>exact⟨0,0,Nat.zero_le _,rfl,rL,h_ (by rw[Nat.mul_zero]),pZ,NN,rM⟩
 case round=>
  clear rL pZ NN rM bE;obtain⟨j,x,hj,rfl,cB,vW,hk,eR,hf⟩:=hrel;by_cases ab:j<n
  ·have NO:=Z1g (P:=Tryz.prog) 115 5 (.int .u8 0) 1 Tryz.underlying115 (by kernel_rfl) rfl (m:Int) m rfl (by omega) (by omega) wr;have vj:wr.cell? ⟨w.heap.size,0,none⟩=some (.int .i64 (m:Int)):=eR.o.cell 0
   have xg:Array.replicate m (.int .u8 0:Value)=((gF (chAt (L.drop (2*m*j))) 0 m 0).map bv).toArray:=by
    rw[gF_0,List.map_replicate];rfl
   have cS:=Bk.new wr 5 (Array.replicate m (.int .u8 0));have Bz:=h_ (cB.o.alloc (.cells (Array.replicate m (.int .u8 0)) 5));have NP:=h_ (hk.o.alloc (.cells (Array.replicate m (.int .u8 0)) 5));have BA:=h_ (eR.o.alloc (.cells (Array.replicate m (.int .u8 0)) 5));have NQ:=h_ (hf.o.alloc (.cells (Array.replicate m (.int .u8 0)) 5));have NR:=hk.o.lt;have NT:=hf.o.size;obtain⟨H,hH⟩:∃H,wr.heap.size=H:=⟨_,rfl⟩;have DW:=h_ cS;have NU:=h_ xg;have NW:=h_ (show w.heap.size<=H by rw[<-hH];exact NT);have NX:=h_ (show G<H by rw[<-hH];exact NR);rw[hH] at NO DW;generalize wr.alloc (.cells (Array.replicate m (.int .u8 0)) 5)=W6 at*;rw[NU.o] at DW;clear cS xg NU NR NT hH cB hk eR hf;go_wp2;go_loopw [54] (λIV wx=>∃i x:Nat,i<=m/\IV=.int .i64 (i:Int)/\Hid (Bio.RdAt wx BB S x k)/\Hid (L.drop x=L.drop (2*m*j+2*i))/\Hid (Bk wx H 5 ((gF (chAt (L.drop (2*m*j))) 0 m i).map bv).toArray)/\Hid (Bk wx G 9 (svs (gF (λj=>bs (valOf m (L.drop (2*m*j)))) ⟨#[]⟩ n j)).toArray)/\Hid (Bk wx w.heap.size 127 #[.int .i64 (m:Int)])/\Hid (Fr (only b) w wx)) (λIV _=>(m-intOf IV).toNat);case atStart=>exact⟨0,x,Nat.zero_le _,rfl,Bz,h_ (by exact vW.o),DW,NP,BA,NQ⟩
   case round=>
    clear Bz DW NP BA NQ NO vj vW;obtain⟨i,x,hi,rfl,cB,vW,cS,hk,eR,hf⟩:=hrel;by_cases bK:i<m
    ·have ux:2*m*j+2*i+2<=k:=by
      rw[Iu.o];have h1:(j+1)*(2*m)<=n*(2*m):=Nat.mul_le_mul_right _ ab;rw[Nat.add_mul,Nat.one_mul,Nat.mul_comm j] at h1;omega
     have HG:=h_ (ZjN cB.o (by rw[By.o];exact vW.o) ux);rw[By.o] at HG;have ew:=Zo7 (L.getD (2*m*j+2*i) false) (L.getD (2*m*j+2*i+1) false)
     have IW:chAt (L.drop (2*m*j)) i=ch (2*(L.getD (2*m*j+2*i) false).toNat+(L.getD (2*m*j+2*i+1) false).toNat):=by
      unfold chAt;rw[getD_drop,getD_drop];rfl
     obtain⟨cv,BD⟩:∃cv,2*(L.getD (2*m*j+2*i) false).toNat+(L.getD (2*m*j+2*i+1) false).toNat=cv:=⟨_,rfl⟩;rw[BD] at HG ew IW;have HC:=h_ (λW2=>Zbq cv ew W2);have aT:=h_ (ZkJ (chAt (L.drop (2*m*j))) 0 m i bK);rw[IW] at aT;have hlen:=ZkI (chAt (L.drop (2*m*j))) 0 m i hi;have aq:=h_ (show i<(gF (chAt (L.drop (2*m*j))) 0 m i).length by rw[hlen];exact bK);obtain⟨cc,jk⟩:∃cc,ch cv=cc:=⟨_,rfl⟩;rw[jk] at HC aT;have ji:(0:Int)<=(i:Int):=(by omega);have fS:(i:Int)<(m:Int):=(by omega);clear ux ew IW BD hlen jk cB vW;go_wp2_with fail;refine(HG.o).mono ?_;rintro e w1 ⟨y,rfl,BE,aB,NY⟩;have n1:=DT.o;have n2:=DU.o;have n3:=NX.o;have n4:=NW.o;have sr:=h_ (cS.o.fr aB (by unfold only;omega));have fP:=h_ (hk.o.fr aB (by unfold only;omega));have pH:=h_ (eR.o.fr aB (by unfold only;omega));have cG:=h_ (hf.o.trans' aB (λq hq e=>by unfold only at e;omega));have BF:=h_ BE;have NZ:=h_ NY;clear BE aB NY HG cS hk eR hf n1 n2 n3 n4;go_wp2_with fail;refine(HC.o _).mono ?_;rintro e w2 ⟨rfl,rfl⟩;have hcell:=sr.o.cell i;rw[List.getElem?_toArray,List.getElem?_map,List.getElem?_eq_getElem aq.o] at hcell;have eU:=sr.o.frozen i;have aj:=Zms sr.o i cc;rw[aT.o] at aj;have n1:=DT.o;have n2:=DU.o;have n3:=NX.o;have n4:=NW.o;have av:=h_ aj;have nW:=h_ (fP.o.off (p:=⟨H,i,none⟩) (by simp only;omega) (.int .u8 (cc.toNat:Int)));have ni:=h_ (pH.o.off (p:=⟨H,i,none⟩) (by simp only;omega) (.int .u8 (cc.toNat:Int)));have fC:=h_ (Bio.RdAt.off BF.o (p:=⟨H,i,none⟩) (by simp only;omega) (.int .u8 (cc.toNat:Int)));have bW:=h_ (cG.o.setCell (p:=⟨H,i,none⟩) (.inr n4) (.int .u8 (cc.toNat:Int)));have ss:=h_ (show L.drop y=L.drop (2*m*j+2*(i+1)) by rw[NZ.o];rfl);generalize (gF (chAt (L.drop (2*m*j))) 0 m i)[i]=OLD at*;clear aj sr fP pH cG BF NZ HC aT aq n1 n2 n3 n4;go_wp2;go_roundw;case rel=>first|exact⟨i+1,y,bK,by go_num,fC,ss,av,nW,ni,bW⟩|((repeat apply Exists.intro);exact⟨⟨i+1,y,bK,by go_num,fC,ss,av,nW,ni,bW⟩,rfl⟩)
     case measure=>simp[intOf]<;>omega
    ·have xz:i=m:=(by omega);subst xz;have iU:=cS.o;rw[ZkK,<-Z67] at iU;have O0:(valOf i (L.drop (2*i*j))).length=i:=(by rw[Z67,List.length_map,List.length_range])
     have iV:=run_convert_bytes_back (P:=Tryz.prog) wr 115 9 5 ⟨H,0,none⟩ i (valOf i (L.drop (2*i*j))) Tryz.underlying115 Tryz.underlying5 Tryz.underlying9 (λq hq=>by
      rw[Go.WideShapes.add_plain,Nat.zero_add,iU.cell q,List.getElem?_toArray,List.getElem?_map,List.getElem?_eq_getElem hq];rfl)
     rw[O0] at iV;have ic:(⟨(valOf i (L.drop (2*i*j))).toArray⟩:ByteArray)=bs (valOf i (L.drop (2*i*j))):=rfl;rw[ic] at iV;have aT:=h_ (ZkJ (λj=>bs (valOf i (L.drop (2*i*j)))) ⟨#[]⟩ n j ab);have hlen:=ZkI (λj=>bs (valOf i (L.drop (2*i*j)))) ⟨#[]⟩ n j hj;have aq:=h_ (show j<(gF (λj=>bs (valOf i (L.drop (2*i*j)))) ⟨#[]⟩ n j).length by rw[hlen];exact ab);have hcell:=hk.o.cell j;rw[List.getElem?_toArray,Z1p _ _ aq.o] at hcell;have eU:=hk.o.frozen j;have n1:=DT.o;have n2:=DU.o;have aj:=Z5W hk.o j (bs (valOf i (L.drop (2*i*j))));rw[aT.o] at aj;have av:=h_ aj;obtain⟨ST,vX⟩:∃s,bs (valOf i (L.drop (2*i*j)))=s:=⟨_,rfl⟩;rw[vX] at iV av;have ni:=h_ (eR.o.off (p:=⟨G,j,none⟩) (by simp only;omega) (.string ST));have fC:=h_ (Bio.RdAt.off cB.o (p:=⟨G,j,none⟩) (by simp only;omega) (.string ST));have bW:=h_ (hf.o.setCell (p:=⟨G,j,none⟩) (.inr (by simp only;omega)) (.string ST));have ss:=h_ (show L.drop x=L.drop (2*i*(j+1)) by rw[vW.o,Nat.mul_add,Nat.mul_one]);have hU:(0:Int)<=(j:Int):=(by omega);have fS:(j:Int)<(n:Int):=(by omega);generalize (gF (λj=>bs (valOf i (L.drop (2*i*j)))) ⟨#[]⟩ n j)[j]=OLD at*;clear iU O0 ic cS hk aj vX hlen aT aq eR cB hf vW n1 n2;go_wp2;refine⟨⟨j+1,x,ab,by go_num,fC,ss,av,ni,bW⟩,?_⟩;simp[intOf]<;>omega
  ·have im:j=n:=(by omega);have aP:=hk.o;rw[im,ZkK] at aP;have fP:=h_ aP;have n1:=DT.o;have n2:=DU.o;have Hl:=h_ (show((List.range n).map (λj=>bs (valOf m (L.drop (2*m*j))))).length=n by rw[List.length_map,List.length_range]);clear aP hk;go_wp2;go_returns;rw[By.o];refine⟨hf.o,G,?_,by omega,fP.o⟩;rw[Hl.o];rfl
def FinR (b:Nat) (w:World) (o:Option (List ByteArray)) (x:Ending) (w':World):Prop:=Fr (only b) w w'/\match o with
 |none=>∃A n c,x=.returned (.tuple #[.slice A n c,.bool false])
 |some r=>∃A c,x=.returned (.tuple #[.slice A r.length c,.bool true])/\At w' A (svs r)
theorem Z4O {b:Nat} {w w':World} {o:Option (List ByteArray)} {x:Ending} (h:RdrR b w o x w'):FinR b w o x w':=by
 obtain⟨h1,h2⟩:=h;refine⟨h1,?_⟩;cases o with
 |none=>
  obtain⟨A,h⟩:=h2;exact⟨A,0,0,h⟩
 |some r=>
  obtain⟨g,h,_,hk⟩:=h2;refine⟨_,_,h,?_⟩;have:=hk.at_;rw[List.toList_toArray] at this;exact this
theorem Zdp {w : World} {b m : Nat} {s : ByteArray} (h : RV w b s 0) (hs : s.size <= 1000000000) (dh : 1 <= m) (hm : m <= 128) :
    Calls Tryz.prog 156 #[.agg #[.int .i64 (m:Int)],.pointer (some ⟨b,0,none⟩)] w λx w'=>FinR b w (Z5R (m:Int) (toL s)) x w':=by
  unfold Z5R;cases hr:rnum (toL s) 4096 with
  |none=>exact(Zdo h hs _ hr).mono λx w' h=>Z4O h
  |some p=>
    obtain⟨n,r⟩:=p;simp only;cases hk:Bit.nrd (bs r) with
    |none=>exact(ZaD h hs _ hr hk).mono λx w' h=>Z4O h
    |some k=>
      simp only;by_cases ay:k=2*n*m
      · rw[if_pos (by rw[ay,Int.natCast_mul,Int.natCast_mul];rfl),Int.toNat_natCast]
        exact(ZaF h hs dh hm hr hk ay).mono λx w' h=>Z4O h
      · rw[if_neg (λh=>ay (by(have h2:((k:Nat):Int)=((2*n*m:Nat):Int):=by rw[h,Int.natCast_mul,Int.natCast_mul];rfl);exact Int.ofNat.inj h2))]
        exact(ZaE h hs hm hr hk ay).mono λx w' h=>Z4O h
def Z0m:Array MapEntry:= #[⟨.int .i64 0,.func (.func 120) #[] #[],0⟩,⟨.int .i64 1,.func (.func 121) #[] #[],1⟩,⟨.int .i64 2,.func (.func 122) #[] #[],2⟩,⟨.int .i64 3,.func (.func 123) #[] #[],3⟩]
theorem Z0X (w:World):Calls Tryz.prog 76 #[] w λx w'=>x=.returned (.map (some w.heap.size))/\w.alloc (.map Z0m 4)=w':=by
 have jw:= @run_makeMap Tryz.prog;have p0:=Z0i (P:=Tryz.prog) Tryz.underlying124 Tryz.underlying3 w #[] 0 0 (.func (.func 120) #[] #[]) rfl;have p1:=Z0i (P:=Tryz.prog) Tryz.underlying124 Tryz.underlying3 w #[⟨.int .i64 0,.func (.func 120) #[] #[],0⟩] 1 1 (.func (.func 121) #[] #[]) rfl;have p2:=Z0i (P:=Tryz.prog) Tryz.underlying124 Tryz.underlying3 w #[⟨.int .i64 0,.func (.func 120) #[] #[],0⟩,⟨.int .i64 1,.func (.func 121) #[] #[],1⟩] 2 2 (.func (.func 122) #[] #[]) rfl;have p3:=Z0i (P:=Tryz.prog) Tryz.underlying124 Tryz.underlying3 w #[⟨.int .i64 0,.func (.func 120) #[] #[],0⟩,⟨.int .i64 1,.func (.func 121) #[] #[],1⟩,⟨.int .i64 2,.func (.func 122) #[] #[],2⟩] 3 3 (.func (.func 123) #[] #[]) rfl;go_enter Tryz.func76,Tryz.ntmps76;go_wp2;go_returns;exact⟨rfl,rfl⟩
theorem Zdq (w:World) (k:Nat) (hk:k<=3) (w2:World) (h2:Below (w.heap.size+1) (w.alloc (.map Z0m 4)) w2):(Instr.lookup 124 (.map (some w.heap.size)) (.int .i64 (k:Int)) false).run Tryz.prog w2=.ok (if k=0 then(.func (.func 120) #[] #[]) else if k=1 then(.func (.func 121) #[] #[]) else if k=2 then(.func (.func 122) #[] #[]) else(.func (.func 123) #[] #[])) w2:=by
 have hm:MpV (.int .i64) (w.alloc (.map Z0m 4)) w.heap.size (λk=>lk Z0m.toList k):=⟨Z0m,4,heap_alloc_new w _,(λx hx=>by
  simp only[Z0m,List.mem_cons,List.not_mem_nil,or_false] at hx;rcases hx with rfl|rfl|rfl|rfl<;>rfl),λ_ _=>rfl⟩
 have eA:=hm.below h2 (Nat.lt_succ_self _);rcases(show k=0\/k=1\/k=2\/k=3 by omega) with rfl|rfl|rfl|rfl
 ·exact(MpV.get Tryz.underlying124 Tryz.underlying3 eA (.int .i64 ((0:Nat):Int)) _ rfl (Z2T rfl)).1
 ·exact(MpV.get Tryz.underlying124 Tryz.underlying3 eA (.int .i64 ((1:Nat):Int)) _ rfl ((Z1q (by simp)).trans (Z2T rfl))).1
 ·exact(MpV.get Tryz.underlying124 Tryz.underlying3 eA (.int .i64 ((2:Nat):Int)) _ rfl ((Z1q (by simp)).trans ((Z1q (by simp)).trans (Z2T rfl)))).1
 ·exact(MpV.get Tryz.underlying124 Tryz.underlying3 eA (.int .i64 ((3:Nat):Int)) _ rfl ((Z1q (by simp)).trans ((Z1q (by simp)).trans ((Z1q (by simp)).trans (Z2T rfl))))).1
def Z0n:Array MapEntry:= #[⟨.int .i64 0,.func (.func 156) #[] #[],0⟩,⟨.int .i64 1,.func (.func 157) #[] #[],1⟩,⟨.int .i64 2,.func (.func 158) #[] #[],2⟩,⟨.int .i64 3,.func (.func 159) #[] #[],3⟩]
theorem Z2U (w:World):Calls Tryz.prog 112 #[] w λx w'=>x=.returned (.map (some w.heap.size))/\w.alloc (.map Z0n 4)=w':=by
 have jw:= @run_makeMap Tryz.prog;have p0:=Z0i (P:=Tryz.prog) Tryz.underlying149 Tryz.underlying3 w #[] 0 0 (.func (.func 156) #[] #[]) rfl;have p1:=Z0i (P:=Tryz.prog) Tryz.underlying149 Tryz.underlying3 w #[⟨.int .i64 0,.func (.func 156) #[] #[],0⟩] 1 1 (.func (.func 157) #[] #[]) rfl;have p2:=Z0i (P:=Tryz.prog) Tryz.underlying149 Tryz.underlying3 w #[⟨.int .i64 0,.func (.func 156) #[] #[],0⟩,⟨.int .i64 1,.func (.func 157) #[] #[],1⟩] 2 2 (.func (.func 158) #[] #[]) rfl;have p3:=Z0i (P:=Tryz.prog) Tryz.underlying149 Tryz.underlying3 w #[⟨.int .i64 0,.func (.func 156) #[] #[],0⟩,⟨.int .i64 1,.func (.func 157) #[] #[],1⟩,⟨.int .i64 2,.func (.func 158) #[] #[],2⟩] 3 3 (.func (.func 159) #[] #[]) rfl;go_enter Tryz.func112,Tryz.ntmps112;go_wp2;go_returns;exact⟨rfl,rfl⟩
theorem Zdr (w:World) (k:Nat) (hk:k<=3) (w2:World) (h2:Below (w.heap.size+1) (w.alloc (.map Z0n 4)) w2):(Instr.lookup 149 (.map (some w.heap.size)) (.int .i64 (k:Int)) false).run Tryz.prog w2=.ok (if k=0 then(.func (.func 156) #[] #[]) else if k=1 then(.func (.func 157) #[] #[]) else if k=2 then(.func (.func 158) #[] #[]) else(.func (.func 159) #[] #[])) w2:=by
 have hm:MpV (.int .i64) (w.alloc (.map Z0n 4)) w.heap.size (λk=>lk Z0n.toList k):=⟨Z0n,4,heap_alloc_new w _,(λx hx=>by
  simp only[Z0n,List.mem_cons,List.not_mem_nil,or_false] at hx;rcases hx with rfl|rfl|rfl|rfl<;>rfl),λ_ _=>rfl⟩
 have eA:=hm.below h2 (Nat.lt_succ_self _);rcases(show k=0\/k=1\/k=2\/k=3 by omega) with rfl|rfl|rfl|rfl
 ·exact(MpV.get Tryz.underlying149 Tryz.underlying3 eA (.int .i64 ((0:Nat):Int)) _ rfl (Z2T rfl)).1
 ·exact(MpV.get Tryz.underlying149 Tryz.underlying3 eA (.int .i64 ((1:Nat):Int)) _ rfl ((Z1q (by simp)).trans (Z2T rfl))).1
 ·exact(MpV.get Tryz.underlying149 Tryz.underlying3 eA (.int .i64 ((2:Nat):Int)) _ rfl ((Z1q (by simp)).trans ((Z1q (by simp)).trans (Z2T rfl)))).1
 ·exact(MpV.get Tryz.underlying149 Tryz.underlying3 eA (.int .i64 ((3:Nat):Int)) _ rfl ((Z1q (by simp)).trans ((Z1q (by simp)).trans ((Z1q (by simp)).trans (Z2T rfl))))).1
open Wv.Tm
theorem Zds (s:ByteArray) (e:Nat) (n:Int):(Z0C s e n).2.1.size<=s.size:=by
 unfold Z0C;split
 ·split
  ·exact Nat.le_refl _
  ·split
   ·exact Nat.le_refl _
   ·rw[Z00,List.length_drop,Z01];omega
 ·exact Nat.le_refl _
theorem Z4P (s:ByteArray) (e:Nat) (most:Int):(Z0S s e most).2.1.size<=s.size:=by
 unfold Z0S;split
 ·exact Nat.le_trans (Zds _ _ _) Z1W
 ·exact Nat.le_refl _
theorem Zc2 (r : List UInt8) : ∃ t1 S1 e1 t2 S2 e2 t3 S3 e3 t4 S4 e4, Z0S (bs r) 0 128 = (t1, S1, e1) /\ Z0S S1 e1 128 = (t2, S2, e2) /\ Z0S S2 e2 (S2.size : Int) = (t3, S3, e3) /\ Z0C S3 e3 (S3.size : Int) = (t4, S4, e4) /\
    S1.size<=r.length/\S2.size<=r.length/\S3.size<=r.length/\
    ((e4≠0/\∀f s2 st s3 a s4,Z0H r 128=some (f,s2)->Z0H s2 128=some (st,s3)->Z0H s3 s3.length≠some (a,s4))\/
     (e4=0/\∃f s2 st s3 a s4,Z0H r 128=some (f,s2)/\Z0H s2 128=some (st,s3)/\Z0H s3 s3.length=some (a,s4)/\t1=bs f/\t2=bs st/\t3=bs a/\t4=bs s4/\f.length<=128/\st.length<=128/\a.length<=r.length/\s4.length<=r.length)):=by
  obtain⟨⟨t1,S1,e1⟩,h1⟩:∃q,Z0S (bs r) 0 128=q:=⟨_,rfl⟩;obtain⟨⟨t2,S2,e2⟩,h2⟩:∃q,Z0S S1 e1 128=q:=⟨_,rfl⟩;obtain⟨⟨t3,S3,e3⟩,h3⟩:∃q,Z0S S2 e2 (S2.size:Int)=q:=⟨_,rfl⟩;obtain⟨⟨t4,S4,e4⟩,h4⟩:∃q,Z0C S3 e3 (S3.size:Int)=q:=⟨_,rfl⟩;have z1:=Z4P (bs r) 0 128;have z2:=Z4P S1 e1 128;have z3:=Z4P S2 e2 (S2.size:Int);rw[h1,Z00] at z1;rw[h2] at z2;rw[h3] at z3;simp only at z1 z2 z3;refine⟨t1,S1,e1,t2,S2,e2,t3,S3,e3,t4,S4,e4,h1,h2,h3,h4,z1,by omega,by omega,?_⟩
  have far:∀ {s:ByteArray} {e:Nat} {n:Int} {t S:ByteArray} {f:Nat},e≠0->Z0C s e n=(t,S,f)->f≠0:=λhe h=>by
    unfold Z0C at h;rw[if_neg he] at h;injection h with _ h;injection h with _ h;rw[<-h];exact he
  obtain⟨q1,Q1,f1,g1,c1⟩:=Z20 r 128;rw[show((128:Nat):Int)=128 from rfl,h1] at g1;injection g1 with a1 a2;injection a2 with a2 a3;subst a1;subst a2;subst a3;rcases c1 with ⟨rfl,f,s2,r1,rfl,rfl,l1,l2,l3⟩|⟨eB,r1⟩
  · obtain⟨q2,Q2,f2,g2,c2⟩:=Z20 s2 128
    rw[show((128:Nat):Int)=128 from rfl,h2] at g2;injection g2 with a1 a2;injection a2 with a2 a3;subst a1;subst a2;subst a3;rcases c2 with ⟨rfl,st,s3,r2,rfl,rfl,l4,l5,l6⟩|⟨cF,r2⟩
    · obtain⟨q3,Q3,f3,g3,c3⟩:=Z20 s3 s3.length
      rw[Z00] at h3;rw[h3] at g3;injection g3 with a1 a2;injection a2 with a2 a3;subst a1;subst a2;subst a3;rcases c3 with ⟨rfl,a,s4,r3,rfl,rfl,l7,l8,l9⟩|⟨u9,r3⟩
      · rw[Z4m] at h4
        injection h4 with b1 b2;injection b2 with b2 b3;subst b1;subst b3;exact .inr ⟨rfl,f,s2,st,s3,a,s4,r1,r2,r3,rfl,rfl,rfl,rfl,l3,l6,by omega,by omega⟩
      · refine .inl ⟨far u9 h4,λf' O1 O2 O3 a' O4 k1 k2 k3=> ?_⟩
        rw[r1] at k1;injection k1 with k1;injection k1 with _ k1;subst k1;rw[r2] at k2;injection k2 with k2;injection k2 with _ k2;subst k2;rw[r3] at k3;cases k3
    · rw[Z1A cF] at h3
      injection h3 with _ b2;injection b2 with _ b3;refine .inl ⟨far (by rw[<-b3];exact cF) h4,λf' O1 O2 O3 a' O4 k1 k2 k3=> ?_⟩;rw[r1] at k1;injection k1 with k1;injection k1 with _ k1;subst k1;rw[r2] at k2;cases k2
  · rw[Z1A eB] at h2
    injection h2 with _ b2;injection b2 with _ b3;have cF:e2≠0:=(by rw[<-b3];exact eB);rw[Z1A cF] at h3;injection h3 with _ b2;injection b2 with _ b3;refine .inl ⟨far (by rw[<-b3];exact cF) h4,λf' O1 O2 O3 a' O4 k1 k2 k3=> ?_⟩;rw[r1] at k1;cases k1
def Z9q (w:Int) (n:Nat) (f st:List UInt8) (G:List Int×Nat) (D:List ByteArray×Nat):Option (List ByteArray):=
  if G.2≠0\/D.2≠0 then none else match extL w D.1 with
    |none=>none
    | some vs => if (ext w f).2 ≠ 0 then none else if G.1.length ≠ vs.length then none else
        if st≠[]/\(ext w st).2≠0 then none else
        if(∀g∈G.1,g<(n:Int)) then(runB (atS (-1) G.1) vs (bs (if st=[] then[] else(ext w st).1)) (n-1) 1 (bs (ext w f).1)).map (bs (ext w f).1::·) else none
theorem Z6W {w:Int} {s r f s2 st s3 a s4:List UInt8} {n:Nat} (h0:rnum s 4096=some (n,r)) (hn:n≠0) (h1:Z0H r 128=some (f,s2)) (h2:Z0H s2 128=some (st,s3)) (h3:Z0H s3 s3.length=some (a,s4)):
  Z1B w s=Z9q w n f st (decn a 4096) (dec s4 4096):=by
 unfold Z1B Z9q;rw[h0];simp only;rw[if_neg hn,h1];simp only;rw[h2];simp only;rw[h3];simp only;split
 ·rfl
 ·have he:extL w [bs f]=if(ext w f).2=0 then some [bs (ext w f).1] else none:=by
   show(if(ext w (toL (bs f))).2=0 then(extL w []).map (bs (ext w (toL (bs f))).1::·) else none)=_;rw[Z0d];rfl
  rw[he];cases extL w (dec s4 4096).1 with
  |none=>rfl
  |some vs=>
   by_cases h5:(ext w f).2=0
   ·rw[if_pos h5];simp only;rw[if_neg (show ¬(ext w f).2≠0 from λh=>h h5)];rfl
   ·rw[if_neg h5];simp only;rw[if_pos (show(ext w f).2≠0 from h5)]
theorem Z6X {w:Int} {s r:List UInt8} {n:Nat} (h0:rnum s 4096=some (n,r)) (hn:n≠0) (hb:∀f s2 st s3 a s4,Z0H r 128=some (f,s2)->Z0H s2 128=some (st,s3)->Z0H s3 s3.length≠some (a,s4)):Z1B w s=none:=by
 unfold Z1B;rw[h0];simp only;rw[if_neg hn];cases h1:Z0H r 128 with
 |none=>rfl
 |some p=>
  obtain⟨f,s2⟩:=p;simp only;cases h2:Z0H s2 128 with
  |none=>rfl
  |some p=>
   obtain⟨st,s3⟩:=p;simp only;cases h3:Z0H s3 s3.length with
   |none=>rfl
   |some p=>
    obtain⟨a,s4⟩:=p;exact absurd h3 (hb _ _ _ _ _ _ h1 h2)
theorem Z68 {w:Int} {s:List UInt8} (S:ByteArray) (e:Nat) (h:numR (bs s) 0 4096=(0,S,e)):Z1B w s=if endR S e=0 then some [] else none:=by
 unfold Z1B;cases h0:rnum s 4096 with
 |none=>
  obtain⟨e',he,hn⟩:=Z11 h0;rw[show((4096:Nat):Int)=4096 from rfl,h] at hn;injection hn with _ hn;injection hn with fF jj;subst jj;simp only;rw[if_neg];unfold endR;rw[if_neg (λh=>he h.1)];exact he
 |some p=>
  obtain⟨n,r⟩:=p;obtain⟨hn,_,_⟩:=Z0l h0;rw[show((4096:Nat):Int)=4096 from rfl,h] at hn;injection hn with mo hn;injection hn with fF jj;subst mo;subst fF;subst jj;simp only[if_true];unfold endR;rw[Z00];cases r<;>simp
theorem Z69 (a:Int) (v:ByteArray) (k:Int):∀(x:List Int) (vs:List ByteArray),x.length=vs.length->a∉x->look (x++[a]) (vs++[v]) k=if k=a then some v else look x vs k
 |[],[],_,_=>by
  show(if a=k then some v else none)=_;by_cases h:k=a
  ·rw[if_pos h,if_pos h.symm]
  ·rw[if_neg h,if_neg (λe=>h e.symm)];rfl
 |i::x,u::vs,hl,hn=>by
  show(if i=k then some u else look (x++[a]) (vs++[v]) k)=_;rw[Z69 a v k x vs (by simpa using hl) (λh=>hn (List.mem_cons_of_mem _ h))];have sQ:i≠a:=λe=>hn (by rw[e];exact List.mem_cons_self);show _=if k=a then some v else(if i=k then some u else look x vs k)
  by_cases h1:i=k
  ·rw[if_pos h1,if_neg (by omega),if_pos h1]
  ·rw[if_neg h1,if_neg h1]
 |[],_::_,hl,_=>by simp at hl
 |_::_,[],hl,_=>by simp at hl
theorem Zc3 (g:Int):∀(l:List Int) (last:Int),atS last (l++[g])=atS last l++[(atS last l).getLastD last+1+g]
 |[],last=>rfl
 |a::r,last=>by
  show(last+1+a)::atS (last+1+a) (r++[g])=_;rw[Zc3 g r (last+1+a)];show _=(last+1+a)::(atS (last+1+a) r++[((last+1+a)::atS (last+1+a) r).getLastD last+1+g]);congr 4;cases atS (last+1+a) r with
  |nil=>rfl
  |cons b q=>rfl
theorem Zdt (l:List Int):∀last,(atS last l).length=l.length:=by
 induction l with
 |nil=>intro _;rfl
 |cons a r ih=>intro last;show(atS _ r).length+1=_;rw[ih];rfl
theorem ZgY {n:Int} (hn:0<=n):∀(l:List Int) (last:Int),(∀g∈l,0<=g/\g<n)->(∀t∈atS last l,last<t/\t<=(atS last l).getLastD last)/\last<=(atS last l).getLastD last/\(atS last l).getLastD last<=last+n*l.length
 |[],last,_=>⟨λt h=>(by cases h),Int.le_refl _,by simp[atS]⟩
 |g::r,last,h=>by
  obtain⟨g0,g1⟩:=h g List.mem_cons_self;obtain⟨i1,i2,i3⟩:=ZgY hn r (last+1+g) (λx hx=>h x (List.mem_cons_of_mem _ hx))
  have hl:(atS last (g::r)).getLastD last=(atS (last+1+g) r).getLastD (last+1+g):=by
   show((last+1+g)::atS (last+1+g) r).getLastD last=_;cases atS (last+1+g) r<;>rfl
  rw[hl];refine⟨λt ht=> ?_,by omega,?_⟩
  ·rcases List.mem_cons.1 ht with rfl|ht
   ·exact⟨by omega,i2⟩
   ·have:=i1 t ht;omega
  ·rw[List.length_cons,Int.natCast_add,Int.mul_add];simp only[Int.natCast_one,Int.mul_one];omega
end Go.Proofs.YtchokmkfobandaaGreatDoor
namespace Wv
open Go Go.RowKit
theorem ZgZ {P:Program} (t e:TypeId) (z:Value) (bytes:Nat) (ht:P.underlying t=some (.slice e)) (aH:(P.info? e).map (λi=>(i.zero,i.size,i.bytes))=some (some z,1,bytes)) (bM:z.cells.size=1) {w wb:World} {B:Nat} {v:Value} {n:Nat} {xs:List Value} (h:w.ownsRow B e 1 v n xs) (hf:Below B wb w) (hB:B<=w.heap.size) (x:Value) (hx:x.oneCell'=true) (dT:n+1<=maxLen) (aS:(n+1)*bytes<=140737488355328):
  ∃v' w',(Builtin.append_ #[t,t] t #[v,.slice (some ⟨w.heap.size,0,none⟩) 1 1]).run P (w.alloc (.cells #[x] e))=.ok v' w'/\w'.ownsRow B e 1 v' (n+1) (xs++[x])/\Below B wb w'/\(v'.ownBlock=v.ownBlock\/v'.ownBlock=some (w.heap.size+1))/\Fr (λk=>v.ownBlock=some k) (w.alloc (.cells #[x] e)) w'/\
   (∀A vs,At w A vs->(∀b o,A=some ⟨b,o,none⟩->v.ownBlock≠some b)->At w' A vs):=by
 obtain⟨v1,w1,r1,a1,a2,a3,a4,a5⟩:=Zic t e z bytes ht aH bM h hf hB x hx dT aS;obtain⟨i,hi,hz,hs,dd⟩:=info_parts aH;obtain⟨v',w',hr,h2,h3,_,h5⟩:=run_append_own_at (P:=P) (w.alloc (.cells #[x] e)) B t t e i z 1 bytes ht hi hz hs dd bM (by omega) v n xs (h.alloc _) ⟨w.heap.size,0,none⟩ 1 1 [x] rfl (Z2D _ _ _) (by simpa using hx) dT aS (Nat.le_trans hB (by simp));have e:=r1.symm.trans hr;injection e with e1 e2;subst e1;subst e2;exact⟨v1,w1,r1,a1,a2,a3,(Fr.refl _ _).grown h3 (λk hk=>.inl hk),a5⟩
theorem Z3H {S:Nat->Prop} {w a c:World} (h:Fr S w a) (hb:Below w.heap.size a c):Fr S w c:=
 ⟨hb.os.trans h.os,hb.tape.trans h.tape,hb.output.trans h.output,Nat.le_trans h.size hb.size,λk hk hn=>(hb.block k hk).trans (h.block k hk hn)⟩
end Wv
namespace Go.Proofs.YtchokmkfobandaaGreatDoor
open Go.RowKit Go.Proofs Wv Wv.Vi Wv.Rc Wv.Mo Wv.Ru Wv.Tm Wv.Bc
theorem Zmt (w:World):(zeroValue 9).run Tryz.prog w=.ok (.string ⟨#[]⟩) w:=by kernel_rfl
def lkM (x:List Int) (vs:List ByteArray):Value->Option Value
 |.int .i64 k=>(look x vs k).map Value.string
 |_=>none
abbrev MI (w:World) (b:Nat) (x:List Int) (vs:List ByteArray):Prop:=MpV (.int .i64) w b (lkM x vs)
theorem Zo8 (w:World):MI (w.alloc (.map #[] 0)) w.heap.size [] []:=by
 obtain⟨es,c,h1,h2,h3⟩:=MpV.new (.int .i64) w;refine⟨es,c,h1,h2,λk hk=>(h3 k hk).trans ?_⟩;unfold lkM;split<;>rfl
theorem Zmu {w:World} {b:Nat} {x:List Int} {vs:List ByteArray} (h:MI w b x vs) (k:Int) {v:ByteArray} (hv:look x vs k=some v):(Instr.lookup 266 (.map (some b)) (.int .i64 k) true).run Tryz.prog w=.ok (.tuple #[.string v,.bool true]) w:=
 (MpV.get Tryz.underlying266 Tryz.underlying3 h (.int .i64 k) _ rfl (by show(look x vs k).map Value.string=_;rw[hv];rfl)).2
theorem Zmv {w:World} {b:Nat} {x:List Int} {vs:List ByteArray} (h:MI w b x vs) (k:Int) (hv:look x vs k=none):(Instr.lookup 266 (.map (some b)) (.int .i64 k) true).run Tryz.prog w=.ok (.tuple #[.string ⟨#[]⟩,.bool false]) w:=
 (MpV.miss Tryz.underlying266 Tryz.underlying3 h (.int .i64 k) (.string ⟨#[]⟩) rfl (by show(look x vs k).map Value.string=_;rw[hv];rfl) (Zmt w)).2
theorem Zo9 {w:World} {b:Nat} {x:List Int} {vs:List ByteArray} (h:MI w b x vs) (a:Int) (v:ByteArray) (hl:x.length=vs.length) (ha:a∉x):∃w',(Instr.mapUpdate 266 (.map (some b)) (.int .i64 a) (.string v)).run Tryz.prog w=.ok () w'/\MI w' b (x++[a]) (vs++[v])/\Fr (λj=>j=b) w w'/\w'.heap.size=w.heap.size:=by
 obtain⟨w',h1,h2,h3,h4⟩:=MpV.put Tryz.underlying266 Tryz.underlying3 h (.int .i64 a) (.string v) rfl;refine⟨w',h1,h2 _ ?_ (λy hy=> ?_),h3,h4⟩
 ·show(look (x++[a]) (vs++[v]) a).map Value.string=_;rw[Z69 a v a x vs hl ha,if_pos rfl];rfl
 ·unfold lkM;split
  ·rename_i k;rw[Z69 a v k x vs hl ha,if_neg (λe=>hy (by rw[e]))]
  ·rfl
theorem Zh0 {w w':World} {b B n:Nat} {x:List Int} {vs:List ByteArray} {v:Value} {xs:List Value} (h:MI w b x vs) (hf:Fr (λk=>v.ownBlock=some k) w w') (ho:w.ownsRow B 9 1 v n xs):MI w' b x vs:=
 h.fr hf (λe=>by
  obtain⟨es,c,h1,_⟩:=h;rcases ho.2 with ⟨rfl,_⟩|⟨g,cap,cur,rfl,_,hg,_⟩
  ·cases e
  ·injection e with e;have e:g=b:=e;subst e;rw[h1] at hg;cases hg)
theorem Z82 {k:Int} {v:ByteArray} :∀(x:List Int) (vs:List ByteArray),look x vs k=some v->v∈vs
 |i::x,u::vs,h=>by
  have h2:(if i=k then some u else look x vs k)=some v:=h;by_cases hi:i=k
  ·rw[if_pos hi] at h2;injection h2 with h2;rw[h2];exact List.mem_cons_self
  ·rw[if_neg hi] at h2;exact List.mem_cons_of_mem _ (Z82 x vs h2)
 |[],[],h=>by cases h
 |[],_::_,h=>by cases h
 |_::_,[],h=>by cases h
theorem ZaG {w w':World} {o:Option (List ByteArray)} {x:Ending} (h:LgR w o x w'):∃A k ok,x=.returned (.tuple #[.slice A k k,.bool ok])/\Below w.heap.size w w'/\((ok=false/\o=none)\/(ok=true/\∃r g,o=some r/\k=r.length/\A=some ⟨g,0,none⟩/\w.heap.size<=g/\Bk w' g 9 (svs r).toArray)):=by
 obtain⟨h1,h2⟩:=h;cases o with
 |none=>obtain⟨A,h⟩:=h2;exact⟨A,0,false,h,h1,.inl ⟨rfl,rfl⟩⟩
 |some r=>obtain⟨g,h,hg,hk⟩:=h2;exact⟨_,_,true,h,h1,.inr ⟨rfl,r,g,rfl,rfl,rfl,hg,hk⟩⟩
theorem Z1L {b:Nat} {w w':World} {A:Option Addr} {n c:Nat} {o:Option (List ByteArray)} (hf:Fr (only b) w w') (ho:o=none):FinR b w o (.returned (.tuple #[.slice A n c,.bool false])) w':=by
 subst ho;exact⟨hf,_,_,_,rfl⟩
theorem Zc4 {w:World} {b:Nat} {s:ByteArray} (h:RV w b s 0) (hs:s.size<=1000000000) (W:Int) {S:ByteArray} {e:Nat} (hN:numR s 0 4096=(0,S,e)):
  Calls Tryz.prog 157 #[.agg #[.int .i64 W],.pointer (some ⟨b,0,none⟩)] w λx w'=>FinR b w (if endR S e=0 then some [] else none) x w':=by
 have aA:=Z0y w (.cells #[.int .i64 W] 127);have h0:RV (w.alloc (.cells #[.int .i64 W] 127)) b s 0:=Bk.alloc h _;have HN:=h_ (Z0h h0 (by omega) 4096);rw[hN] at HN;have HE:=h_ (λW2 (h:RV W2 b S e)=>Z7q h);have aI:=h_ aA;generalize endR S e=E at*;clear h0 aA hN h;by_cases h0:E=0
 ·rw[if_pos h0];subst h0;go_enter Tryz.func157,Tryz.ntmps157;go_wp2_with fail;refine(HN.o).mono ?_;rintro x w1 ⟨rfl,aW,aB⟩;have qM:=h_ (HE.o w1 aW);have cG:=h_ ((Fr.of_below (S:=only b) aI.o).trans aB);clear aW aB HN HE aI;go_wp2_with fail;refine(qM.o).mono ?_;rintro x w2 ⟨rfl,ah⟩;have bW:=h_ (cG.o.trans ah);clear ah cG qM;go_wp2;go_returns;exact⟨bW.o,none,0,rfl,At.nil _ _⟩
 ·rw[if_neg h0];have ay:((E:Int)==0)=false:=(by rw[beq_eq_false_iff_ne];omega);go_enter Tryz.func157,Tryz.ntmps157;go_wp2_with fail;refine(HN.o).mono ?_;rintro x w1 ⟨rfl,aW,aB⟩;have qM:=h_ (HE.o w1 aW);have cG:=h_ ((Fr.of_below (S:=only b) aI.o).trans aB);clear aW aB HN HE aI;go_wp2_with fail;refine(qM.o).mono ?_;rintro x w2 ⟨rfl,ah⟩;have bW:=h_ (cG.o.trans ah);clear ah cG qM;go_wp2;go_returns;exact⟨bW.o,_,_,_,rfl⟩
def CtP (b:Nat) (w:World) (W:Int) (S:ByteArray) (e:Nat) (w1:World):Prop:=Fr (only b) w w1/\Bk w1 w.heap.size 127 #[.int .i64 W]/\RV w1 b S e
theorem CtP.next {b:Nat} {w w1 w2:World} {W:Int} {S S':ByteArray} {e e':Nat} (h:CtP b w W S e w1) (ab:b<w.heap.size) (hv:RV w2 b S' e') (hf:Fr (only b) w1 w2):CtP b w W S' e' w2:=
 ⟨h.1.trans hf,h.2.1.fr hf (by unfold only;omega),hv⟩
def CtQ (b:Nat) (w:World) (W:Int) (w1:World):Prop:=Fr (only b) w w1/\Bk w1 w.heap.size 127 #[.int .i64 W]
theorem CtQ.next {b:Nat} {w w1 w2:World} {W:Int} (h:CtQ b w W w1) (hb:Below w1.heap.size w1 w2):CtQ b w W w2:=⟨h.1.below hb,h.2.below hb h.2.lt⟩
theorem Zh1 {w:World} {B g:Nat} {e:TypeId} {l:List ByteArray} (h:Bk w g e (svs l).toArray) (hB:B<=g) (hl:l.length<=maxLen):w.ownsRow B e 1 (.slice (some ⟨g,0,none⟩) l.length l.length) l.length (svs l):=
 ⟨by rw[Zan,Nat.mul_one],.inr ⟨g,l.length,(svs l).toArray,rfl,hB,h,Nat.le_refl _,hl,by simp[Zan],by
  simp only[Nat.mul_one];rw[<-Zan l];simp⟩⟩
theorem Zmw (l:List Int) (i:Nat) (h:i<l.length):(ivs l)[i]? =some (.int .i64 l[i]):=by simp[ivs,iv,h]
theorem ZaH {w:Int} {u:List UInt8} (h:(ext w u).2=0):(ext w u).1.length<=128:=by
 have:=Zep (w:=w) (s:=u) (v:=(ext w u).1) (Prod.ext rfl h);exact(Z0t.1 (Z0L.1 this).1).2.2
def CtM (b:Nat) (w:World) (A1:Option Addr) (G:List Int) (gv:Nat) (vs:List ByteArray) (gf:Nat) (F:ByteArray) (w1:World):Prop:=Fr (only b) w w1/\At w1 A1 (ivs G)/\Bk w1 gv 9 (svs vs).toArray/\Bk w1 gf 9 (svs [F]).toArray/\w.heap.size<=gf
theorem CtM.next {b:Nat} {w w1 w2:World} {A1:Option Addr} {G:List Int} {gv gf:Nat} {vs:List ByteArray} {F:ByteArray} (h:CtM b w A1 G gv vs gf F w1) (hb:Below w1.heap.size w1 w2):CtM b w A1 G gv vs gf F w2:=
 ⟨h.1.below hb,h.2.1.below hb,h.2.2.1.below hb h.2.2.1.lt,h.2.2.2.1.below hb h.2.2.2.1.lt,h.2.2.2.2⟩
end Go.Proofs.YtchokmkfobandaaGreatDoor
