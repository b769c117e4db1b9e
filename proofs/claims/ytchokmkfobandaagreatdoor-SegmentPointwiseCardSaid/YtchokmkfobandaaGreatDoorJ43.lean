import Derived.Test.YtchokmkfobandaaGreatDoorJ41
import Derived.Test.YtchokmkfobandaaGreatDoorJ40
set_option linter.unusedVariables false
set_option linter.unusedSimpArgs false
set_option maxRecDepth 100000
set_option maxHeartbeats 8000000
namespace Go.Proofs.YtchokmkfobandaaGreatDoor
open Go.RowKit Go.Proofs Wv Wv.Vi Wv.Rc Wv.Mo Wv.Ru Wv.Tm Wv.Bc
theorem ZdD {w:World} {b m:Nat} {s:ByteArray} (h:RV w b s 0) (hs:s.size<=1000000000) (dh:1<=m) (hm:m<=128):
  Calls Tryz.prog 157 #[.agg #[.int .i64 (m:Int)],.pointer (some ⟨b,0,none⟩)] w λx w'=>FinR b w (Z1B (m:Int) (toL s)) x w':=by
 cases hr:rnum (toL s) 4096 with
 |none=>
  obtain⟨e,he,hn⟩:=Z11 hr;have hz:=Z68 (w:=(m:Int)) _ _ hn;rw[hz];rw[Z09] at hn⊢;exact Zc4 h hs _ hn
 |some p=>
  obtain⟨n,r⟩:=p;by_cases h0:n=0
  ·subst h0;obtain⟨hn,_,_⟩:=Z0l hr;have hz:=Z68 (w:=(m:Int)) _ _ hn;rw[hz];rw[Z09] at hn;exact Zc4 h hs _ hn
  ·exact ZjT h hs dh hm hr h0
theorem Zk0 (l:List ByteArray) (h4:l.length<=4096):(codC l).length<=4000000:=by
 by_cases h0:l=[]
 ·subst h0;exact(by decide:(codC []).length<=4000000)
 ·have hb:=congrArg ByteArray.size (Zh9 h0);simp only[ByteArray.size_append] at hb;rw[Z00] at hb;have rT:=Z4i h4 (Z0x l);have nP:=Z19 rT;have dM:=Zam l (Z0x l);have jY:(atI l (exI l (Z0x l))).length<=4096:=(by unfold atI;rw[List.length_map];omega);have nV:=Z2Q jY;have h5:=Z2y nV.1 nV.2;have z0:=Z4X l.length;have z1:=Z4Q (shr (toL (l.getD 0 default)));have z2:=Z4Q (shr (toL (Z0x l)));have z3:=Z4Q (Z0J (Z06 (exI l (Z0x l))));have k1:=Z10 (toL (l.getD 0 default));have k2:=Z10 (toL (Z0x l));have h6:(bs (enc (Z0F (atI l (exI l (Z0x l))))).1).size<=2000000:=h5;omega
theorem Z3y {c:Nat} {W:Int} {l:List ByteArray} (h:Z0z W l=true):((codB c W l).getD []).length<=4000000:=by
 obtain⟨h1,h2,h3,h4⟩:=Z0A.1 h;unfold codB;split
 ·unfold codP;split
  ·exact Nat.zero_le _
  ·rename_i hb;show(num l.length++toL (Bit.bstr (Z0G l))).length<=_;have h1:=Bit.bstr_size (Z0G l);have h2:=Z4X l.length;rw[Z00] at h2;rw[List.length_append,Z01];omega
 ·split
  ·exact Zk0 l h4
  ·split
   ·have hs:=Z2Q (l:=mixL (bs (allV W 48)) l) (by rw[Z47];exact h4);have:=Z2y hs.1 hs.2;show(enc _).1.length<=_;omega
   ·have hs:=Z2Q (l:=l) h4;have:=Z2y hs.1 hs.2;show(enc _).1.length<=_;omega
def wrO (c:Nat) (o:Option (List UInt8)):List UInt8×Nat:=match o with
 |none=>([],9)
 |some s=>(num c++s,0)
def WrC (Jx:FuncId) (A:Option Addr) (l:List ByteArray) (n cap:Nat) (W:Int) (o:Option (List UInt8)):Prop:=
 ∀W2,At W2 A (svs l)->Calls Tryz.prog Jx #[.agg #[.int .i64 W],.slice A n cap] W2 λx w'=>x=.returned (.tuple #[.string (bs (o.getD [])),.bool o.isSome])/\Below W2.heap.size W2 w'
theorem ZaS {w:World} {A:Option Addr} {l:List ByteArray} (ha:At w A (svs l)) (n cap:Nat) (W:Int) (c:Nat) (hc:c<=3) (cP:∀w2:World,(Instr.lookup 124 (.map (some w2.heap.size)) (.int .i64 (c:Int)) false).run Tryz.prog (w2.alloc (.map Z0m 4))=.ok (.func (.func 120) #[] #[]) (w2.alloc (.map Z0m 4)))
  (o:Option (List UInt8)) (hw:WrC 120 A l n cap W o) (hlen:(o.getD []).length<=4000000) (hv:Calls Tryz.prog 56 #[.int .i64 W,.slice A n cap] w λx w'=>x=.returned (.bool true)/\Below w.heap.size w w'):
  Calls Tryz.prog 57 #[.int .i64 (c:Int),.int .i64 W,.slice A n cap] w λx w'=>ERes w (wrO c o) x w':=by
 have HV:=h_ hv;have Ha:=h_ ha;have HW:=h_ hw;have HN:=h_ (λW2=>Z0g (c:Int) (by omega) (by omega) W2);rw[Int.toNat_natCast] at HN;have dR:=h_ cP;have hz:=Z4X c;have bZ:∀s,bs (num c)++bs s=bs (num c++s):=λs=>Z0f _ _;have gI:=h_ bZ;have bN:¬(c:Int)<0:=(by omega);have oY:¬(4:Int)<=(c:Int):=(by omega);have he:bs ([]:List UInt8)=⟨#[]⟩:=rfl;unfold WrC at HW;clear hv ha hw cP bZ hc;cases o with
 |none=>
  show Calls Tryz.prog 57 #[.int .i64 (c:Int),.int .i64 W,.slice A n cap] w λx w'=>ERes w ([],9) x w';simp only[Option.getD_none,Option.isSome_none,he] at HW;clear hlen hz gI;go_enter Tryz.func57,Tryz.ntmps57;go_wp2_with fail;refine(HV.o).mono ?_;rintro x w1 ⟨rfl,a7⟩;go_wp2_with fail;refine(Z0X w1).mono ?_;rintro x w2 ⟨rfl,rfl⟩;have cj:=dR.o w1;have a8:=a7.alloc a7.size (.map Z0m 4);have al:=h_ a8;have K:=h_ (HW.o _ (Ha.o.below a8));clear a7 a8 HW Ha HV;go_wp2_with fail;refine(K.out).mono ?_;rintro x w3 ⟨rfl,ae⟩;have aF:=h_ (al.o.trans (ae.mono al.o.size));clear ae al K cj dR;go_wp2;go_returns;exact⟨rfl,aF.o⟩
 |some s=>
  show Calls Tryz.prog 57 #[.int .i64 (c:Int),.int .i64 W,.slice A n cap] w λx w'=>ERes w (num c++s,0) x w';simp only[Option.getD_some,Option.isSome_some] at HW hlen;have hs:(bs s).size<=4000000:=hlen;have mT:=Z4W (a:=(bs (num c)).size) (b:=(bs s).size) (by omega);have bq:=gI.o s;have cq:=h_ bq;generalize bs s=S at*;generalize bs (num c)=S0 at*;clear hlen hz gI bq he;go_enter Tryz.func57,Tryz.ntmps57;go_wp2_with fail;refine(HV.o).mono ?_;rintro x w1 ⟨rfl,a7⟩;go_wp2_with fail;refine(Z0X w1).mono ?_;rintro x w2 ⟨rfl,rfl⟩;have cj:=dR.o w1;have a8:=a7.alloc a7.size (.map Z0m 4);have al:=h_ a8;have K:=h_ (HW.o _ (Ha.o.below a8));clear a7 a8 HW Ha HV;go_wp2_with fail;refine(K.out).mono ?_;rintro x w3 ⟨rfl,ae⟩;have aF:=h_ (al.o.trans (ae.mono al.o.size));clear ae al K cj dR;go_wp2_with fail;refine(HN.o w3).mono ?_;rintro x w4 ⟨rfl,aw⟩;have bo:=h_ (aF.o.trans (aw.mono aF.o.size));clear aw aF HN;go_wp2;go_returns;exact⟨by rw[<-cq.o];rfl,bo.o⟩
theorem ZaT {w:World} {A:Option Addr} {l:List ByteArray} (ha:At w A (svs l)) (n cap:Nat) (W:Int) (c:Nat) (hc:c<=3) (cP:∀w2:World,(Instr.lookup 124 (.map (some w2.heap.size)) (.int .i64 (c:Int)) false).run Tryz.prog (w2.alloc (.map Z0m 4))=.ok (.func (.func 121) #[] #[]) (w2.alloc (.map Z0m 4)))
  (o:Option (List UInt8)) (hw:WrC 121 A l n cap W o) (hlen:(o.getD []).length<=4000000) (hv:Calls Tryz.prog 56 #[.int .i64 W,.slice A n cap] w λx w'=>x=.returned (.bool true)/\Below w.heap.size w w'):
  Calls Tryz.prog 57 #[.int .i64 (c:Int),.int .i64 W,.slice A n cap] w λx w'=>ERes w (wrO c o) x w':=by
 have HV:=h_ hv;have Ha:=h_ ha;have HW:=h_ hw;have HN:=h_ (λW2=>Z0g (c:Int) (by omega) (by omega) W2);rw[Int.toNat_natCast] at HN;have dR:=h_ cP;have hz:=Z4X c;have bZ:∀s,bs (num c)++bs s=bs (num c++s):=λs=>Z0f _ _;have gI:=h_ bZ;have bN:¬(c:Int)<0:=(by omega);have oY:¬(4:Int)<=(c:Int):=(by omega);have he:bs ([]:List UInt8)=⟨#[]⟩:=rfl;unfold WrC at HW;clear hv ha hw cP bZ hc;cases o with
 |none=>
  show Calls Tryz.prog 57 #[.int .i64 (c:Int),.int .i64 W,.slice A n cap] w λx w'=>ERes w ([],9) x w';simp only[Option.getD_none,Option.isSome_none,he] at HW;clear hlen hz gI;go_enter Tryz.func57,Tryz.ntmps57;go_wp2_with fail;refine(HV.o).mono ?_;rintro x w1 ⟨rfl,a7⟩;go_wp2_with fail;refine(Z0X w1).mono ?_;rintro x w2 ⟨rfl,rfl⟩;have cj:=dR.o w1;have a8:=a7.alloc a7.size (.map Z0m 4);have al:=h_ a8;have K:=h_ (HW.o _ (Ha.o.below a8));clear a7 a8 HW Ha HV;go_wp2_with fail;refine(K.out).mono ?_;rintro x w3 ⟨rfl,ae⟩;have aF:=h_ (al.o.trans (ae.mono al.o.size));clear ae al K cj dR;go_wp2;go_returns;exact⟨rfl,aF.o⟩
 |some s=>
  show Calls Tryz.prog 57 #[.int .i64 (c:Int),.int .i64 W,.slice A n cap] w λx w'=>ERes w (num c++s,0) x w';simp only[Option.getD_some,Option.isSome_some] at HW hlen;have hs:(bs s).size<=4000000:=hlen;have mT:=Z4W (a:=(bs (num c)).size) (b:=(bs s).size) (by omega);have bq:=gI.o s;have cq:=h_ bq;generalize bs s=S at*;generalize bs (num c)=S0 at*;clear hlen hz gI bq he;go_enter Tryz.func57,Tryz.ntmps57;go_wp2_with fail;refine(HV.o).mono ?_;rintro x w1 ⟨rfl,a7⟩;go_wp2_with fail;refine(Z0X w1).mono ?_;rintro x w2 ⟨rfl,rfl⟩;have cj:=dR.o w1;have a8:=a7.alloc a7.size (.map Z0m 4);have al:=h_ a8;have K:=h_ (HW.o _ (Ha.o.below a8));clear a7 a8 HW Ha HV;go_wp2_with fail;refine(K.out).mono ?_;rintro x w3 ⟨rfl,ae⟩;have aF:=h_ (al.o.trans (ae.mono al.o.size));clear ae al K cj dR;go_wp2_with fail;refine(HN.o w3).mono ?_;rintro x w4 ⟨rfl,aw⟩;have bo:=h_ (aF.o.trans (aw.mono aF.o.size));clear aw aF HN;go_wp2;go_returns;exact⟨by rw[<-cq.o];rfl,bo.o⟩
theorem ZaU {w:World} {A:Option Addr} {l:List ByteArray} (ha:At w A (svs l)) (n cap:Nat) (W:Int) (c:Nat) (hc:c<=3) (cP:∀w2:World,(Instr.lookup 124 (.map (some w2.heap.size)) (.int .i64 (c:Int)) false).run Tryz.prog (w2.alloc (.map Z0m 4))=.ok (.func (.func 122) #[] #[]) (w2.alloc (.map Z0m 4)))
  (o:Option (List UInt8)) (hw:WrC 122 A l n cap W o) (hlen:(o.getD []).length<=4000000) (hv:Calls Tryz.prog 56 #[.int .i64 W,.slice A n cap] w λx w'=>x=.returned (.bool true)/\Below w.heap.size w w'):
  Calls Tryz.prog 57 #[.int .i64 (c:Int),.int .i64 W,.slice A n cap] w λx w'=>ERes w (wrO c o) x w':=by
 have HV:=h_ hv;have Ha:=h_ ha;have HW:=h_ hw;have HN:=h_ (λW2=>Z0g (c:Int) (by omega) (by omega) W2);rw[Int.toNat_natCast] at HN;have dR:=h_ cP;have hz:=Z4X c;have bZ:∀s,bs (num c)++bs s=bs (num c++s):=λs=>Z0f _ _;have gI:=h_ bZ;have bN:¬(c:Int)<0:=(by omega);have oY:¬(4:Int)<=(c:Int):=(by omega);have he:bs ([]:List UInt8)=⟨#[]⟩:=rfl;unfold WrC at HW;clear hv ha hw cP bZ hc;cases o with
 |none=>
  show Calls Tryz.prog 57 #[.int .i64 (c:Int),.int .i64 W,.slice A n cap] w λx w'=>ERes w ([],9) x w';simp only[Option.getD_none,Option.isSome_none,he] at HW;clear hlen hz gI;go_enter Tryz.func57,Tryz.ntmps57;go_wp2_with fail;refine(HV.o).mono ?_;rintro x w1 ⟨rfl,a7⟩;go_wp2_with fail;refine(Z0X w1).mono ?_;rintro x w2 ⟨rfl,rfl⟩;have cj:=dR.o w1;have a8:=a7.alloc a7.size (.map Z0m 4);have al:=h_ a8;have K:=h_ (HW.o _ (Ha.o.below a8));clear a7 a8 HW Ha HV;go_wp2_with fail;refine(K.out).mono ?_;rintro x w3 ⟨rfl,ae⟩;have aF:=h_ (al.o.trans (ae.mono al.o.size));clear ae al K cj dR;go_wp2;go_returns;exact⟨rfl,aF.o⟩
 |some s=>
  show Calls Tryz.prog 57 #[.int .i64 (c:Int),.int .i64 W,.slice A n cap] w λx w'=>ERes w (num c++s,0) x w';simp only[Option.getD_some,Option.isSome_some] at HW hlen;have hs:(bs s).size<=4000000:=hlen;have mT:=Z4W (a:=(bs (num c)).size) (b:=(bs s).size) (by omega);have bq:=gI.o s;have cq:=h_ bq;generalize bs s=S at*;generalize bs (num c)=S0 at*;clear hlen hz gI bq he;go_enter Tryz.func57,Tryz.ntmps57;go_wp2_with fail;refine(HV.o).mono ?_;rintro x w1 ⟨rfl,a7⟩;go_wp2_with fail;refine(Z0X w1).mono ?_;rintro x w2 ⟨rfl,rfl⟩;have cj:=dR.o w1;have a8:=a7.alloc a7.size (.map Z0m 4);have al:=h_ a8;have K:=h_ (HW.o _ (Ha.o.below a8));clear a7 a8 HW Ha HV;go_wp2_with fail;refine(K.out).mono ?_;rintro x w3 ⟨rfl,ae⟩;have aF:=h_ (al.o.trans (ae.mono al.o.size));clear ae al K cj dR;go_wp2_with fail;refine(HN.o w3).mono ?_;rintro x w4 ⟨rfl,aw⟩;have bo:=h_ (aF.o.trans (aw.mono aF.o.size));clear aw aF HN;go_wp2;go_returns;exact⟨by rw[<-cq.o];rfl,bo.o⟩
theorem ZaV {w:World} {A:Option Addr} {l:List ByteArray} (ha:At w A (svs l)) (n cap:Nat) (W:Int) (c:Nat) (hc:c<=3) (cP:∀w2:World,(Instr.lookup 124 (.map (some w2.heap.size)) (.int .i64 (c:Int)) false).run Tryz.prog (w2.alloc (.map Z0m 4))=.ok (.func (.func 123) #[] #[]) (w2.alloc (.map Z0m 4)))
  (o:Option (List UInt8)) (hw:WrC 123 A l n cap W o) (hlen:(o.getD []).length<=4000000) (hv:Calls Tryz.prog 56 #[.int .i64 W,.slice A n cap] w λx w'=>x=.returned (.bool true)/\Below w.heap.size w w'):
  Calls Tryz.prog 57 #[.int .i64 (c:Int),.int .i64 W,.slice A n cap] w λx w'=>ERes w (wrO c o) x w':=by
 have HV:=h_ hv;have Ha:=h_ ha;have HW:=h_ hw;have HN:=h_ (λW2=>Z0g (c:Int) (by omega) (by omega) W2);rw[Int.toNat_natCast] at HN;have dR:=h_ cP;have hz:=Z4X c;have bZ:∀s,bs (num c)++bs s=bs (num c++s):=λs=>Z0f _ _;have gI:=h_ bZ;have bN:¬(c:Int)<0:=(by omega);have oY:¬(4:Int)<=(c:Int):=(by omega);have he:bs ([]:List UInt8)=⟨#[]⟩:=rfl;unfold WrC at HW;clear hv ha hw cP bZ hc;cases o with
 |none=>
  show Calls Tryz.prog 57 #[.int .i64 (c:Int),.int .i64 W,.slice A n cap] w λx w'=>ERes w ([],9) x w';simp only[Option.getD_none,Option.isSome_none,he] at HW;clear hlen hz gI;go_enter Tryz.func57,Tryz.ntmps57;go_wp2_with fail;refine(HV.o).mono ?_;rintro x w1 ⟨rfl,a7⟩;go_wp2_with fail;refine(Z0X w1).mono ?_;rintro x w2 ⟨rfl,rfl⟩;have cj:=dR.o w1;have a8:=a7.alloc a7.size (.map Z0m 4);have al:=h_ a8;have K:=h_ (HW.o _ (Ha.o.below a8));clear a7 a8 HW Ha HV;go_wp2_with fail;refine(K.out).mono ?_;rintro x w3 ⟨rfl,ae⟩;have aF:=h_ (al.o.trans (ae.mono al.o.size));clear ae al K cj dR;go_wp2;go_returns;exact⟨rfl,aF.o⟩
 |some s=>
  show Calls Tryz.prog 57 #[.int .i64 (c:Int),.int .i64 W,.slice A n cap] w λx w'=>ERes w (num c++s,0) x w';simp only[Option.getD_some,Option.isSome_some] at HW hlen;have hs:(bs s).size<=4000000:=hlen;have mT:=Z4W (a:=(bs (num c)).size) (b:=(bs s).size) (by omega);have bq:=gI.o s;have cq:=h_ bq;generalize bs s=S at*;generalize bs (num c)=S0 at*;clear hlen hz gI bq he;go_enter Tryz.func57,Tryz.ntmps57;go_wp2_with fail;refine(HV.o).mono ?_;rintro x w1 ⟨rfl,a7⟩;go_wp2_with fail;refine(Z0X w1).mono ?_;rintro x w2 ⟨rfl,rfl⟩;have cj:=dR.o w1;have a8:=a7.alloc a7.size (.map Z0m 4);have al:=h_ a8;have K:=h_ (HW.o _ (Ha.o.below a8));clear a7 a8 HW Ha HV;go_wp2_with fail;refine(K.out).mono ?_;rintro x w3 ⟨rfl,ae⟩;have aF:=h_ (al.o.trans (ae.mono al.o.size));clear ae al K cj dR;go_wp2_with fail;refine(HN.o w3).mono ?_;rintro x w4 ⟨rfl,aw⟩;have bo:=h_ (aF.o.trans (aw.mono aF.o.size));clear aw aF HN;go_wp2;go_returns;exact⟨by rw[<-cq.o];rfl,bo.o⟩
theorem ZmO {A:Option Addr} {l:List ByteArray} {W:Int} (hv:Z0z W l=true) (ad:∀s∈l,s.size<=1099511627776) (n cap:Nat) (hn:n=l.length):
  WrC 120 A l n cap W (codB 0 W l)/\WrC 121 A l n cap W (codB 1 W l)/\WrC 122 A l n cap W (codB 2 W l)/\WrC 123 A l n cap W (codB 3 W l):=by
 obtain⟨h1,h2,h3,h4⟩:=Z0A.1 hv
 exact⟨λW2 ha=>ZgM ha ad (λs hs c hc=>(Z0t.1 (Z0L.1 (h1 s hs)).1).1 c hc) n cap hn (by omega) W,
  λW2 ha=>Z9s ha ad n cap hn (by omega) W,λW2 ha=>Zdb ha ad n cap hn (by omega) W,λW2 ha=>Zd5 ha ad n cap hn (by omega) W⟩
theorem ZdE {w:World} {A:Option Addr} {l:List ByteArray} (ha:At w A (svs l)) (ad:∀s∈l,s.size<=1099511627776) (n cap:Nat) (hn:n=l.length) (hm:n<=9223372036854775807) (c W:Int):
  Calls Tryz.prog 57 #[.int .i64 c,.int .i64 W,.slice A n cap] w λx w'=>ERes w (Zgd c W l) x w':=by
 have hv:=Z4I ha ad n cap hn hm W;have he:bs ([]:List UInt8)=⟨#[]⟩:=rfl;unfold Zgd;by_cases h0:c<0
 ·rw[if_pos (.inl h0)];clear ha ad hn hv;go_enter Tryz.func57,Tryz.ntmps57;go_wp2_with fail;go_returns;exact⟨rfl,Below.refl _ _⟩
 ·by_cases h4:3<c
  ·rw[if_pos (.inr h4)];have h5:(4:Int)<=c:=(by omega);clear ha ad hn hv;go_enter Tryz.func57,Tryz.ntmps57;go_wp2_with fail;go_returns;exact⟨rfl,Below.refl _ _⟩
  ·rw[if_neg (by omega)];cases bm:Z0z W l with
   |false=>
    rw[if_pos rfl];rw[bm] at hv;have HV:=h_ hv;have h5:¬(4:Int)<=c:=(by omega);clear ha ad hn hv bm;go_enter Tryz.func57,Tryz.ntmps57;go_wp2_with fail;refine(HV.o).mono ?_;rintro x w1 ⟨rfl,a7⟩;go_wp2;go_returns;exact⟨rfl,a7⟩
   |true=>
    rw[if_neg (by simp)];rw[bm] at hv;obtain⟨k0,k1,k2,k3⟩:=ZmO (A:=A) bm ad n cap hn;have hl:=λ(k:Nat) (hk:k<=3) (w2:World)=>Zdq w2 k hk (w2.alloc (.map Z0m 4)) (Below.refl _ _);rcases(show c=((0:Nat):Int)\/c=((1:Nat):Int)\/c=((2:Nat):Int)\/c=((3:Nat):Int) by omega) with rfl|rfl|rfl|rfl
    ·have:=ZaS ha n cap W 0 (by omega) (λw2=>hl 0 (by omega) w2) (codB 0 W l) k0 (Z3y bm) hv;exact this
    ·have:=ZaT ha n cap W 1 (by omega) (λw2=>hl 1 (by omega) w2) (codB 1 W l) k1 (Z3y bm) hv;exact this
    ·have:=ZaU ha n cap W 2 (by omega) (λw2=>hl 2 (by omega) w2) (codB 2 W l) k2 (Z3y bm) hv;exact this
    ·have:=ZaV ha n cap W 3 (by omega) (λw2=>hl 3 (by omega) w2) (codB 3 W l) k3 (Z3y bm) hv;exact this
theorem Zcd {W:Int} {l:List ByteArray} (h:Z0z W l=true):∀i,(bstB W l i).length<=4000009:=by
 intro i;rcases Z6O W l i with h1|⟨c,s,_,h2,h3⟩
 ·rw[h1];exact Nat.zero_le _
 ·rw[h3,List.length_append];have h4:=Z3y (c:=c) h;rw[h2] at h4;have h5:=Z4X c;rw[Z00] at h5;have h6:s.length<=4000000:=h4;omega
theorem Z25 {w:World} {A:Option Addr} {l:List ByteArray} (ha:At w A (svs l)) (ad:∀s∈l,s.size<=1099511627776) (n cap:Nat) (hn:n=l.length) (hm:n<=9223372036854775807) (W:Int):
  Calls Tryz.prog 33 #[.int .i64 W,.slice A n cap] w λx w'=>ERes w (Z12 W l) x w':=by
 have hv:=Z4I ha ad n cap hn hm W;have he:bs ([]:List UInt8)=⟨#[]⟩:=rfl;unfold Z12;cases bm:Z0z W l with
 |false=>
  rw[if_pos rfl];rw[bm] at hv;have HV:=h_ hv;clear ha ad hn hv bm;go_enter Tryz.func33,Tryz.ntmps33;go_wp2_with fail;refine(HV.o).mono ?_;rintro x w1 ⟨rfl,a7⟩;go_wp2;go_returns;exact⟨rfl,a7⟩
 |true=>
  rw[if_neg (by simp)];rw[bm] at hv;have HV:=h_ hv;have Ha:=h_ ha
  have gx:=h_ (λ(i:Nat) (hi:i<4) W2 (h:At W2 A (svs l))=>(by
   have:=ZdE h ad n cap hn hm (i:Int) W;unfold Zgd at this;rw[if_neg (by omega),bm,if_neg (by simp),Int.toNat_natCast] at this;exact this:Calls Tryz.prog 57 #[.int .i64 (i:Int),.int .i64 W,.slice A n cap] W2 λx w'=>ERes W2 (wrO i (codB i W l)) x w'))
  have aq:=h_ (Zcd bm);have aN:∀i,bstB W l (i+1)=match codB i W l with|none=>bstB W l i|some s=>if bstB W l i=[]\/(num i++s).length<(bstB W l i).length then num i++s else bstB W l i:=λi=>rfl
  have aR:=h_ aN;have H0:Hid (bs (bstB W l 0)=⟨#[]⟩):=h_ rfl;have wF:=h_ (λi=>Z3y (c:=i) bm);obtain⟨BT,OP⟩:∃f,bstB W l=f:=⟨_,rfl⟩;obtain⟨CB,OQ⟩:∃f:Nat->Option (List UInt8),(λi=>codB i W l)=f:=⟨_,rfl⟩;have OR:∀i,codB i W l=CB i:=λi=>congrFun OQ i;simp only[OP,OR] at gx aq aR H0 wF⊢;clear ha ad hn hv bm aN OP OQ OR he;go_enter Tryz.func33,Tryz.ntmps33;go_wp2_with fail;refine(HV.o).mono ?_;rintro x w1 ⟨rfl,a7⟩;have an:=h_ a7;clear a7 HV;go_wp2;go_loopw [6,14] (λs6 fX wr=>∃i:Nat,i<=4/\fX=.int .i64 (i:Int)/\s6=.string (bs (BT i))/\Hid (Below w.heap.size w wr)) (λ_ fX _=>(4-intOf fX).toNat);case atStart=>exact⟨0,by omega,rfl,by rw[H0.o],an⟩
  case round=>
   clear an;obtain⟨i,hi,rfl,rfl,hb⟩:=hrel;by_cases ab:i<4
   ·have hk:=gx.o i ab wr (Ha.o.below hb.o);have aJ:=aR.o i;have cj:=aq.o i;have cJ:=Z2i (BT i);have nX:=wF.o i;have Vc:(0:Int)<=(i:Int):=(by omega);have Di:(i:Int)<4:=(by omega);cases ho:CB i with
    |none=>
     rw[ho] at hk aJ;unfold wrO at hk;simp only at hk aJ;have K:=h_ hk;have HB:Hid (BT (i+1)=BT i):=h_ aJ;clear hk aJ cJ nX ho gx aR aq wF H0 cj;unfold ERes at K;go_wp2_with fail;refine(K.out).mono ?_;rintro x w3 ⟨rfl,ae⟩;have aF:=h_ (hb.o.trans (ae.mono hb.o.size));clear K ae hb;go_wp2;refine⟨⟨i+1,by omega,by go_num,by rw[HB.o],aF⟩,?_⟩;simp[intOf]<;>omega
    |some s=>
     rw[ho] at hk aJ nX;unfold wrO at hk;simp only[Option.getD_some] at hk aJ nX;unfold ERes at hk;simp only at hk;have iP:(bs (num i++s)).size=(num i++s).length:=Z00 _;have C8:(bs (BT i)).size=(BT i).length:=Z00 _;have K:=h_ hk;have HS:=h_ aJ;by_cases qV:BT i=[]
     ·rw[decide_eq_true qV] at cJ;have HB:Hid (bs (BT (i+1))=bs (num i++s)):=h_ (by rw[HS.o,if_pos (.inl qV)]);clear hk aJ nX ho gx aR aq wF H0 cj iP C8 HS qV;generalize bs (BT i)=SB at*;generalize bs (num i++s)=S at*;go_wp2_with fail;refine(K.out).mono ?_;rintro x w3 ⟨rfl,ae⟩;have aF:=h_ (hb.o.trans (ae.mono hb.o.size));clear K ae hb;go_wp2;refine⟨⟨i+1,by omega,by go_num,by rw[HB.o],aF⟩,?_⟩;simp[intOf]<;>omega
     ·rw[decide_eq_false qV] at cJ;by_cases fu:(num i++s).length<(BT i).length
      ·have HB:Hid (bs (BT (i+1))=bs (num i++s)):=h_ (by rw[HS.o,if_pos (.inr fu)]);have Jy:((bs (num i++s)).size:Int)<((bs (BT i)).size:Int):=(by rw[iP,C8];omega);clear hk aJ nX ho gx aR aq wF H0 cj iP C8 HS qV fu;generalize bs (BT i)=SB at*;generalize bs (num i++s)=S at*;go_wp2_with fail;refine(K.out).mono ?_;rintro x w3 ⟨rfl,ae⟩;have aF:=h_ (hb.o.trans (ae.mono hb.o.size));clear K ae hb;go_wp2;refine⟨⟨i+1,by omega,by go_num,by rw[HB.o],aF⟩,?_⟩;simp[intOf]<;>omega
      ·have HB:Hid (bs (BT (i+1))=bs (BT i)):=h_ (by rw[HS.o,if_neg (by rintro(h|h);exact qV h;exact fu h)]);have Jy:¬((bs (num i++s)).size:Int)<((bs (BT i)).size:Int):=(by rw[iP,C8];omega);clear hk aJ nX ho gx aR aq wF H0 cj iP C8 HS qV fu;generalize bs (BT i)=SB at*;generalize bs (num i++s)=S at*;go_wp2_with fail;refine(K.out).mono ?_;rintro x w3 ⟨rfl,ae⟩;have aF:=h_ (hb.o.trans (ae.mono hb.o.size));clear K ae hb;go_wp2;refine⟨⟨i+1,by omega,by go_num,by rw[HB.o],aF⟩,?_⟩;simp[intOf]<;>omega
   ·have x8:i=4:=(by omega);subst x8;clear gx aR aq wF H0;go_wp2;go_returns;exact⟨rfl,hb.o⟩
end Go.Proofs.YtchokmkfobandaaGreatDoor
