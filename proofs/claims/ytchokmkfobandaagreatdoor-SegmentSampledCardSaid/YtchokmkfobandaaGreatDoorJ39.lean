import Derived.Test.YtchokmkfobandaaGreatDoorJ36
import Derived.Test.YtchokmkfobandaaGreatDoorJ35
set_option linter.unusedVariables false
set_option linter.unusedSimpArgs false
set_option maxRecDepth 100000
set_option maxHeartbeats 8000000
namespace Go.Proofs.YtchokmkfobandaaGreatDoor
open Go.RowKit Go.Proofs Wv Wv.Vi Wv.Rc Wv.Mo Wv.Ru Wv.Tm Wv.Bc
theorem Z9H {w:World} {b m:Nat} {s:ByteArray} (h:RV w b s 0) (hs:s.size<=1000000000) (dC:1<=m) (hm:m<=128):
  Calls Tryz.prog 157 #[.agg #[.int .i64 (m:Int)],.pointer (some ⟨b,0,none⟩)] w λx w'=>FinR b w (YG (m:Int) (toL s)) x w':=by
 cases hr:rnum (toL s) 4096 with
 |none=>
  obtain⟨e,he,hn⟩:=Y1 hr;have hz:=Z2b (w:=(m:Int)) _ _ hn;rw[hz];rw[Zc] at hn⊢;exact Z87 h hs _ hn
 |some p=>
  obtain⟨n,r⟩:=p;by_cases h0:n=0
  ·subst h0;obtain⟨hn,_,_⟩:=Zp hr;have hz:=Z2b (w:=(m:Int)) _ _ hn;rw[hz];rw[Zc] at hn;exact Z87 h hs _ hn
  ·exact Zg9 h hs dC hm hr h0
theorem Zgc (l:List ByteArray) (h4:l.length<=4096):(codC l).length<=4000000:=by
 by_cases h0:l=[]
 ·subst h0;exact(by decide:(codC []).length<=4000000)
 ·have hb:=congrArg ByteArray.size (Zda h0);simp only[ByteArray.size_append] at hb;rw[Z0] at hb;have sB:=Z0i h4 (Zx l);have od:=Y9 sB;have dR:=Z6p l (Zx l);have kG:(atI l (exI l (Zx l))).length<=4096:=(by unfold atI;rw[Vag];omega);have om:=XP kG;have h5:=Xx om.1 om.2;have z0:=Z0Y l.length;have z1:=Z0Q (shr (toL (l.getD 0 default)));have z2:=Z0Q (shr (toL (Zx l)));have z3:=Z0Q (ZJ (Z6 (exI l (Zx l))));have k1:=Y0 (toL (l.getD 0 default));have k2:=Y0 (toL (Zx l));have h6:(bs (enc (ZF (atI l (exI l (Zx l))))).1).size<=2000000:=h5;omega
theorem Qz {c:Nat} {W:Int} {l:List ByteArray} (h:Zz W l=true):((codB c W l).getD []).length<=4000000:=by
 obtain⟨h1,h2,h3,h4⟩:=ZA.1 h;unfold codB;split
 ·unfold codP;split
  ·exact Vat _
  ·rename_i hb;show(num l.length++toL (Bit.bstr (ZG l))).length<=_;have h1:=Bit.bstr_size (ZG l);have h2:=Z0Y l.length;rw[Z0] at h2;rw[Vab,Z1];omega
 ·split
  ·exact Zgc l h4
  ·split
   ·have hs:=XP (l:=mixL (bs (allV W 48)) l) (by rw[Z08];exact h4);have:=Xx hs.1 hs.2;show(enc _).1.length<=_;omega
   ·have hs:=XP (l:=l) h4;have:=Xx hs.1 hs.2;show(enc _).1.length<=_;omega
def wrO (c:Nat) (o:Option (List UInt8)):List UInt8×Nat:=match o with
 |none=>([],9)
 |some s=>(num c++s,0)
def WrC (JY:FuncId) (A:Option Addr) (l:List ByteArray) (n cap:Nat) (W:Int) (o:Option (List UInt8)):Prop:=
 ∀W2,At W2 A (svs l)->Calls Tryz.prog JY #[.agg #[.int .i64 W],.slice A n cap] W2 λx w'=>x=.returned (.tuple #[.string (bs (o.getD [])),.bool o.isSome])/\Below W2.heap.size W2 w'
theorem Z6R {w:World} {A:Option Addr} {l:List ByteArray} (ha:At w A (svs l)) (n cap:Nat) (W:Int) (c:Nat) (hc:c<=3) (cY:∀w2:World,(Instr.lookup 124 (.map (some w2.heap.size)) (.int .i64 (c:Int)) false).run Tryz.prog (w2.alloc (.map Zq 4))=.ok (.func (.func 120) #[] #[]) (w2.alloc (.map Zq 4)))
  (o:Option (List UInt8)) (hw:WrC 120 A l n cap W o) (hlen:(o.getD []).length<=4000000) (hv:Calls Tryz.prog 56 #[.int .i64 W,.slice A n cap] w λx w'=>x=.returned (.bool true)/\Below w.heap.size w w'):
  Calls Tryz.prog 57 #[.int .i64 (c:Int),.int .i64 W,.slice A n cap] w λx w'=>ERes w (wrO c o) x w':=by
 have HV:=h_ hv;have Ha:=h_ ha;have HW:=h_ hw;have HN:=h_ (λW2=>Zh (c:Int) (by omega) (by omega) W2);rw[Vav] at HN;have dX:=h_ cY;have hz:=Z0Y c;have cw:∀s,bs (num c)++bs s=bs (num c++s):=λs=>Zg _ _;have gU:=h_ cw;have bO:¬(c:Int)<0:=(by omega);have pw:¬(4:Int)<=(c:Int):=(by omega);have he:bs ([]:List UInt8)=⟨#[]⟩:=rfl;unfold WrC at HW;clear hv ha hw cY cw hc;cases o with
 |none=>
  show Calls Tryz.prog 57 #[.int .i64 (c:Int),.int .i64 W,.slice A n cap] w λx w'=>ERes w ([],9) x w';simp only[Option.getD_none,Option.isSome_none,he] at HW;clear hlen hz gU;go_enter Tryz.func57,Tryz.ntmps57;go_wp2_with fail;refine(HV.o).mono ?_;rintro x w1 ⟨rfl,a7⟩;go_wp2_with fail;refine(ZX w1).mono ?_;rintro x w2 ⟨rfl,rfl⟩;have cC:=dX.o w1;have a8:=a7.alloc a7.size (.map Zq 4);have an:=h_ a8;have K:=h_ (HW.o _ (Ha.o.below a8));clear a7 a8 HW Ha HV;go_wp2_with fail;refine(K.out).mono ?_;rintro x w3 ⟨rfl,af⟩;have aJ:=h_ (an.o.trans (af.mono an.o.size));clear af an K cC dX;go_wp2;go_returns;exact⟨rfl,aJ.o⟩
 |some s=>
  show Calls Tryz.prog 57 #[.int .i64 (c:Int),.int .i64 W,.slice A n cap] w λx w'=>ERes w (num c++s,0) x w';simp only[Option.getD_some,Option.isSome_some] at HW hlen;have hs:(bs s).size<=4000000:=hlen;have nn:=Z0X (a:=(bs (num c)).size) (b:=(bs s).size) (by omega);have aP:=gU.o s;have bR:=h_ aP;generalize bs s=S at*;generalize bs (num c)=S0 at*;clear hlen hz gU aP he;go_enter Tryz.func57,Tryz.ntmps57;go_wp2_with fail;refine(HV.o).mono ?_;rintro x w1 ⟨rfl,a7⟩;go_wp2_with fail;refine(ZX w1).mono ?_;rintro x w2 ⟨rfl,rfl⟩;have cC:=dX.o w1;have a8:=a7.alloc a7.size (.map Zq 4);have an:=h_ a8;have K:=h_ (HW.o _ (Ha.o.below a8));clear a7 a8 HW Ha HV;go_wp2_with fail;refine(K.out).mono ?_;rintro x w3 ⟨rfl,af⟩;have aJ:=h_ (an.o.trans (af.mono an.o.size));clear af an K cC dX;go_wp2_with fail;refine(HN.o w3).mono ?_;rintro x w4 ⟨rfl,ax⟩;have bh:=h_ (aJ.o.trans (ax.mono aJ.o.size));clear ax aJ HN;go_wp2;go_returns;exact⟨by rw[<-bR.o];rfl,bh.o⟩
theorem Z6S {w:World} {A:Option Addr} {l:List ByteArray} (ha:At w A (svs l)) (n cap:Nat) (W:Int) (c:Nat) (hc:c<=3) (cY:∀w2:World,(Instr.lookup 124 (.map (some w2.heap.size)) (.int .i64 (c:Int)) false).run Tryz.prog (w2.alloc (.map Zq 4))=.ok (.func (.func 121) #[] #[]) (w2.alloc (.map Zq 4)))
  (o:Option (List UInt8)) (hw:WrC 121 A l n cap W o) (hlen:(o.getD []).length<=4000000) (hv:Calls Tryz.prog 56 #[.int .i64 W,.slice A n cap] w λx w'=>x=.returned (.bool true)/\Below w.heap.size w w'):
  Calls Tryz.prog 57 #[.int .i64 (c:Int),.int .i64 W,.slice A n cap] w λx w'=>ERes w (wrO c o) x w':=by
 have HV:=h_ hv;have Ha:=h_ ha;have HW:=h_ hw;have HN:=h_ (λW2=>Zh (c:Int) (by omega) (by omega) W2);rw[Vav] at HN;have dX:=h_ cY;have hz:=Z0Y c;have cw:∀s,bs (num c)++bs s=bs (num c++s):=λs=>Zg _ _;have gU:=h_ cw;have bO:¬(c:Int)<0:=(by omega);have pw:¬(4:Int)<=(c:Int):=(by omega);have he:bs ([]:List UInt8)=⟨#[]⟩:=rfl;unfold WrC at HW;clear hv ha hw cY cw hc;cases o with
 |none=>
  show Calls Tryz.prog 57 #[.int .i64 (c:Int),.int .i64 W,.slice A n cap] w λx w'=>ERes w ([],9) x w';simp only[Option.getD_none,Option.isSome_none,he] at HW;clear hlen hz gU;go_enter Tryz.func57,Tryz.ntmps57;go_wp2_with fail;refine(HV.o).mono ?_;rintro x w1 ⟨rfl,a7⟩;go_wp2_with fail;refine(ZX w1).mono ?_;rintro x w2 ⟨rfl,rfl⟩;have cC:=dX.o w1;have a8:=a7.alloc a7.size (.map Zq 4);have an:=h_ a8;have K:=h_ (HW.o _ (Ha.o.below a8));clear a7 a8 HW Ha HV;go_wp2_with fail;refine(K.out).mono ?_;rintro x w3 ⟨rfl,af⟩;have aJ:=h_ (an.o.trans (af.mono an.o.size));clear af an K cC dX;go_wp2;go_returns;exact⟨rfl,aJ.o⟩
 |some s=>
  show Calls Tryz.prog 57 #[.int .i64 (c:Int),.int .i64 W,.slice A n cap] w λx w'=>ERes w (num c++s,0) x w';simp only[Option.getD_some,Option.isSome_some] at HW hlen;have hs:(bs s).size<=4000000:=hlen;have nn:=Z0X (a:=(bs (num c)).size) (b:=(bs s).size) (by omega);have aP:=gU.o s;have bR:=h_ aP;generalize bs s=S at*;generalize bs (num c)=S0 at*;clear hlen hz gU aP he;go_enter Tryz.func57,Tryz.ntmps57;go_wp2_with fail;refine(HV.o).mono ?_;rintro x w1 ⟨rfl,a7⟩;go_wp2_with fail;refine(ZX w1).mono ?_;rintro x w2 ⟨rfl,rfl⟩;have cC:=dX.o w1;have a8:=a7.alloc a7.size (.map Zq 4);have an:=h_ a8;have K:=h_ (HW.o _ (Ha.o.below a8));clear a7 a8 HW Ha HV;go_wp2_with fail;refine(K.out).mono ?_;rintro x w3 ⟨rfl,af⟩;have aJ:=h_ (an.o.trans (af.mono an.o.size));clear af an K cC dX;go_wp2_with fail;refine(HN.o w3).mono ?_;rintro x w4 ⟨rfl,ax⟩;have bh:=h_ (aJ.o.trans (ax.mono aJ.o.size));clear ax aJ HN;go_wp2;go_returns;exact⟨by rw[<-bR.o];rfl,bh.o⟩
theorem Z6T {w:World} {A:Option Addr} {l:List ByteArray} (ha:At w A (svs l)) (n cap:Nat) (W:Int) (c:Nat) (hc:c<=3) (cY:∀w2:World,(Instr.lookup 124 (.map (some w2.heap.size)) (.int .i64 (c:Int)) false).run Tryz.prog (w2.alloc (.map Zq 4))=.ok (.func (.func 122) #[] #[]) (w2.alloc (.map Zq 4)))
  (o:Option (List UInt8)) (hw:WrC 122 A l n cap W o) (hlen:(o.getD []).length<=4000000) (hv:Calls Tryz.prog 56 #[.int .i64 W,.slice A n cap] w λx w'=>x=.returned (.bool true)/\Below w.heap.size w w'):
  Calls Tryz.prog 57 #[.int .i64 (c:Int),.int .i64 W,.slice A n cap] w λx w'=>ERes w (wrO c o) x w':=by
 have HV:=h_ hv;have Ha:=h_ ha;have HW:=h_ hw;have HN:=h_ (λW2=>Zh (c:Int) (by omega) (by omega) W2);rw[Vav] at HN;have dX:=h_ cY;have hz:=Z0Y c;have cw:∀s,bs (num c)++bs s=bs (num c++s):=λs=>Zg _ _;have gU:=h_ cw;have bO:¬(c:Int)<0:=(by omega);have pw:¬(4:Int)<=(c:Int):=(by omega);have he:bs ([]:List UInt8)=⟨#[]⟩:=rfl;unfold WrC at HW;clear hv ha hw cY cw hc;cases o with
 |none=>
  show Calls Tryz.prog 57 #[.int .i64 (c:Int),.int .i64 W,.slice A n cap] w λx w'=>ERes w ([],9) x w';simp only[Option.getD_none,Option.isSome_none,he] at HW;clear hlen hz gU;go_enter Tryz.func57,Tryz.ntmps57;go_wp2_with fail;refine(HV.o).mono ?_;rintro x w1 ⟨rfl,a7⟩;go_wp2_with fail;refine(ZX w1).mono ?_;rintro x w2 ⟨rfl,rfl⟩;have cC:=dX.o w1;have a8:=a7.alloc a7.size (.map Zq 4);have an:=h_ a8;have K:=h_ (HW.o _ (Ha.o.below a8));clear a7 a8 HW Ha HV;go_wp2_with fail;refine(K.out).mono ?_;rintro x w3 ⟨rfl,af⟩;have aJ:=h_ (an.o.trans (af.mono an.o.size));clear af an K cC dX;go_wp2;go_returns;exact⟨rfl,aJ.o⟩
 |some s=>
  show Calls Tryz.prog 57 #[.int .i64 (c:Int),.int .i64 W,.slice A n cap] w λx w'=>ERes w (num c++s,0) x w';simp only[Option.getD_some,Option.isSome_some] at HW hlen;have hs:(bs s).size<=4000000:=hlen;have nn:=Z0X (a:=(bs (num c)).size) (b:=(bs s).size) (by omega);have aP:=gU.o s;have bR:=h_ aP;generalize bs s=S at*;generalize bs (num c)=S0 at*;clear hlen hz gU aP he;go_enter Tryz.func57,Tryz.ntmps57;go_wp2_with fail;refine(HV.o).mono ?_;rintro x w1 ⟨rfl,a7⟩;go_wp2_with fail;refine(ZX w1).mono ?_;rintro x w2 ⟨rfl,rfl⟩;have cC:=dX.o w1;have a8:=a7.alloc a7.size (.map Zq 4);have an:=h_ a8;have K:=h_ (HW.o _ (Ha.o.below a8));clear a7 a8 HW Ha HV;go_wp2_with fail;refine(K.out).mono ?_;rintro x w3 ⟨rfl,af⟩;have aJ:=h_ (an.o.trans (af.mono an.o.size));clear af an K cC dX;go_wp2_with fail;refine(HN.o w3).mono ?_;rintro x w4 ⟨rfl,ax⟩;have bh:=h_ (aJ.o.trans (ax.mono aJ.o.size));clear ax aJ HN;go_wp2;go_returns;exact⟨by rw[<-bR.o];rfl,bh.o⟩
theorem Z6U {w:World} {A:Option Addr} {l:List ByteArray} (ha:At w A (svs l)) (n cap:Nat) (W:Int) (c:Nat) (hc:c<=3) (cY:∀w2:World,(Instr.lookup 124 (.map (some w2.heap.size)) (.int .i64 (c:Int)) false).run Tryz.prog (w2.alloc (.map Zq 4))=.ok (.func (.func 123) #[] #[]) (w2.alloc (.map Zq 4)))
  (o:Option (List UInt8)) (hw:WrC 123 A l n cap W o) (hlen:(o.getD []).length<=4000000) (hv:Calls Tryz.prog 56 #[.int .i64 W,.slice A n cap] w λx w'=>x=.returned (.bool true)/\Below w.heap.size w w'):
  Calls Tryz.prog 57 #[.int .i64 (c:Int),.int .i64 W,.slice A n cap] w λx w'=>ERes w (wrO c o) x w':=by
 have HV:=h_ hv;have Ha:=h_ ha;have HW:=h_ hw;have HN:=h_ (λW2=>Zh (c:Int) (by omega) (by omega) W2);rw[Vav] at HN;have dX:=h_ cY;have hz:=Z0Y c;have cw:∀s,bs (num c)++bs s=bs (num c++s):=λs=>Zg _ _;have gU:=h_ cw;have bO:¬(c:Int)<0:=(by omega);have pw:¬(4:Int)<=(c:Int):=(by omega);have he:bs ([]:List UInt8)=⟨#[]⟩:=rfl;unfold WrC at HW;clear hv ha hw cY cw hc;cases o with
 |none=>
  show Calls Tryz.prog 57 #[.int .i64 (c:Int),.int .i64 W,.slice A n cap] w λx w'=>ERes w ([],9) x w';simp only[Option.getD_none,Option.isSome_none,he] at HW;clear hlen hz gU;go_enter Tryz.func57,Tryz.ntmps57;go_wp2_with fail;refine(HV.o).mono ?_;rintro x w1 ⟨rfl,a7⟩;go_wp2_with fail;refine(ZX w1).mono ?_;rintro x w2 ⟨rfl,rfl⟩;have cC:=dX.o w1;have a8:=a7.alloc a7.size (.map Zq 4);have an:=h_ a8;have K:=h_ (HW.o _ (Ha.o.below a8));clear a7 a8 HW Ha HV;go_wp2_with fail;refine(K.out).mono ?_;rintro x w3 ⟨rfl,af⟩;have aJ:=h_ (an.o.trans (af.mono an.o.size));clear af an K cC dX;go_wp2;go_returns;exact⟨rfl,aJ.o⟩
 |some s=>
  show Calls Tryz.prog 57 #[.int .i64 (c:Int),.int .i64 W,.slice A n cap] w λx w'=>ERes w (num c++s,0) x w';simp only[Option.getD_some,Option.isSome_some] at HW hlen;have hs:(bs s).size<=4000000:=hlen;have nn:=Z0X (a:=(bs (num c)).size) (b:=(bs s).size) (by omega);have aP:=gU.o s;have bR:=h_ aP;generalize bs s=S at*;generalize bs (num c)=S0 at*;clear hlen hz gU aP he;go_enter Tryz.func57,Tryz.ntmps57;go_wp2_with fail;refine(HV.o).mono ?_;rintro x w1 ⟨rfl,a7⟩;go_wp2_with fail;refine(ZX w1).mono ?_;rintro x w2 ⟨rfl,rfl⟩;have cC:=dX.o w1;have a8:=a7.alloc a7.size (.map Zq 4);have an:=h_ a8;have K:=h_ (HW.o _ (Ha.o.below a8));clear a7 a8 HW Ha HV;go_wp2_with fail;refine(K.out).mono ?_;rintro x w3 ⟨rfl,af⟩;have aJ:=h_ (an.o.trans (af.mono an.o.size));clear af an K cC dX;go_wp2_with fail;refine(HN.o w3).mono ?_;rintro x w4 ⟨rfl,ax⟩;have bh:=h_ (aJ.o.trans (ax.mono aJ.o.size));clear ax aJ HN;go_wp2;go_returns;exact⟨by rw[<-bR.o];rfl,bh.o⟩
theorem ZiZ {A:Option Addr} {l:List ByteArray} {W:Int} (hv:Zz W l=true) (ad:∀s∈l,s.size<=1099511627776) (n cap:Nat) (hn:n=l.length):
  WrC 120 A l n cap W (codB 0 W l)/\WrC 121 A l n cap W (codB 1 W l)/\WrC 122 A l n cap W (codB 2 W l)/\WrC 123 A l n cap W (codB 3 W l):=by
 obtain⟨h1,h2,h3,h4⟩:=ZA.1 hv
 exact⟨λW2 ha=>ZcM ha ad (λs hs c hc=>(Zv.1 (ZM.1 (h1 s hs)).1).1 c hc) n cap hn (by omega) W,
  λW2 ha=>Z5q ha ad n cap hn (by omega) W,λW2 ha=>Z9h ha ad n cap hn (by omega) W,λW2 ha=>Z9d ha ad n cap hn (by omega) W⟩
theorem Z9I {w:World} {A:Option Addr} {l:List ByteArray} (ha:At w A (svs l)) (ad:∀s∈l,s.size<=1099511627776) (n cap:Nat) (hn:n=l.length) (hm:n<=9223372036854775807) (c W:Int):
  Calls Tryz.prog 57 #[.int .i64 c,.int .i64 W,.slice A n cap] w λx w'=>ERes w (Zch c W l) x w':=by
 have hv:=Z0I ha ad n cap hn hm W;have he:bs ([]:List UInt8)=⟨#[]⟩:=rfl;unfold Zch;by_cases h0:c<0
 ·rw[Vaf (.inl h0)];clear ha ad hn hv;go_enter Tryz.func57,Tryz.ntmps57;go_wp2_with fail;go_returns;exact⟨rfl,Vae _ _⟩
 ·by_cases h4:3<c
  ·rw[Vaf (.inr h4)];have h5:(4:Int)<=c:=(by omega);clear ha ad hn hv;go_enter Tryz.func57,Tryz.ntmps57;go_wp2_with fail;go_returns;exact⟨rfl,Vae _ _⟩
  ·rw[Vad (by omega)];cases bq:Zz W l with
   |false=>
    rw[Vaf rfl];rw[bq] at hv;have HV:=h_ hv;have h5:¬(4:Int)<=c:=(by omega);clear ha ad hn hv bq;go_enter Tryz.func57,Tryz.ntmps57;go_wp2_with fail;refine(HV.o).mono ?_;rintro x w1 ⟨rfl,a7⟩;go_wp2;go_returns;exact⟨rfl,a7⟩
   |true=>
    rw[Vad (by simp)];rw[bq] at hv;obtain⟨k0,k1,k2,k3⟩:=ZiZ (A:=A) bq ad n cap hn;have hl:=λ(k:Nat) (hk:k<=3) (w2:World)=>Z9w w2 k hk (w2.alloc (.map Zq 4)) (Vae _ _);rcases(show c=((0:Nat):Int)\/c=((1:Nat):Int)\/c=((2:Nat):Int)\/c=((3:Nat):Int) by omega) with rfl|rfl|rfl|rfl
    ·have:=Z6R ha n cap W 0 (by omega) (λw2=>hl 0 (by omega) w2) (codB 0 W l) k0 (Qz bq) hv;exact this
    ·have:=Z6S ha n cap W 1 (by omega) (λw2=>hl 1 (by omega) w2) (codB 1 W l) k1 (Qz bq) hv;exact this
    ·have:=Z6T ha n cap W 2 (by omega) (λw2=>hl 2 (by omega) w2) (codB 2 W l) k2 (Qz bq) hv;exact this
    ·have:=Z6U ha n cap W 3 (by omega) (λw2=>hl 3 (by omega) w2) (codB 3 W l) k3 (Qz bq) hv;exact this
theorem Z8a {W:Int} {l:List ByteArray} (h:Zz W l=true):∀i,(bstB W l i).length<=4000009:=by
 intro i;rcases Z2U W l i with h1|⟨c,s,_,h2,h3⟩
 ·rw[h1];exact Vat _
 ·rw[h3,Vab];have h4:=Qz (c:=c) h;rw[h2] at h4;have h5:=Z0Y c;rw[Z0] at h5;have h6:s.length<=4000000:=h4;omega
theorem Yu {w:World} {A:Option Addr} {l:List ByteArray} (ha:At w A (svs l)) (ad:∀s∈l,s.size<=1099511627776) (n cap:Nat) (hn:n=l.length) (hm:n<=9223372036854775807) (W:Int):
  Calls Tryz.prog 33 #[.int .i64 W,.slice A n cap] w λx w'=>ERes w (ZW W l) x w':=by
 have hv:=Z0I ha ad n cap hn hm W;have he:bs ([]:List UInt8)=⟨#[]⟩:=rfl;unfold ZW;cases bq:Zz W l with
 |false=>
  rw[Vaf rfl];rw[bq] at hv;have HV:=h_ hv;clear ha ad hn hv bq;go_enter Tryz.func33,Tryz.ntmps33;go_wp2_with fail;refine(HV.o).mono ?_;rintro x w1 ⟨rfl,a7⟩;go_wp2;go_returns;exact⟨rfl,a7⟩
 |true=>
  rw[Vad (by simp)];rw[bq] at hv;have HV:=h_ hv;have Ha:=h_ ha
  have gL:=h_ (λ(i:Nat) (hi:i<4) W2 (h:At W2 A (svs l))=>(by
   have:=Z9I h ad n cap hn hm (i:Int) W;unfold Zch at this;rw[Vad (by omega),bq,Vad (by simp),Vav] at this;exact this:Calls Tryz.prog 57 #[.int .i64 (i:Int),.int .i64 W,.slice A n cap] W2 λx w'=>ERes W2 (wrO i (codB i W l)) x w'))
  have av:=h_ (Z8a bq);have aQ:∀i,bstB W l (i+1)=match codB i W l with|none=>bstB W l i|some s=>if bstB W l i=[]\/(num i++s).length<(bstB W l i).length then num i++s else bstB W l i:=λi=>rfl
  have aT:=h_ aQ;have H0:Hid (bs (bstB W l 0)=⟨#[]⟩):=h_ rfl;have xl:=h_ (λi=>Qz (c:=i) bq);obtain⟨BT,P9⟩:∃f,bstB W l=f:=⟨_,rfl⟩;obtain⟨CB,Pa⟩:∃f:Nat->Option (List UInt8),(λi=>codB i W l)=f:=⟨_,rfl⟩;have Pb:∀i,codB i W l=CB i:=λi=>congrFun Pa i;simp only[P9,Pb] at gL av aT H0 xl⊢;clear ha ad hn hv bq aQ P9 Pa Pb he;go_enter Tryz.func33,Tryz.ntmps33;go_wp2_with fail;refine(HV.o).mono ?_;rintro x w1 ⟨rfl,a7⟩;have ao:=h_ a7;clear a7 HV;go_wp2;go_loopw [6,14] (λs6 gm wr=>∃i:Nat,i<=4/\gm=.int .i64 (i:Int)/\s6=.string (bs (BT i))/\Hid (Below w.heap.size w wr)) (λ_ gm _=>(4-intOf gm).toNat);case atStart=>exact⟨0,by omega,rfl,by rw[H0.o],ao⟩
  case round=>
   clear ao;obtain⟨i,hi,rfl,rfl,hb⟩:=hrel;by_cases ab:i<4
   ·have hk:=gL.o i ab wr (Ha.o.below hb.o);have aM:=aT.o i;have cC:=av.o i;have cB:=Xl (BT i);have kj:=xl.o i;have WU:(0:Int)<=(i:Int):=(by omega);have E5:(i:Int)<4:=(by omega);cases ho:CB i with
    |none=>
     rw[ho] at hk aM;unfold wrO at hk;simp only at hk aM;have K:=h_ hk;have HB:Hid (BT (i+1)=BT i):=h_ aM;clear hk aM cB kj ho gL aT av xl H0 cC;unfold ERes at K;go_wp2_with fail;refine(K.out).mono ?_;rintro x w3 ⟨rfl,af⟩;have aJ:=h_ (hb.o.trans (af.mono hb.o.size));clear K af hb;go_wp2;refine⟨⟨i+1,by omega,by go_num,by rw[HB.o],aJ⟩,?_⟩;simp[intOf]<;>omega
    |some s=>
     rw[ho] at hk aM kj;unfold wrO at hk;simp only[Option.getD_some] at hk aM kj;unfold ERes at hk;simp only at hk;have gx:(bs (num i++s)).size=(num i++s).length:=Z0 _;have CI:(bs (BT i)).size=(BT i).length:=Z0 _;have K:=h_ hk;have HS:=h_ aM;by_cases nI:BT i=[]
     ·rw[Vao nI] at cB;have HB:Hid (bs (BT (i+1))=bs (num i++s)):=h_ (by rw[HS.o,Vaf (.inl nI)]);clear hk aM kj ho gL aT av xl H0 cC gx CI HS nI;generalize bs (BT i)=SB at*;generalize bs (num i++s)=S at*;go_wp2_with fail;refine(K.out).mono ?_;rintro x w3 ⟨rfl,af⟩;have aJ:=h_ (hb.o.trans (af.mono hb.o.size));clear K af hb;go_wp2;refine⟨⟨i+1,by omega,by go_num,by rw[HB.o],aJ⟩,?_⟩;simp[intOf]<;>omega
     ·rw[Vai nI] at cB;by_cases fI:(num i++s).length<(BT i).length
      ·have HB:Hid (bs (BT (i+1))=bs (num i++s)):=h_ (by rw[HS.o,Vaf (.inr fI)]);have JZ:((bs (num i++s)).size:Int)<((bs (BT i)).size:Int):=(by rw[gx,CI];omega);clear hk aM kj ho gL aT av xl H0 cC gx CI HS nI fI;generalize bs (BT i)=SB at*;generalize bs (num i++s)=S at*;go_wp2_with fail;refine(K.out).mono ?_;rintro x w3 ⟨rfl,af⟩;have aJ:=h_ (hb.o.trans (af.mono hb.o.size));clear K af hb;go_wp2;refine⟨⟨i+1,by omega,by go_num,by rw[HB.o],aJ⟩,?_⟩;simp[intOf]<;>omega
      ·have HB:Hid (bs (BT (i+1))=bs (BT i)):=h_ (by rw[HS.o,Vad (by rintro(h|h);exact nI h;exact fI h)]);have JZ:¬((bs (num i++s)).size:Int)<((bs (BT i)).size:Int):=(by rw[gx,CI];omega);clear hk aM kj ho gL aT av xl H0 cC gx CI HS nI fI;generalize bs (BT i)=SB at*;generalize bs (num i++s)=S at*;go_wp2_with fail;refine(K.out).mono ?_;rintro x w3 ⟨rfl,af⟩;have aJ:=h_ (hb.o.trans (af.mono hb.o.size));clear K af hb;go_wp2;refine⟨⟨i+1,by omega,by go_num,by rw[HB.o],aJ⟩,?_⟩;simp[intOf]<;>omega
   ·have xO:i=4:=(by omega);subst xO;clear gL aT av xl H0;go_wp2;go_returns;exact⟨rfl,hb.o⟩
theorem Zdh (k:Nat):∀b,(valOf k b).length=k:=by
 induction k with
 |zero=>intro _;rfl
 |succ k ih=>intro b;show(valOf k _).length+1=_;rw[ih]
theorem Z5t (w:Nat):∀(n:Nat) (b:List Bool),(QH w n b).length=n/\∀v∈QH w n b,v.size=w
 |0,_=>⟨rfl,λv h=>(by cases h)⟩
 |n+1,b=>by
  obtain⟨h1,h2⟩:=Z5t w n (b.drop (2*w));refine⟨by show(QH w n _).length+1=_;rw[h1],λv hv=> ?_⟩;rcases Vba.1 hv with rfl|hv
  ·rw[Z0,Zdh]
  ·exact h2 v hv
theorem Zj0 (x:List Int) (vs:List ByteArray) (eE:∀v∈vs,v.size<=128) (st:ByteArray):∀(k i:Nat) (last:ByteArray) (r:List ByteArray),runB x vs st k i last=some r->r.length=k/\∀v∈r,v.size<=128:=by
 intro k;induction k with
 |zero=>intro i last r h;injection h with h;subst h;exact⟨rfl,λv h=>(by cases h)⟩
 |succ k ih=>
  intro i last r h;rw[runB] at h;cases hl:look x vs (i:Int) with
  |some v=>
   rw[hl] at h;simp only at h;cases hr:runB x vs st k (i+1) v with
   |none=>rw[hr] at h;cases h
   |some q=>
    rw[hr] at h;injection h with h;subst h;obtain⟨h1,h2⟩:=ih _ _ _ hr;refine⟨by simp[h1],λu hu=> ?_⟩;rcases Vba.1 hu with rfl|hu
    ·exact eE _ (Z43 _ _ hl)
    ·exact h2 u hu
  |none=>
   rw[hl] at h;simp only at h;by_cases ha:(addV (toL last) (toL st)).2=true
   ·rw[Vaf ha] at h;cases hr:runB x vs st k (i+1) (bs (addV (toL last) (toL st)).1) with
    |none=>rw[hr] at h;cases h
    |some q=>
     rw[hr] at h;injection h with h;subst h;obtain⟨h1,h2⟩:=ih _ _ _ hr;refine⟨by simp[h1],λu hu=> ?_⟩;rcases Vba.1 hu with rfl|hu
     ·rw[Z0];exact(Yp.1 (Z2B (Prod.ext rfl ha)).1).2.2
     ·exact h2 u hu
   ·rw[Vad ha] at h;cases h
theorem Zj1 {w:Int} {l r:List ByteArray} (h:extL w l=some r):∀v∈r,v.size<=128:=λv hv=>by
 rw[<-Z1];exact(Zv.1 (ZM.1 ((Z0A h).1 v hv)).1).2.2
theorem Zgd {m:Nat} (hm:m<=128) {data:List UInt8} {l:List ByteArray} (h:Z1W (m:Int) data=some l):l.length<=4096/\∀v∈l,v.size<=128:=by
 unfold Z1W at h;cases hr:rnum data 3 with
 |none=>rw[hr] at h;cases h
 |some p=>
  obtain⟨c,r⟩:=p;rw[hr] at h;simp only at h;have CJ:∀q,Xn (m:Int) r=some q->q.length<=4096/\∀v∈q,v.size<=128:=λq hq=>⟨(Qh hq).2,(Qh hq).1⟩;by_cases h0:c=0
  ·rw[Vaf h0] at h;unfold Z1V at h;cases h1:rnum r 4096 with
   |none=>rw[h1] at h;cases h
   |some p=>
    obtain⟨n,t⟩:=p;rw[h1] at h;simp only at h;cases h2:Bit.nrd (bs t) with
    |none=>rw[h2] at h;cases h
    |some k=>
     rw[h2] at h;simp only at h;split at h
     ·injection h with h;subst h;obtain⟨s1,s2⟩:=Z5t ((m:Int)).toNat n (Bit.rbits (bs t) k);exact⟨by rw[s1];exact(Z0N h1).2.1,λv hv=>by rw[s2 v hv,Vav];exact hm⟩
     ·cases h
  ·rw[Vad h0] at h;by_cases h1:c=1
   ·rw[Vaf h1] at h;cases bP:rnum r 4096 with
    |none=>
     unfold YG at h;rw[bP] at h;cases h
    |some p=>
     obtain⟨n,t⟩:=p;obtain⟨_,bo,_⟩:=Z0N bP;by_cases hn:n=0
     ·subst hn;unfold YG at h;rw[bP] at h;simp only[if_true] at h;split at h
      ·injection h with h;subst h;exact⟨Vat _,λv h=>(by cases h)⟩
      ·cases h
     ·obtain⟨t1,S1,e1,t2,S2,e2,t3,S3,e3,t4,S4,e4,_,_,_,_,_,_,_,bz⟩:=Z85 t;rcases bz with ⟨_,dw⟩|⟨_,f,s2,st,s3,a,s4,r1,r2,r3,_⟩
      ·rw[Z33 bP hn dw] at h;cases h
      ·rw[Z32 bP hn r1 r2 r3] at h;unfold Z5p at h;split at h
       ·cases h
       ·cases he:extL (m:Int) (dec s4 4096).1 with
        |none=>rw[he] at h;cases h
        |some vs=>
         rw[he] at h;simp only at h;split at h
         ·cases h
         ·rename_i gz;split at h
          ·cases h
          ·split at h
           ·cases h
           ·split at h
            ·cases hq:runB (atS (-1) (decn a 4096).1) vs (bs (if st=[] then[] else(ext (m:Int) st).1)) (n-1) 1 (bs (ext (m:Int) f).1) with
             |none=>rw[hq] at h;cases h
             |some q=>
              rw[hq] at h;injection h with h;subst h;obtain⟨q1,q2⟩:=Zj0 _ vs (Zj1 he) _ _ _ _ _ hq;refine⟨by simp[q1];omega,λu hu=> ?_⟩;rcases Vba.1 hu with rfl|hu
              ·rw[Z0];exact Z6L (by simpa using gz)
              ·exact q2 u hu
            ·cases h
   ·rw[Vad h1] at h;by_cases h2:c=2
    ·rw[Vaf h2] at h;cases hq:Xn (m:Int) r with
     |none=>rw[hq] at h;cases h
     |some q=>
      rw[hq] at h;injection h with h;subst h;obtain⟨q1,q2⟩:=CJ q hq;exact⟨by rw[Xz];exact q1,Z20 q2 _⟩
    ·rw[Vad h2] at h;exact CJ l h
def RdC (JY:FuncId) (m:Nat) (s:ByteArray) (o:Option (List ByteArray)):Prop:=
 ∀W2 b,RV W2 b s 0->Calls Tryz.prog JY #[.agg #[.int .i64 (m:Int)],.pointer (some ⟨b,0,none⟩)] W2 λx w'=>FinR b W2 o x w'
theorem Zs {w w':World} (e:Nat) (hb:Below w.heap.size w w'):TRes w ([],e) (.returned (.tuple #[.slice none 0 0,.int .i64 (e:Int)])) w':=⟨_,rfl,SRes.nil _,hb⟩
theorem Z5u {w:World} {m c:Nat} (dC:1<=m) (hm:m<=128) (data:ByteArray) (hd:data.size<=1000000000) {r:List UInt8} (hr:rnum (toL data) 3=some (c,r)) (most:Int)
  (cY:∀w2:World,(Instr.lookup 149 (.map (some w2.heap.size)) (.int .i64 (c:Int)) false).run Tryz.prog (w2.alloc (.map Zr 4))=.ok (.func (.func 156) #[] #[]) (w2.alloc (.map Zr 4)))
  (o:Option (List ByteArray)) (hw:RdC 156 m (bs r) o) (ad:∀l,o=some l->l.length<=4096/\∀v∈l,v.size<=128):
  Calls Tryz.prog 67 #[.int .i64 (m:Int),.string data,.int .i64 most] w λx w'=>TRes w (okB (m:Int) (toL data) most o) x w':=by
 obtain⟨dY,fE,dc⟩:=Zp hr;rw[Zc,show(((3:Nat):Int))=3 from rfl] at dY;have HN:=h_ (λW2 b (h:RV W2 b data 0)=>Zi h (by omega) 3);rw[dY] at HN;have fV:=h_ (ZN data w);have HE:=h_ (λW2 b (h:RV W2 b (bs r) 0)=>Za h);have dX:=h_ cY;have HW:=h_ hw;unfold RdC at HW;have cH:=h_ ad;have qe:(1:Int)<=(m:Int):=(by omega);have xm:(m:Int)<=128:=(by omega);generalize bs r=SR at*;obtain⟨R,hR⟩:∃R,okB (m:Int) (toL data) most o=R:=⟨_,rfl⟩;have HR:=h_ hR;rw[hR];clear dY cY hw ad hR hr dc;go_enter Tryz.func67,Tryz.ntmps67;go_wp2_with fail;refine(fV.o).mono ?_;rintro x w1 ⟨rfl,bk,a7⟩;have K1:=h_ (HN.o w1 _ bk);have ao:=h_ a7;clear bk a7 HN fV;go_wp2_with fail;refine(K1.out).mono ?_;rintro x w2 ⟨rfl,bj,ai⟩;have an:=h_ (Zb ao.o UZz ai);have eW:=h_ bj;have K2:=h_ (HE.o w2 _ bj);clear bj ai K1 HE ao;go_wp2_with fail;refine(K2.out).mono ?_;rintro x w3 ⟨rfl,rfl⟩;clear K2;go_wp2_with fail;refine(XT w2).mono ?_;rintro x w3 ⟨rfl,rfl⟩;have dt:=dX.o w2;have af:=an.o.alloc an.o.size (.map Zr 4);have aJ:=h_ af;have K3:=h_ (HW.o _ _ (Bk.alloc eW.o (.map Zr 4)));clear af HW eW an dX;go_wp2_with fail;refine(K3.out).mono ?_;rintro x w4 ⟨aF,hx⟩;have bh:=h_ (Zb aJ.o UZz aF);clear aF aJ K3 dt;cases o with
 |none=>
  obtain⟨A,n,k,rfl⟩:=hx;have gY:Hid (R=([],12)):=h_ HR.o.symm;clear HR cH;go_wp2;go_returns;rw[gY.o];exact Zs 12 bh.o
 |some l=>
  obtain⟨A,k,rfl,ak⟩:=hx;obtain⟨eu,kL⟩:=cH.o l rfl;have K5:=h_ (Yu ak (λs hs=>by have:=kL s hs;omega) l.length k rfl (by omega) (m:Int));have bD:=h_ ak;have ec:R=if(ZW (m:Int) l).2≠0\/(ZW (m:Int) l).1≠toL data then([],12) else if most<(l.length:Int) then([],2) else(l,0):=HR.o.symm
  unfold ERes at K5;have aN:=h_ ec;clear ak ec HR cH kL;generalize ZW (m:Int) l=EE at*;obtain⟨E,e⟩:=EE;simp only at K5;have gw:(bs E=data)↔E=toL data:=⟨λh=>by rw[<-h,Ze],λh=>by rw[h,Zc]⟩;have aM:=Z2Q (a:=bs E) (b:=data);have nO:=QG (a:=bs E) (b:=data);go_wp2_with fail;refine(K5.out).mono ?_;rintro x w5 ⟨rfl,aH⟩;have bE:=h_ (bh.o.trans (aH.mono bh.o.size));have ep:=h_ (bD.o.below aH);clear aH bh bD K5;have bJ:=aN.o;try simp only at bJ
  by_cases he:e=0
  ·subst he;by_cases hE:E=toL data
   ·rw[Vad (by rintro(h|h);exact h rfl;exact h hE)] at bJ;rw[Vao (gw.2 hE)] at aM nO;have cV:((bs E).toList !=data.toList)=false:=aM;by_cases n6:most<(l.length:Int)
    ·rw[Vaf n6] at bJ;have dd:=h_ bJ;generalize bs E=SE at*;clear bJ aM gw hE aN;go_wp2;go_returns;rw[dd.o];exact Zs 2 bE.o
    ·rw[Vad n6] at bJ;have dd:=h_ bJ;generalize bs E=SE at*;clear bJ aM gw hE aN;go_wp2;go_returns;rw[dd.o];exact⟨_,rfl,⟨A,k,rfl,ep.o⟩,bE.o⟩
   ·rw[Vaf (.inr hE)] at bJ;rw[Vai (λh=>hE (gw.1 h))] at aM nO;have cV:((bs E).toList !=data.toList)=true:=aM;have dd:=h_ bJ;generalize bs E=SE at*;clear bJ aM gw hE aN;go_wp2;go_returns;rw[dd.o];exact Zs 12 bE.o
  ·rw[Vaf (.inl he)] at bJ;have az:((e:Int) !=0)=true:=(by rw[Va0];omega);have dd:=h_ bJ;generalize bs E=SE at*;clear bJ aM gw aN he;go_wp2;go_returns;rw[dd.o];exact Zs 12 bE.o
theorem Z5v {w:World} {m c:Nat} (dC:1<=m) (hm:m<=128) (data:ByteArray) (hd:data.size<=1000000000) {r:List UInt8} (hr:rnum (toL data) 3=some (c,r)) (most:Int)
  (cY:∀w2:World,(Instr.lookup 149 (.map (some w2.heap.size)) (.int .i64 (c:Int)) false).run Tryz.prog (w2.alloc (.map Zr 4))=.ok (.func (.func 157) #[] #[]) (w2.alloc (.map Zr 4)))
  (o:Option (List ByteArray)) (hw:RdC 157 m (bs r) o) (ad:∀l,o=some l->l.length<=4096/\∀v∈l,v.size<=128):
  Calls Tryz.prog 67 #[.int .i64 (m:Int),.string data,.int .i64 most] w λx w'=>TRes w (okB (m:Int) (toL data) most o) x w':=by
 obtain⟨dY,fE,dc⟩:=Zp hr;rw[Zc,show(((3:Nat):Int))=3 from rfl] at dY;have HN:=h_ (λW2 b (h:RV W2 b data 0)=>Zi h (by omega) 3);rw[dY] at HN;have fV:=h_ (ZN data w);have HE:=h_ (λW2 b (h:RV W2 b (bs r) 0)=>Za h);have dX:=h_ cY;have HW:=h_ hw;unfold RdC at HW;have cH:=h_ ad;have qe:(1:Int)<=(m:Int):=(by omega);have xm:(m:Int)<=128:=(by omega);generalize bs r=SR at*;obtain⟨R,hR⟩:∃R,okB (m:Int) (toL data) most o=R:=⟨_,rfl⟩;have HR:=h_ hR;rw[hR];clear dY cY hw ad hR hr dc;go_enter Tryz.func67,Tryz.ntmps67;go_wp2_with fail;refine(fV.o).mono ?_;rintro x w1 ⟨rfl,bk,a7⟩;have K1:=h_ (HN.o w1 _ bk);have ao:=h_ a7;clear bk a7 HN fV;go_wp2_with fail;refine(K1.out).mono ?_;rintro x w2 ⟨rfl,bj,ai⟩;have an:=h_ (Zb ao.o UZz ai);have eW:=h_ bj;have K2:=h_ (HE.o w2 _ bj);clear bj ai K1 HE ao;go_wp2_with fail;refine(K2.out).mono ?_;rintro x w3 ⟨rfl,rfl⟩;clear K2;go_wp2_with fail;refine(XT w2).mono ?_;rintro x w3 ⟨rfl,rfl⟩;have dt:=dX.o w2;have af:=an.o.alloc an.o.size (.map Zr 4);have aJ:=h_ af;have K3:=h_ (HW.o _ _ (Bk.alloc eW.o (.map Zr 4)));clear af HW eW an dX;go_wp2_with fail;refine(K3.out).mono ?_;rintro x w4 ⟨aF,hx⟩;have bh:=h_ (Zb aJ.o UZz aF);clear aF aJ K3 dt;cases o with
 |none=>
  obtain⟨A,n,k,rfl⟩:=hx;have gY:Hid (R=([],12)):=h_ HR.o.symm;clear HR cH;go_wp2;go_returns;rw[gY.o];exact Zs 12 bh.o
 |some l=>
  obtain⟨A,k,rfl,ak⟩:=hx;obtain⟨eu,kL⟩:=cH.o l rfl;have K5:=h_ (Yu ak (λs hs=>by have:=kL s hs;omega) l.length k rfl (by omega) (m:Int));have bD:=h_ ak;have ec:R=if(ZW (m:Int) l).2≠0\/(ZW (m:Int) l).1≠toL data then([],12) else if most<(l.length:Int) then([],2) else(l,0):=HR.o.symm
  unfold ERes at K5;have aN:=h_ ec;clear ak ec HR cH kL;generalize ZW (m:Int) l=EE at*;obtain⟨E,e⟩:=EE;simp only at K5;have gw:(bs E=data)↔E=toL data:=⟨λh=>by rw[<-h,Ze],λh=>by rw[h,Zc]⟩;have aM:=Z2Q (a:=bs E) (b:=data);have nO:=QG (a:=bs E) (b:=data);go_wp2_with fail;refine(K5.out).mono ?_;rintro x w5 ⟨rfl,aH⟩;have bE:=h_ (bh.o.trans (aH.mono bh.o.size));have ep:=h_ (bD.o.below aH);clear aH bh bD K5;have bJ:=aN.o;try simp only at bJ
  by_cases he:e=0
  ·subst he;by_cases hE:E=toL data
   ·rw[Vad (by rintro(h|h);exact h rfl;exact h hE)] at bJ;rw[Vao (gw.2 hE)] at aM nO;have cV:((bs E).toList !=data.toList)=false:=aM;by_cases n6:most<(l.length:Int)
    ·rw[Vaf n6] at bJ;have dd:=h_ bJ;generalize bs E=SE at*;clear bJ aM gw hE aN;go_wp2;go_returns;rw[dd.o];exact Zs 2 bE.o
    ·rw[Vad n6] at bJ;have dd:=h_ bJ;generalize bs E=SE at*;clear bJ aM gw hE aN;go_wp2;go_returns;rw[dd.o];exact⟨_,rfl,⟨A,k,rfl,ep.o⟩,bE.o⟩
   ·rw[Vaf (.inr hE)] at bJ;rw[Vai (λh=>hE (gw.1 h))] at aM nO;have cV:((bs E).toList !=data.toList)=true:=aM;have dd:=h_ bJ;generalize bs E=SE at*;clear bJ aM gw hE aN;go_wp2;go_returns;rw[dd.o];exact Zs 12 bE.o
  ·rw[Vaf (.inl he)] at bJ;have az:((e:Int) !=0)=true:=(by rw[Va0];omega);have dd:=h_ bJ;generalize bs E=SE at*;clear bJ aM gw aN he;go_wp2;go_returns;rw[dd.o];exact Zs 12 bE.o
theorem Z5w {w:World} {m c:Nat} (dC:1<=m) (hm:m<=128) (data:ByteArray) (hd:data.size<=1000000000) {r:List UInt8} (hr:rnum (toL data) 3=some (c,r)) (most:Int)
  (cY:∀w2:World,(Instr.lookup 149 (.map (some w2.heap.size)) (.int .i64 (c:Int)) false).run Tryz.prog (w2.alloc (.map Zr 4))=.ok (.func (.func 158) #[] #[]) (w2.alloc (.map Zr 4)))
  (o:Option (List ByteArray)) (hw:RdC 158 m (bs r) o) (ad:∀l,o=some l->l.length<=4096/\∀v∈l,v.size<=128):
  Calls Tryz.prog 67 #[.int .i64 (m:Int),.string data,.int .i64 most] w λx w'=>TRes w (okB (m:Int) (toL data) most o) x w':=by
 obtain⟨dY,fE,dc⟩:=Zp hr;rw[Zc,show(((3:Nat):Int))=3 from rfl] at dY;have HN:=h_ (λW2 b (h:RV W2 b data 0)=>Zi h (by omega) 3);rw[dY] at HN;have fV:=h_ (ZN data w);have HE:=h_ (λW2 b (h:RV W2 b (bs r) 0)=>Za h);have dX:=h_ cY;have HW:=h_ hw;unfold RdC at HW;have cH:=h_ ad;have qe:(1:Int)<=(m:Int):=(by omega);have xm:(m:Int)<=128:=(by omega);generalize bs r=SR at*;obtain⟨R,hR⟩:∃R,okB (m:Int) (toL data) most o=R:=⟨_,rfl⟩;have HR:=h_ hR;rw[hR];clear dY cY hw ad hR hr dc;go_enter Tryz.func67,Tryz.ntmps67;go_wp2_with fail;refine(fV.o).mono ?_;rintro x w1 ⟨rfl,bk,a7⟩;have K1:=h_ (HN.o w1 _ bk);have ao:=h_ a7;clear bk a7 HN fV;go_wp2_with fail;refine(K1.out).mono ?_;rintro x w2 ⟨rfl,bj,ai⟩;have an:=h_ (Zb ao.o UZz ai);have eW:=h_ bj;have K2:=h_ (HE.o w2 _ bj);clear bj ai K1 HE ao;go_wp2_with fail;refine(K2.out).mono ?_;rintro x w3 ⟨rfl,rfl⟩;clear K2;go_wp2_with fail;refine(XT w2).mono ?_;rintro x w3 ⟨rfl,rfl⟩;have dt:=dX.o w2;have af:=an.o.alloc an.o.size (.map Zr 4);have aJ:=h_ af;have K3:=h_ (HW.o _ _ (Bk.alloc eW.o (.map Zr 4)));clear af HW eW an dX;go_wp2_with fail;refine(K3.out).mono ?_;rintro x w4 ⟨aF,hx⟩;have bh:=h_ (Zb aJ.o UZz aF);clear aF aJ K3 dt;cases o with
 |none=>
  obtain⟨A,n,k,rfl⟩:=hx;have gY:Hid (R=([],12)):=h_ HR.o.symm;clear HR cH;go_wp2;go_returns;rw[gY.o];exact Zs 12 bh.o
 |some l=>
  obtain⟨A,k,rfl,ak⟩:=hx;obtain⟨eu,kL⟩:=cH.o l rfl;have K5:=h_ (Yu ak (λs hs=>by have:=kL s hs;omega) l.length k rfl (by omega) (m:Int));have bD:=h_ ak;have ec:R=if(ZW (m:Int) l).2≠0\/(ZW (m:Int) l).1≠toL data then([],12) else if most<(l.length:Int) then([],2) else(l,0):=HR.o.symm
  unfold ERes at K5;have aN:=h_ ec;clear ak ec HR cH kL;generalize ZW (m:Int) l=EE at*;obtain⟨E,e⟩:=EE;simp only at K5;have gw:(bs E=data)↔E=toL data:=⟨λh=>by rw[<-h,Ze],λh=>by rw[h,Zc]⟩;have aM:=Z2Q (a:=bs E) (b:=data);have nO:=QG (a:=bs E) (b:=data);go_wp2_with fail;refine(K5.out).mono ?_;rintro x w5 ⟨rfl,aH⟩;have bE:=h_ (bh.o.trans (aH.mono bh.o.size));have ep:=h_ (bD.o.below aH);clear aH bh bD K5;have bJ:=aN.o;try simp only at bJ
  by_cases he:e=0
  ·subst he;by_cases hE:E=toL data
   ·rw[Vad (by rintro(h|h);exact h rfl;exact h hE)] at bJ;rw[Vao (gw.2 hE)] at aM nO;have cV:((bs E).toList !=data.toList)=false:=aM;by_cases n6:most<(l.length:Int)
    ·rw[Vaf n6] at bJ;have dd:=h_ bJ;generalize bs E=SE at*;clear bJ aM gw hE aN;go_wp2;go_returns;rw[dd.o];exact Zs 2 bE.o
    ·rw[Vad n6] at bJ;have dd:=h_ bJ;generalize bs E=SE at*;clear bJ aM gw hE aN;go_wp2;go_returns;rw[dd.o];exact⟨_,rfl,⟨A,k,rfl,ep.o⟩,bE.o⟩
   ·rw[Vaf (.inr hE)] at bJ;rw[Vai (λh=>hE (gw.1 h))] at aM nO;have cV:((bs E).toList !=data.toList)=true:=aM;have dd:=h_ bJ;generalize bs E=SE at*;clear bJ aM gw hE aN;go_wp2;go_returns;rw[dd.o];exact Zs 12 bE.o
  ·rw[Vaf (.inl he)] at bJ;have az:((e:Int) !=0)=true:=(by rw[Va0];omega);have dd:=h_ bJ;generalize bs E=SE at*;clear bJ aM gw aN he;go_wp2;go_returns;rw[dd.o];exact Zs 12 bE.o
theorem Z5x {w:World} {m c:Nat} (dC:1<=m) (hm:m<=128) (data:ByteArray) (hd:data.size<=1000000000) {r:List UInt8} (hr:rnum (toL data) 3=some (c,r)) (most:Int)
  (cY:∀w2:World,(Instr.lookup 149 (.map (some w2.heap.size)) (.int .i64 (c:Int)) false).run Tryz.prog (w2.alloc (.map Zr 4))=.ok (.func (.func 159) #[] #[]) (w2.alloc (.map Zr 4)))
  (o:Option (List ByteArray)) (hw:RdC 159 m (bs r) o) (ad:∀l,o=some l->l.length<=4096/\∀v∈l,v.size<=128):
  Calls Tryz.prog 67 #[.int .i64 (m:Int),.string data,.int .i64 most] w λx w'=>TRes w (okB (m:Int) (toL data) most o) x w':=by
 obtain⟨dY,fE,dc⟩:=Zp hr;rw[Zc,show(((3:Nat):Int))=3 from rfl] at dY;have HN:=h_ (λW2 b (h:RV W2 b data 0)=>Zi h (by omega) 3);rw[dY] at HN;have fV:=h_ (ZN data w);have HE:=h_ (λW2 b (h:RV W2 b (bs r) 0)=>Za h);have dX:=h_ cY;have HW:=h_ hw;unfold RdC at HW;have cH:=h_ ad;have qe:(1:Int)<=(m:Int):=(by omega);have xm:(m:Int)<=128:=(by omega);generalize bs r=SR at*;obtain⟨R,hR⟩:∃R,okB (m:Int) (toL data) most o=R:=⟨_,rfl⟩;have HR:=h_ hR;rw[hR];clear dY cY hw ad hR hr dc;go_enter Tryz.func67,Tryz.ntmps67;go_wp2_with fail;refine(fV.o).mono ?_;rintro x w1 ⟨rfl,bk,a7⟩;have K1:=h_ (HN.o w1 _ bk);have ao:=h_ a7;clear bk a7 HN fV;go_wp2_with fail;refine(K1.out).mono ?_;rintro x w2 ⟨rfl,bj,ai⟩;have an:=h_ (Zb ao.o UZz ai);have eW:=h_ bj;have K2:=h_ (HE.o w2 _ bj);clear bj ai K1 HE ao;go_wp2_with fail;refine(K2.out).mono ?_;rintro x w3 ⟨rfl,rfl⟩;clear K2;go_wp2_with fail;refine(XT w2).mono ?_;rintro x w3 ⟨rfl,rfl⟩;have dt:=dX.o w2;have af:=an.o.alloc an.o.size (.map Zr 4);have aJ:=h_ af;have K3:=h_ (HW.o _ _ (Bk.alloc eW.o (.map Zr 4)));clear af HW eW an dX;go_wp2_with fail;refine(K3.out).mono ?_;rintro x w4 ⟨aF,hx⟩;have bh:=h_ (Zb aJ.o UZz aF);clear aF aJ K3 dt;cases o with
 |none=>
  obtain⟨A,n,k,rfl⟩:=hx;have gY:Hid (R=([],12)):=h_ HR.o.symm;clear HR cH;go_wp2;go_returns;rw[gY.o];exact Zs 12 bh.o
 |some l=>
  obtain⟨A,k,rfl,ak⟩:=hx;obtain⟨eu,kL⟩:=cH.o l rfl;have K5:=h_ (Yu ak (λs hs=>by have:=kL s hs;omega) l.length k rfl (by omega) (m:Int));have bD:=h_ ak;have ec:R=if(ZW (m:Int) l).2≠0\/(ZW (m:Int) l).1≠toL data then([],12) else if most<(l.length:Int) then([],2) else(l,0):=HR.o.symm
  unfold ERes at K5;have aN:=h_ ec;clear ak ec HR cH kL;generalize ZW (m:Int) l=EE at*;obtain⟨E,e⟩:=EE;simp only at K5;have gw:(bs E=data)↔E=toL data:=⟨λh=>by rw[<-h,Ze],λh=>by rw[h,Zc]⟩;have aM:=Z2Q (a:=bs E) (b:=data);have nO:=QG (a:=bs E) (b:=data);go_wp2_with fail;refine(K5.out).mono ?_;rintro x w5 ⟨rfl,aH⟩;have bE:=h_ (bh.o.trans (aH.mono bh.o.size));have ep:=h_ (bD.o.below aH);clear aH bh bD K5;have bJ:=aN.o;try simp only at bJ
  by_cases he:e=0
  ·subst he;by_cases hE:E=toL data
   ·rw[Vad (by rintro(h|h);exact h rfl;exact h hE)] at bJ;rw[Vao (gw.2 hE)] at aM nO;have cV:((bs E).toList !=data.toList)=false:=aM;by_cases n6:most<(l.length:Int)
    ·rw[Vaf n6] at bJ;have dd:=h_ bJ;generalize bs E=SE at*;clear bJ aM gw hE aN;go_wp2;go_returns;rw[dd.o];exact Zs 2 bE.o
    ·rw[Vad n6] at bJ;have dd:=h_ bJ;generalize bs E=SE at*;clear bJ aM gw hE aN;go_wp2;go_returns;rw[dd.o];exact⟨_,rfl,⟨A,k,rfl,ep.o⟩,bE.o⟩
   ·rw[Vaf (.inr hE)] at bJ;rw[Vai (λh=>hE (gw.1 h))] at aM nO;have cV:((bs E).toList !=data.toList)=true:=aM;have dd:=h_ bJ;generalize bs E=SE at*;clear bJ aM gw hE aN;go_wp2;go_returns;rw[dd.o];exact Zs 12 bE.o
  ·rw[Vaf (.inl he)] at bJ;have az:((e:Int) !=0)=true:=(by rw[Va0];omega);have dd:=h_ bJ;generalize bs E=SE at*;clear bJ aM gw aN he;go_wp2;go_returns;rw[dd.o];exact Zs 12 bE.o
theorem Z6V {w:World} (W:Int) (data:ByteArray) (hd:data.size<=1000000000) (most:Int):
  Calls Tryz.prog 67 #[.int .i64 W,.string data,.int .i64 most] w λx w'=>TRes w (decB W (toL data) most) x w':=by
 unfold decB;by_cases h1:W<1
 ·rw[Vaf (.inl h1)];go_enter Tryz.func67,Tryz.ntmps67;go_wp2_with fail;go_returns;exact Zs 1 (Vae _ _)
 ·by_cases h2:128<W
  ·rw[Vaf (.inr h2)];go_enter Tryz.func67,Tryz.ntmps67;go_wp2_with fail;go_returns;exact Zs 1 (Vae _ _)
  ·rw[Vad (by omega)];obtain⟨m,rfl⟩:∃m:Nat,W=m:=⟨W.toNat,by omega⟩;have dC:1<=m:=(by omega);have eG:m<=128:=(by omega);cases hr:rnum (toL data) 3 with
   |none=>
    have hb:Z1W (m:Int) (toL data)=none:=(by unfold Z1W;rw[hr]);rw[hb];obtain⟨e,he,dY⟩:=Y1 hr;rw[Zc,show(((3:Nat):Int))=3 from rfl] at dY;have HN:=h_ (λW2 b (h:RV W2 b data 0)=>Zi h (by omega) 3);rw[dY] at HN;have fV:=h_ (ZN data w);have HE:=h_ (λW2 b (h:RV W2 b data e)=>Za h);have az:((e:Int) !=0)=true:=(by rw[Va0];omega);clear dY hr hb he;go_enter Tryz.func67,Tryz.ntmps67;go_wp2_with fail;refine(fV.o).mono ?_;rintro x w1 ⟨rfl,bk,a7⟩;have K1:=h_ (HN.o w1 _ bk);have ao:=h_ a7;clear bk a7 HN fV;go_wp2_with fail;refine(K1.out).mono ?_;rintro x w2 ⟨rfl,bj,ai⟩;have an:=h_ (Zb ao.o UZz ai);have K2:=h_ (HE.o w2 _ bj);clear bj ai K1 HE ao;go_wp2_with fail;refine(K2.out).mono ?_;rintro x w3 ⟨rfl,rfl⟩;clear K2;go_wp2;go_returns;exact Zs 12 an.o
   |some p=>
    obtain⟨c,r⟩:=p;obtain⟨_,fE,dc⟩:=Zp hr;have fq:(bs r).size<=1000000000:=(by rw[Z0];rw[Z1] at dc;omega);have hl:=λ(k:Nat) (hk:k<=3) (w2:World)=>Z9x w2 k hk (w2.alloc (.map Zr 4)) (Vae _ _);have ad:=λl (h:Z1W (m:Int) (toL data)=some l)=>Zgd eG h;have iA:Z1W (m:Int) (toL data)=if c=0 then Z1V (m:Int) r else if c=1 then YG (m:Int) r else if c=2 then(Xn (m:Int) r).map (Y4 (bs (allV (m:Int) 48))) else Xn (m:Int) r:=by unfold Z1W;rw[hr]
    rcases(show c=0\/c=1\/c=2\/c=3 by omega) with rfl|rfl|rfl|rfl
    ·rw[Vaf rfl] at iA
     exact Z5u dC eG data hd hr most (λw2=>hl 0 (by omega) w2) _ (λW2 b h=>by
      have:=Z9v h fq dC eG;rw[Ze,<-iA] at this;exact this) ad
    ·rw[Vad (by decide),Vaf rfl] at iA
     exact Z5v dC eG data hd hr most (λw2=>hl 1 (by omega) w2) _ (λW2 b h=>by
      have:=Z9H h fq dC eG;rw[Ze,<-iA] at this;exact this) ad
    ·rw[Vad (by decide),Vad (by decide),Vaf rfl] at iA
     exact Z5w dC eG data hd hr most (λw2=>hl 2 (by omega) w2) _ (λW2 b h=>by
      have:=(Z9i h fq (m:Int)).mono λx w' h=>Z0O h;rw[Ze,<-iA] at this;exact this) ad
    ·rw[Vad (by decide),Vad (by decide),Vad (by decide)] at iA
     exact Z5x dC eG data hd hr most (λw2=>hl 3 (by omega) w2) _ (λW2 b h=>by
      have:=(Z2X h fq (m:Int)).mono λx w' h=>Z0O h;rw[Ze,<-iA] at this;exact this) ad
end Go.Proofs.YtchokmkfobandaaGreatDoor
