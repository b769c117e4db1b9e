import Derived.Test.YtchokmkfobandaaGreatDoorM36
import Derived.Test.YtchokmkfobandaaGreatDoorM35
set_option linter.unusedVariables false
set_option linter.unusedSimpArgs false
set_option maxRecDepth 100000
set_option maxHeartbeats 8000000
namespace Go.Proofs.YtchokmkfobandaaGreatDoor
open Go.RowKit Go.Proofs Wv Wv.Vi Wv.Rc Wv.Mo Wv.Ru Wv.Tm Wv.Bc
theorem Z9H {w:World} {b m:Nat} {s:ByteArray} (h:RV w b s 0) (hs:s.size<=1000000000) (dH:1<=m) (hm:m<=128):
  Calls Tryz.prog 157 #[.agg #[.int .i64 (m:Int)],.pointer (some ⟨b,0,none⟩)] w λx w'=>FinR b w (YG (m:Int) (toL s)) x w':=by
 cases hr:rnum (toL s) 4096 with
 |none=>
  obtain⟨e,he,hn⟩:=Y4 hr;have hz:=Z2h (w:=(m:Int)) _ _ hn;rw[hz];rw[Za] at hn⊢;exact Z87 h hs _ hn
 |some p=>
  obtain⟨n,r⟩:=p;by_cases h0:n=0
  ·subst h0;obtain⟨hn,_,_⟩:=Zp hr;have hz:=Z2h (w:=(m:Int)) _ _ hn;rw[hz];rw[Za] at hn;exact Z87 h hs _ hn
  ·exact Zge h hs dH hm hr h0
theorem Zgh (l:List ByteArray) (h4:l.length<=4096):(codC l).length<=4000000:=by
 by_cases h0:l=[]
 ·subst h0;exact(by decide:(codC []).length<=4000000)
 ·have hb:=congrArg ByteArray.size (Zda h0);simp only[ByteArray.size_append] at hb;rw[Z0] at hb;have sD:=Z0l h4 (Zw l);have oh:=Yd sD;have dV:=Z6t l (Zw l);have kC:(atI l (exI l (Zw l))).length<=4096:=(by unfold atI;rw[Vag];omega);have ow:=XO kC;have h5:=Xx ow.1 ow.2;have z0:=Z13 l.length;have z1:=Z0S (shr (toL (l.getD 0 default)));have z2:=Z0S (shr (toL (Zw l)));have z3:=Z0S (ZI (Z7 (exI l (Zw l))));have k1:=Y3 (toL (l.getD 0 default));have k2:=Y3 (toL (Zw l));have h6:(bs (enc (ZE (atI l (exI l (Zw l))))).1).size<=2000000:=h5;omega
theorem QA {c:Nat} {W:Int} {l:List ByteArray} (h:Zy W l=true):((codB c W l).getD []).length<=4000000:=by
 obtain⟨h1,h2,h3,h4⟩:=Zz.1 h;unfold codB;split
 ·unfold codP;split
  ·exact Var _
  ·rename_i hb;show(num l.length++toL (Bit.bstr (ZF l))).length<=_;have h1:=Bit.bstr_size (ZF l);have h2:=Z13 l.length;rw[Z0] at h2;rw[Vab,Z1];omega
 ·split
  ·exact Zgh l h4
  ·split
   ·have hs:=XO (l:=mixL (bs (allV W 48)) l) (by rw[Z0b];exact h4);have:=Xx hs.1 hs.2;show(enc _).1.length<=_;omega
   ·have hs:=XO (l:=l) h4;have:=Xx hs.1 hs.2;show(enc _).1.length<=_;omega
def wrO (c:Nat) (o:Option (List UInt8)):List UInt8×Nat:=match o with
 |none=>([],9)
 |some s=>(num c++s,0)
def WrC (JZ:FuncId) (A:Option Addr) (l:List ByteArray) (n cap:Nat) (W:Int) (o:Option (List UInt8)):Prop:=
 ∀W2,At W2 A (svs l)->Calls Tryz.prog JZ #[.agg #[.int .i64 W],.slice A n cap] W2 λx w'=>x=.returned (.tuple #[.string (bs (o.getD [])),.bool o.isSome])/\Below W2.heap.size W2 w'
theorem Z6U {w:World} {A:Option Addr} {l:List ByteArray} (ha:At w A (svs l)) (n cap:Nat) (W:Int) (c:Nat) (hc:c<=3) (da:∀w2:World,(Instr.lookup 124 (.map (some w2.heap.size)) (.int .i64 (c:Int)) false).run Tryz.prog (w2.alloc (.map Zq 4))=.ok (.func (.func 120) #[] #[]) (w2.alloc (.map Zq 4)))
  (o:Option (List UInt8)) (hw:WrC 120 A l n cap W o) (hlen:(o.getD []).length<=4000000) (hv:Calls Tryz.prog 56 #[.int .i64 W,.slice A n cap] w λx w'=>x=.returned (.bool true)/\Below w.heap.size w w'):
  Calls Tryz.prog 57 #[.int .i64 (c:Int),.int .i64 W,.slice A n cap] w λx w'=>ERes w (wrO c o) x w':=by
 have HV:=h_ hv;have Ha:=h_ ha;have HW:=h_ hw;have HN:=h_ (λW2=>Zh (c:Int) (by omega) (by omega) W2);rw[Vav] at HN;have ec:=h_ da;have hz:=Z13 c;have cw:∀s,bs (num c)++bs s=bs (num c++s):=λs=>Zf _ _;have gT:=h_ cw;have bP:¬(c:Int)<0:=(by omega);have pC:¬(4:Int)<=(c:Int):=(by omega);have he:bs ([]:List UInt8)=⟨#[]⟩:=rfl;unfold WrC at HW;clear hv ha hw da cw hc;cases o with
 |none=>
  show Calls Tryz.prog 57 #[.int .i64 (c:Int),.int .i64 W,.slice A n cap] w λx w'=>ERes w ([],9) x w';simp only[Option.getD_none,Option.isSome_none,he] at HW;clear hlen hz gT;go_enter Tryz.func57,Tryz.ntmps57;go_wp2_with fail;refine(HV.o).mono ?_;rintro x w1 ⟨rfl,a7⟩;go_wp2_with fail;refine(ZZ w1).mono ?_;rintro x w2 ⟨rfl,rfl⟩;have bW:=ec.o w1;have a8:=a7.alloc a7.size (.map Zq 4);have ak:=h_ a8;have K:=h_ (HW.o _ (Ha.o.below a8));clear a7 a8 HW Ha HV;go_wp2_with fail;refine(K.out).mono ?_;rintro x w3 ⟨rfl,af⟩;have aA:=h_ (ak.o.trans (af.mono ak.o.size));clear af ak K bW ec;go_wp2;go_returns;exact⟨rfl,aA.o⟩
 |some s=>
  show Calls Tryz.prog 57 #[.int .i64 (c:Int),.int .i64 W,.slice A n cap] w λx w'=>ERes w (num c++s,0) x w';simp only[Option.getD_some,Option.isSome_some] at HW hlen;have hs:(bs s).size<=4000000:=hlen;have nv:=Z12 (a:=(bs (num c)).size) (b:=(bs s).size) (by omega);have aN:=gT.o s;have bU:=h_ aN;generalize bs s=S at*;generalize bs (num c)=S0 at*;clear hlen hz gT aN he;go_enter Tryz.func57,Tryz.ntmps57;go_wp2_with fail;refine(HV.o).mono ?_;rintro x w1 ⟨rfl,a7⟩;go_wp2_with fail;refine(ZZ w1).mono ?_;rintro x w2 ⟨rfl,rfl⟩;have bW:=ec.o w1;have a8:=a7.alloc a7.size (.map Zq 4);have ak:=h_ a8;have K:=h_ (HW.o _ (Ha.o.below a8));clear a7 a8 HW Ha HV;go_wp2_with fail;refine(K.out).mono ?_;rintro x w3 ⟨rfl,af⟩;have aA:=h_ (ak.o.trans (af.mono ak.o.size));clear af ak K bW ec;go_wp2_with fail;refine(HN.o w3).mono ?_;rintro x w4 ⟨rfl,au⟩;have aU:=h_ (aA.o.trans (au.mono aA.o.size));clear au aA HN;go_wp2;go_returns;exact⟨by rw[<-bU.o];rfl,aU.o⟩
theorem Z6V {w:World} {A:Option Addr} {l:List ByteArray} (ha:At w A (svs l)) (n cap:Nat) (W:Int) (c:Nat) (hc:c<=3) (da:∀w2:World,(Instr.lookup 124 (.map (some w2.heap.size)) (.int .i64 (c:Int)) false).run Tryz.prog (w2.alloc (.map Zq 4))=.ok (.func (.func 121) #[] #[]) (w2.alloc (.map Zq 4)))
  (o:Option (List UInt8)) (hw:WrC 121 A l n cap W o) (hlen:(o.getD []).length<=4000000) (hv:Calls Tryz.prog 56 #[.int .i64 W,.slice A n cap] w λx w'=>x=.returned (.bool true)/\Below w.heap.size w w'):
  Calls Tryz.prog 57 #[.int .i64 (c:Int),.int .i64 W,.slice A n cap] w λx w'=>ERes w (wrO c o) x w':=by
 have HV:=h_ hv;have Ha:=h_ ha;have HW:=h_ hw;have HN:=h_ (λW2=>Zh (c:Int) (by omega) (by omega) W2);rw[Vav] at HN;have ec:=h_ da;have hz:=Z13 c;have cw:∀s,bs (num c)++bs s=bs (num c++s):=λs=>Zf _ _;have gT:=h_ cw;have bP:¬(c:Int)<0:=(by omega);have pC:¬(4:Int)<=(c:Int):=(by omega);have he:bs ([]:List UInt8)=⟨#[]⟩:=rfl;unfold WrC at HW;clear hv ha hw da cw hc;cases o with
 |none=>
  show Calls Tryz.prog 57 #[.int .i64 (c:Int),.int .i64 W,.slice A n cap] w λx w'=>ERes w ([],9) x w';simp only[Option.getD_none,Option.isSome_none,he] at HW;clear hlen hz gT;go_enter Tryz.func57,Tryz.ntmps57;go_wp2_with fail;refine(HV.o).mono ?_;rintro x w1 ⟨rfl,a7⟩;go_wp2_with fail;refine(ZZ w1).mono ?_;rintro x w2 ⟨rfl,rfl⟩;have bW:=ec.o w1;have a8:=a7.alloc a7.size (.map Zq 4);have ak:=h_ a8;have K:=h_ (HW.o _ (Ha.o.below a8));clear a7 a8 HW Ha HV;go_wp2_with fail;refine(K.out).mono ?_;rintro x w3 ⟨rfl,af⟩;have aA:=h_ (ak.o.trans (af.mono ak.o.size));clear af ak K bW ec;go_wp2;go_returns;exact⟨rfl,aA.o⟩
 |some s=>
  show Calls Tryz.prog 57 #[.int .i64 (c:Int),.int .i64 W,.slice A n cap] w λx w'=>ERes w (num c++s,0) x w';simp only[Option.getD_some,Option.isSome_some] at HW hlen;have hs:(bs s).size<=4000000:=hlen;have nv:=Z12 (a:=(bs (num c)).size) (b:=(bs s).size) (by omega);have aN:=gT.o s;have bU:=h_ aN;generalize bs s=S at*;generalize bs (num c)=S0 at*;clear hlen hz gT aN he;go_enter Tryz.func57,Tryz.ntmps57;go_wp2_with fail;refine(HV.o).mono ?_;rintro x w1 ⟨rfl,a7⟩;go_wp2_with fail;refine(ZZ w1).mono ?_;rintro x w2 ⟨rfl,rfl⟩;have bW:=ec.o w1;have a8:=a7.alloc a7.size (.map Zq 4);have ak:=h_ a8;have K:=h_ (HW.o _ (Ha.o.below a8));clear a7 a8 HW Ha HV;go_wp2_with fail;refine(K.out).mono ?_;rintro x w3 ⟨rfl,af⟩;have aA:=h_ (ak.o.trans (af.mono ak.o.size));clear af ak K bW ec;go_wp2_with fail;refine(HN.o w3).mono ?_;rintro x w4 ⟨rfl,au⟩;have aU:=h_ (aA.o.trans (au.mono aA.o.size));clear au aA HN;go_wp2;go_returns;exact⟨by rw[<-bU.o];rfl,aU.o⟩
theorem Z6W {w:World} {A:Option Addr} {l:List ByteArray} (ha:At w A (svs l)) (n cap:Nat) (W:Int) (c:Nat) (hc:c<=3) (da:∀w2:World,(Instr.lookup 124 (.map (some w2.heap.size)) (.int .i64 (c:Int)) false).run Tryz.prog (w2.alloc (.map Zq 4))=.ok (.func (.func 122) #[] #[]) (w2.alloc (.map Zq 4)))
  (o:Option (List UInt8)) (hw:WrC 122 A l n cap W o) (hlen:(o.getD []).length<=4000000) (hv:Calls Tryz.prog 56 #[.int .i64 W,.slice A n cap] w λx w'=>x=.returned (.bool true)/\Below w.heap.size w w'):
  Calls Tryz.prog 57 #[.int .i64 (c:Int),.int .i64 W,.slice A n cap] w λx w'=>ERes w (wrO c o) x w':=by
 have HV:=h_ hv;have Ha:=h_ ha;have HW:=h_ hw;have HN:=h_ (λW2=>Zh (c:Int) (by omega) (by omega) W2);rw[Vav] at HN;have ec:=h_ da;have hz:=Z13 c;have cw:∀s,bs (num c)++bs s=bs (num c++s):=λs=>Zf _ _;have gT:=h_ cw;have bP:¬(c:Int)<0:=(by omega);have pC:¬(4:Int)<=(c:Int):=(by omega);have he:bs ([]:List UInt8)=⟨#[]⟩:=rfl;unfold WrC at HW;clear hv ha hw da cw hc;cases o with
 |none=>
  show Calls Tryz.prog 57 #[.int .i64 (c:Int),.int .i64 W,.slice A n cap] w λx w'=>ERes w ([],9) x w';simp only[Option.getD_none,Option.isSome_none,he] at HW;clear hlen hz gT;go_enter Tryz.func57,Tryz.ntmps57;go_wp2_with fail;refine(HV.o).mono ?_;rintro x w1 ⟨rfl,a7⟩;go_wp2_with fail;refine(ZZ w1).mono ?_;rintro x w2 ⟨rfl,rfl⟩;have bW:=ec.o w1;have a8:=a7.alloc a7.size (.map Zq 4);have ak:=h_ a8;have K:=h_ (HW.o _ (Ha.o.below a8));clear a7 a8 HW Ha HV;go_wp2_with fail;refine(K.out).mono ?_;rintro x w3 ⟨rfl,af⟩;have aA:=h_ (ak.o.trans (af.mono ak.o.size));clear af ak K bW ec;go_wp2;go_returns;exact⟨rfl,aA.o⟩
 |some s=>
  show Calls Tryz.prog 57 #[.int .i64 (c:Int),.int .i64 W,.slice A n cap] w λx w'=>ERes w (num c++s,0) x w';simp only[Option.getD_some,Option.isSome_some] at HW hlen;have hs:(bs s).size<=4000000:=hlen;have nv:=Z12 (a:=(bs (num c)).size) (b:=(bs s).size) (by omega);have aN:=gT.o s;have bU:=h_ aN;generalize bs s=S at*;generalize bs (num c)=S0 at*;clear hlen hz gT aN he;go_enter Tryz.func57,Tryz.ntmps57;go_wp2_with fail;refine(HV.o).mono ?_;rintro x w1 ⟨rfl,a7⟩;go_wp2_with fail;refine(ZZ w1).mono ?_;rintro x w2 ⟨rfl,rfl⟩;have bW:=ec.o w1;have a8:=a7.alloc a7.size (.map Zq 4);have ak:=h_ a8;have K:=h_ (HW.o _ (Ha.o.below a8));clear a7 a8 HW Ha HV;go_wp2_with fail;refine(K.out).mono ?_;rintro x w3 ⟨rfl,af⟩;have aA:=h_ (ak.o.trans (af.mono ak.o.size));clear af ak K bW ec;go_wp2_with fail;refine(HN.o w3).mono ?_;rintro x w4 ⟨rfl,au⟩;have aU:=h_ (aA.o.trans (au.mono aA.o.size));clear au aA HN;go_wp2;go_returns;exact⟨by rw[<-bU.o];rfl,aU.o⟩
theorem Z6X {w:World} {A:Option Addr} {l:List ByteArray} (ha:At w A (svs l)) (n cap:Nat) (W:Int) (c:Nat) (hc:c<=3) (da:∀w2:World,(Instr.lookup 124 (.map (some w2.heap.size)) (.int .i64 (c:Int)) false).run Tryz.prog (w2.alloc (.map Zq 4))=.ok (.func (.func 123) #[] #[]) (w2.alloc (.map Zq 4)))
  (o:Option (List UInt8)) (hw:WrC 123 A l n cap W o) (hlen:(o.getD []).length<=4000000) (hv:Calls Tryz.prog 56 #[.int .i64 W,.slice A n cap] w λx w'=>x=.returned (.bool true)/\Below w.heap.size w w'):
  Calls Tryz.prog 57 #[.int .i64 (c:Int),.int .i64 W,.slice A n cap] w λx w'=>ERes w (wrO c o) x w':=by
 have HV:=h_ hv;have Ha:=h_ ha;have HW:=h_ hw;have HN:=h_ (λW2=>Zh (c:Int) (by omega) (by omega) W2);rw[Vav] at HN;have ec:=h_ da;have hz:=Z13 c;have cw:∀s,bs (num c)++bs s=bs (num c++s):=λs=>Zf _ _;have gT:=h_ cw;have bP:¬(c:Int)<0:=(by omega);have pC:¬(4:Int)<=(c:Int):=(by omega);have he:bs ([]:List UInt8)=⟨#[]⟩:=rfl;unfold WrC at HW;clear hv ha hw da cw hc;cases o with
 |none=>
  show Calls Tryz.prog 57 #[.int .i64 (c:Int),.int .i64 W,.slice A n cap] w λx w'=>ERes w ([],9) x w';simp only[Option.getD_none,Option.isSome_none,he] at HW;clear hlen hz gT;go_enter Tryz.func57,Tryz.ntmps57;go_wp2_with fail;refine(HV.o).mono ?_;rintro x w1 ⟨rfl,a7⟩;go_wp2_with fail;refine(ZZ w1).mono ?_;rintro x w2 ⟨rfl,rfl⟩;have bW:=ec.o w1;have a8:=a7.alloc a7.size (.map Zq 4);have ak:=h_ a8;have K:=h_ (HW.o _ (Ha.o.below a8));clear a7 a8 HW Ha HV;go_wp2_with fail;refine(K.out).mono ?_;rintro x w3 ⟨rfl,af⟩;have aA:=h_ (ak.o.trans (af.mono ak.o.size));clear af ak K bW ec;go_wp2;go_returns;exact⟨rfl,aA.o⟩
 |some s=>
  show Calls Tryz.prog 57 #[.int .i64 (c:Int),.int .i64 W,.slice A n cap] w λx w'=>ERes w (num c++s,0) x w';simp only[Option.getD_some,Option.isSome_some] at HW hlen;have hs:(bs s).size<=4000000:=hlen;have nv:=Z12 (a:=(bs (num c)).size) (b:=(bs s).size) (by omega);have aN:=gT.o s;have bU:=h_ aN;generalize bs s=S at*;generalize bs (num c)=S0 at*;clear hlen hz gT aN he;go_enter Tryz.func57,Tryz.ntmps57;go_wp2_with fail;refine(HV.o).mono ?_;rintro x w1 ⟨rfl,a7⟩;go_wp2_with fail;refine(ZZ w1).mono ?_;rintro x w2 ⟨rfl,rfl⟩;have bW:=ec.o w1;have a8:=a7.alloc a7.size (.map Zq 4);have ak:=h_ a8;have K:=h_ (HW.o _ (Ha.o.below a8));clear a7 a8 HW Ha HV;go_wp2_with fail;refine(K.out).mono ?_;rintro x w3 ⟨rfl,af⟩;have aA:=h_ (ak.o.trans (af.mono ak.o.size));clear af ak K bW ec;go_wp2_with fail;refine(HN.o w3).mono ?_;rintro x w4 ⟨rfl,au⟩;have aU:=h_ (aA.o.trans (au.mono aA.o.size));clear au aA HN;go_wp2;go_returns;exact⟨by rw[<-bU.o];rfl,aU.o⟩
theorem Zj4 {A:Option Addr} {l:List ByteArray} {W:Int} (hv:Zy W l=true) (ad:∀s∈l,s.size<=1099511627776) (n cap:Nat) (hn:n=l.length):
  WrC 120 A l n cap W (codB 0 W l)/\WrC 121 A l n cap W (codB 1 W l)/\WrC 122 A l n cap W (codB 2 W l)/\WrC 123 A l n cap W (codB 3 W l):=by
 obtain⟨h1,h2,h3,h4⟩:=Zz.1 hv
 exact⟨λW2 ha=>ZcM ha ad (λs hs c hc=>(Zv.1 (ZL.1 (h1 s hs)).1).1 c hc) n cap hn (by omega) W,
  λW2 ha=>Z5w ha ad n cap hn (by omega) W,λW2 ha=>Z9h ha ad n cap hn (by omega) W,λW2 ha=>Z9d ha ad n cap hn (by omega) W⟩
theorem Z9I {w:World} {A:Option Addr} {l:List ByteArray} (ha:At w A (svs l)) (ad:∀s∈l,s.size<=1099511627776) (n cap:Nat) (hn:n=l.length) (hm:n<=9223372036854775807) (c W:Int):
  Calls Tryz.prog 57 #[.int .i64 c,.int .i64 W,.slice A n cap] w λx w'=>ERes w (Zch c W l) x w':=by
 have hv:=Z0K ha ad n cap hn hm W;have he:bs ([]:List UInt8)=⟨#[]⟩:=rfl;unfold Zch;by_cases h0:c<0
 ·rw[Vaf (.inl h0)];clear ha ad hn hv;go_enter Tryz.func57,Tryz.ntmps57;go_wp2_with fail;go_returns;exact⟨rfl,Vae _ _⟩
 ·by_cases h4:3<c
  ·rw[Vaf (.inr h4)];have h5:(4:Int)<=c:=(by omega);clear ha ad hn hv;go_enter Tryz.func57,Tryz.ntmps57;go_wp2_with fail;go_returns;exact⟨rfl,Vae _ _⟩
  ·rw[Vad (by omega)];cases aV:Zy W l with
   |false=>
    rw[Vaf rfl];rw[aV] at hv;have HV:=h_ hv;have h5:¬(4:Int)<=c:=(by omega);clear ha ad hn hv aV;go_enter Tryz.func57,Tryz.ntmps57;go_wp2_with fail;refine(HV.o).mono ?_;rintro x w1 ⟨rfl,a7⟩;go_wp2;go_returns;exact⟨rfl,a7⟩
   |true=>
    rw[Vad (by simp)];rw[aV] at hv;obtain⟨k0,k1,k2,k3⟩:=Zj4 (A:=A) aV ad n cap hn;have hl:=λ(k:Nat) (hk:k<=3) (w2:World)=>Z9w w2 k hk (w2.alloc (.map Zq 4)) (Vae _ _);rcases(show c=((0:Nat):Int)\/c=((1:Nat):Int)\/c=((2:Nat):Int)\/c=((3:Nat):Int) by omega) with rfl|rfl|rfl|rfl
    ·have:=Z6U ha n cap W 0 (by omega) (λw2=>hl 0 (by omega) w2) (codB 0 W l) k0 (QA aV) hv;exact this
    ·have:=Z6V ha n cap W 1 (by omega) (λw2=>hl 1 (by omega) w2) (codB 1 W l) k1 (QA aV) hv;exact this
    ·have:=Z6W ha n cap W 2 (by omega) (λw2=>hl 2 (by omega) w2) (codB 2 W l) k2 (QA aV) hv;exact this
    ·have:=Z6X ha n cap W 3 (by omega) (λw2=>hl 3 (by omega) w2) (codB 3 W l) k3 (QA aV) hv;exact this
theorem Z8a {W:Int} {l:List ByteArray} (h:Zy W l=true):∀i,(bstB W l i).length<=4000009:=by
 intro i;rcases Z31 W l i with h1|⟨c,s,_,h2,h3⟩
 ·rw[h1];exact Var _
 ·rw[h3,Vab];have h4:=QA (c:=c) h;rw[h2] at h4;have h5:=Z13 c;rw[Z0] at h5;have h6:s.length<=4000000:=h4;omega
theorem Yv {w:World} {A:Option Addr} {l:List ByteArray} (ha:At w A (svs l)) (ad:∀s∈l,s.size<=1099511627776) (n cap:Nat) (hn:n=l.length) (hm:n<=9223372036854775807) (W:Int):
  Calls Tryz.prog 33 #[.int .i64 W,.slice A n cap] w λx w'=>ERes w (ZY W l) x w':=by
 have hv:=Z0K ha ad n cap hn hm W;have he:bs ([]:List UInt8)=⟨#[]⟩:=rfl;unfold ZY;cases aV:Zy W l with
 |false=>
  rw[Vaf rfl];rw[aV] at hv;have HV:=h_ hv;clear ha ad hn hv aV;go_enter Tryz.func33,Tryz.ntmps33;go_wp2_with fail;refine(HV.o).mono ?_;rintro x w1 ⟨rfl,a7⟩;go_wp2;go_returns;exact⟨rfl,a7⟩
 |true=>
  rw[Vad (by simp)];rw[aV] at hv;have HV:=h_ hv;have Ha:=h_ ha
  have gL:=h_ (λ(i:Nat) (hi:i<4) W2 (h:At W2 A (svs l))=>(by
   have:=Z9I h ad n cap hn hm (i:Int) W;unfold Zch at this;rw[Vad (by omega),aV,Vad (by simp),Vav] at this;exact this:Calls Tryz.prog 57 #[.int .i64 (i:Int),.int .i64 W,.slice A n cap] W2 λx w'=>ERes W2 (wrO i (codB i W l)) x w'))
  have av:=h_ (Z8a aV);have aT:∀i,bstB W l (i+1)=match codB i W l with|none=>bstB W l i|some s=>if bstB W l i=[]\/(num i++s).length<(bstB W l i).length then num i++s else bstB W l i:=λi=>rfl
  have aS:=h_ aT;have H0:Hid (bs (bstB W l 0)=⟨#[]⟩):=h_ rfl;have xl:=h_ (λi=>QA (c:=i) aV);obtain⟨BT,P4⟩:∃f,bstB W l=f:=⟨_,rfl⟩;obtain⟨CB,P5⟩:∃f:Nat->Option (List UInt8),(λi=>codB i W l)=f:=⟨_,rfl⟩;have P6:∀i,codB i W l=CB i:=λi=>congrFun P5 i;simp only[P4,P6] at gL av aS H0 xl⊢;clear ha ad hn hv aV aT P4 P5 P6 he;go_enter Tryz.func33,Tryz.ntmps33;go_wp2_with fail;refine(HV.o).mono ?_;rintro x w1 ⟨rfl,a7⟩;have al:=h_ a7;clear a7 HV;go_wp2;go_loopw [6,14] (λs6 jk wr=>∃i:Nat,i<=4/\jk=.int .i64 (i:Int)/\s6=.string (bs (BT i))/\Hid (Below w.heap.size w wr)) (λ_ jk _=>(4-intOf jk).toNat);case atStart=>exact⟨0,by omega,rfl,by rw[H0.o],al⟩
  case round=>
   clear al;obtain⟨i,hi,rfl,rfl,hb⟩:=hrel;by_cases ab:i<4
   ·have hk:=gL.o i ab wr (Ha.o.below hb.o);have aM:=aS.o i;have bW:=av.o i;have cB:=Xk (BT i);have jZ:=xl.o i;have Wt:(0:Int)<=(i:Int):=(by omega);have E5:(i:Int)<4:=(by omega);cases ho:CB i with
    |none=>
     rw[ho] at hk aM;unfold wrO at hk;simp only at hk aM;have K:=h_ hk;have HB:Hid (BT (i+1)=BT i):=h_ aM;clear hk aM cB jZ ho gL aS av xl H0 bW;unfold ERes at K;go_wp2_with fail;refine(K.out).mono ?_;rintro x w3 ⟨rfl,af⟩;have aA:=h_ (hb.o.trans (af.mono hb.o.size));clear K af hb;go_wp2;refine⟨⟨i+1,by omega,by go_num,by rw[HB.o],aA⟩,?_⟩;simp[intOf]<;>omega
    |some s=>
     rw[ho] at hk aM jZ;unfold wrO at hk;simp only[Option.getD_some] at hk aM jZ;unfold ERes at hk;simp only at hk;have gy:(bs (num i++s)).size=(num i++s).length:=Z0 _;have CT:(bs (BT i)).size=(BT i).length:=Z0 _;have K:=h_ hk;have HS:=h_ aM;by_cases rB:BT i=[]
     ·rw[Vam rB] at cB;have HB:Hid (bs (BT (i+1))=bs (num i++s)):=h_ (by rw[HS.o,Vaf (.inl rB)]);clear hk aM jZ ho gL aS av xl H0 bW gy CT HS rB;generalize bs (BT i)=SB at*;generalize bs (num i++s)=S at*;go_wp2_with fail;refine(K.out).mono ?_;rintro x w3 ⟨rfl,af⟩;have aA:=h_ (hb.o.trans (af.mono hb.o.size));clear K af hb;go_wp2;refine⟨⟨i+1,by omega,by go_num,by rw[HB.o],aA⟩,?_⟩;simp[intOf]<;>omega
     ·rw[Vah rB] at cB;by_cases fJ:(num i++s).length<(BT i).length
      ·have HB:Hid (bs (BT (i+1))=bs (num i++s)):=h_ (by rw[HS.o,Vaf (.inr fJ)]);have K0:((bs (num i++s)).size:Int)<((bs (BT i)).size:Int):=(by rw[gy,CT];omega);clear hk aM jZ ho gL aS av xl H0 bW gy CT HS rB fJ;generalize bs (BT i)=SB at*;generalize bs (num i++s)=S at*;go_wp2_with fail;refine(K.out).mono ?_;rintro x w3 ⟨rfl,af⟩;have aA:=h_ (hb.o.trans (af.mono hb.o.size));clear K af hb;go_wp2;refine⟨⟨i+1,by omega,by go_num,by rw[HB.o],aA⟩,?_⟩;simp[intOf]<;>omega
      ·have HB:Hid (bs (BT (i+1))=bs (BT i)):=h_ (by rw[HS.o,Vad (by rintro(h|h);exact rB h;exact fJ h)]);have K0:¬((bs (num i++s)).size:Int)<((bs (BT i)).size:Int):=(by rw[gy,CT];omega);clear hk aM jZ ho gL aS av xl H0 bW gy CT HS rB fJ;generalize bs (BT i)=SB at*;generalize bs (num i++s)=S at*;go_wp2_with fail;refine(K.out).mono ?_;rintro x w3 ⟨rfl,af⟩;have aA:=h_ (hb.o.trans (af.mono hb.o.size));clear K af hb;go_wp2;refine⟨⟨i+1,by omega,by go_num,by rw[HB.o],aA⟩,?_⟩;simp[intOf]<;>omega
   ·have xU:i=4:=(by omega);subst xU;clear gL aS av xl H0;go_wp2;go_returns;exact⟨rfl,hb.o⟩
theorem Zdh (k:Nat):∀b,(valOf k b).length=k:=by
 induction k with
 |zero=>intro _;rfl
 |succ k ih=>intro b;show(valOf k _).length+1=_;rw[ih]
theorem Z5y (w:Nat):∀(n:Nat) (b:List Bool),(QJ w n b).length=n/\∀v∈QJ w n b,v.size=w
 |0,_=>⟨rfl,λv h=>(by cases h)⟩
 |n+1,b=>by
  obtain⟨h1,h2⟩:=Z5y w n (b.drop (2*w));refine⟨by show(QJ w n _).length+1=_;rw[h1],λv hv=> ?_⟩;rcases Va9.1 hv with rfl|hv
  ·rw[Z0,Zdh]
  ·exact h2 v hv
theorem Zj5 (x:List Int) (vs:List ByteArray) (di:∀v∈vs,v.size<=128) (st:ByteArray):∀(k i:Nat) (last:ByteArray) (r:List ByteArray),runB x vs st k i last=some r->r.length=k/\∀v∈r,v.size<=128:=by
 intro k;induction k with
 |zero=>intro i last r h;injection h with h;subst h;exact⟨rfl,λv h=>(by cases h)⟩
 |succ k ih=>
  intro i last r h;rw[runB] at h;cases hl:look x vs (i:Int) with
  |some v=>
   rw[hl] at h;simp only at h;cases hr:runB x vs st k (i+1) v with
   |none=>rw[hr] at h;cases h
   |some q=>
    rw[hr] at h;injection h with h;subst h;obtain⟨h1,h2⟩:=ih _ _ _ hr;refine⟨by simp[h1],λu hu=> ?_⟩;rcases Va9.1 hu with rfl|hu
    ·exact di _ (Z4a _ _ hl)
    ·exact h2 u hu
  |none=>
   rw[hl] at h;simp only at h;by_cases ha:(addV (toL last) (toL st)).2=true
   ·rw[Vaf ha] at h;cases hr:runB x vs st k (i+1) (bs (addV (toL last) (toL st)).1) with
    |none=>rw[hr] at h;cases h
    |some q=>
     rw[hr] at h;injection h with h;subst h;obtain⟨h1,h2⟩:=ih _ _ _ hr;refine⟨by simp[h1],λu hu=> ?_⟩;rcases Va9.1 hu with rfl|hu
     ·rw[Z0];exact(Yq.1 (Z2J (Prod.ext rfl ha)).1).2.2
     ·exact h2 u hu
   ·rw[Vad ha] at h;cases h
theorem Zj6 {w:Int} {l r:List ByteArray} (h:extL w l=some r):∀v∈r,v.size<=128:=λv hv=>by
 rw[<-Z1];exact(Zv.1 (ZL.1 ((Z0C h).1 v hv)).1).2.2
theorem Zgi {m:Nat} (hm:m<=128) {data:List UInt8} {l:List ByteArray} (h:Z22 (m:Int) data=some l):l.length<=4096/\∀v∈l,v.size<=128:=by
 unfold Z22 at h;cases hr:rnum data 3 with
 |none=>rw[hr] at h;cases h
 |some p=>
  obtain⟨c,r⟩:=p;rw[hr] at h;simp only at h;have CU:∀q,Xm (m:Int) r=some q->q.length<=4096/\∀v∈q,v.size<=128:=λq hq=>⟨(Qj hq).2,(Qj hq).1⟩;by_cases h0:c=0
  ·rw[Vaf h0] at h;unfold Z21 at h;cases h1:rnum r 4096 with
   |none=>rw[h1] at h;cases h
   |some p=>
    obtain⟨n,t⟩:=p;rw[h1] at h;simp only at h;cases h2:Bit.nrd (bs t) with
    |none=>rw[h2] at h;cases h
    |some k=>
     rw[h2] at h;simp only at h;split at h
     ·injection h with h;subst h;obtain⟨s1,s2⟩:=Z5y ((m:Int)).toNat n (Bit.rbits (bs t) k);exact⟨by rw[s1];exact(Z0P h1).2.1,λv hv=>by rw[s2 v hv,Vav];exact hm⟩
     ·cases h
  ·rw[Vad h0] at h;by_cases h1:c=1
   ·rw[Vaf h1] at h;cases bR:rnum r 4096 with
    |none=>
     unfold YG at h;rw[bR] at h;cases h
    |some p=>
     obtain⟨n,t⟩:=p;obtain⟨_,bf,_⟩:=Z0P bR;by_cases hn:n=0
     ·subst hn;unfold YG at h;rw[bR] at h;simp only[if_true] at h;split at h
      ·injection h with h;subst h;exact⟨Var _,λv h=>(by cases h)⟩
      ·cases h
     ·obtain⟨t1,S1,e1,t2,S2,e2,t3,S3,e3,t4,S4,e4,_,_,_,_,_,_,_,bE⟩:=Z85 t;rcases bE with ⟨_,dC⟩|⟨_,f,s2,st,s3,a,s4,r1,r2,r3,_⟩
      ·rw[Z3a bR hn dC] at h;cases h
      ·rw[Z39 bR hn r1 r2 r3] at h;unfold Z5v at h;split at h
       ·cases h
       ·cases he:extL (m:Int) (dec s4 4096).1 with
        |none=>rw[he] at h;cases h
        |some vs=>
         rw[he] at h;simp only at h;split at h
         ·cases h
         ·rename_i jc;split at h
          ·cases h
          ·split at h
           ·cases h
           ·split at h
            ·cases hq:runB (atS (-1) (decn a 4096).1) vs (bs (if st=[] then[] else(ext (m:Int) st).1)) (n-1) 1 (bs (ext (m:Int) f).1) with
             |none=>rw[hq] at h;cases h
             |some q=>
              rw[hq] at h;injection h with h;subst h;obtain⟨q1,q2⟩:=Zj5 _ vs (Zj6 he) _ _ _ _ _ hq;refine⟨by simp[q1];omega,λu hu=> ?_⟩;rcases Va9.1 hu with rfl|hu
              ·rw[Z0];exact Z6O (by simpa using jc)
              ·exact q2 u hu
            ·cases h
   ·rw[Vad h1] at h;by_cases h2:c=2
    ·rw[Vaf h2] at h;cases hq:Xm (m:Int) r with
     |none=>rw[hq] at h;cases h
     |some q=>
      rw[hq] at h;injection h with h;subst h;obtain⟨q1,q2⟩:=CU q hq;exact⟨by rw[Xy];exact q1,Z27 q2 _⟩
    ·rw[Vad h2] at h;exact CU l h
def RdC (JZ:FuncId) (m:Nat) (s:ByteArray) (o:Option (List ByteArray)):Prop:=
 ∀W2 b,RV W2 b s 0->Calls Tryz.prog JZ #[.agg #[.int .i64 (m:Int)],.pointer (some ⟨b,0,none⟩)] W2 λx w'=>FinR b W2 o x w'
theorem Zs {w w':World} (e:Nat) (hb:Below w.heap.size w w'):TRes w ([],e) (.returned (.tuple #[.slice none 0 0,.int .i64 (e:Int)])) w':=⟨_,rfl,SRes.nil _,hb⟩
theorem Z5z {w:World} {m c:Nat} (dH:1<=m) (hm:m<=128) (data:ByteArray) (hd:data.size<=1000000000) {r:List UInt8} (hr:rnum (toL data) 3=some (c,r)) (most:Int)
  (da:∀w2:World,(Instr.lookup 149 (.map (some w2.heap.size)) (.int .i64 (c:Int)) false).run Tryz.prog (w2.alloc (.map Zr 4))=.ok (.func (.func 156) #[] #[]) (w2.alloc (.map Zr 4)))
  (o:Option (List ByteArray)) (hw:RdC 156 m (bs r) o) (ad:∀l,o=some l->l.length<=4096/\∀v∈l,v.size<=128):
  Calls Tryz.prog 67 #[.int .i64 (m:Int),.string data,.int .i64 most] w λx w'=>TRes w (okB (m:Int) (toL data) most o) x w':=by
 obtain⟨ef,fE,df⟩:=Zp hr;rw[Za,show(((3:Nat):Int))=3 from rfl] at ef;have HN:=h_ (λW2 b (h:RV W2 b data 0)=>Zi h (by omega) 3);rw[ef] at HN;have fU:=h_ (ZN data w);have HE:=h_ (λW2 b (h:RV W2 b (bs r) 0)=>Zb h);have ec:=h_ da;have HW:=h_ hw;unfold RdC at HW;have cC:=h_ ad;have qi:(1:Int)<=(m:Int):=(by omega);have xm:(m:Int)<=128:=(by omega);generalize bs r=SR at*;obtain⟨R,hR⟩:∃R,okB (m:Int) (toL data) most o=R:=⟨_,rfl⟩;have HR:=h_ hR;rw[hR];clear ef da hw ad hR hr df;go_enter Tryz.func67,Tryz.ntmps67;go_wp2_with fail;refine(fU.o).mono ?_;rintro x w1 ⟨rfl,bq,a7⟩;have K1:=h_ (HN.o w1 _ bq);have al:=h_ a7;clear bq a7 HN fU;go_wp2_with fail;refine(K1.out).mono ?_;rintro x w2 ⟨rfl,bm,ai⟩;have ak:=h_ (Zc al.o UZz ai);have fa:=h_ bm;have K2:=h_ (HE.o w2 _ bm);clear bm ai K1 HE al;go_wp2_with fail;refine(K2.out).mono ?_;rintro x w3 ⟨rfl,rfl⟩;clear K2;go_wp2_with fail;refine(XS w2).mono ?_;rintro x w3 ⟨rfl,rfl⟩;have dz:=ec.o w2;have af:=ak.o.alloc ak.o.size (.map Zr 4);have aA:=h_ af;have K3:=h_ (HW.o _ _ (Bk.alloc fa.o (.map Zr 4)));clear af HW fa ak ec;go_wp2_with fail;refine(K3.out).mono ?_;rintro x w4 ⟨aG,hx⟩;have aU:=h_ (Zc aA.o UZz aG);clear aG aA K3 dz;cases o with
 |none=>
  obtain⟨A,n,k,rfl⟩:=hx;have gY:Hid (R=([],12)):=h_ HR.o.symm;clear HR cC;go_wp2;go_returns;rw[gY.o];exact Zs 12 aU.o
 |some l=>
  obtain⟨A,k,rfl,an⟩:=hx;obtain⟨el,kI⟩:=cC.o l rfl;have K5:=h_ (Yv an (λs hs=>by have:=kI s hs;omega) l.length k rfl (by omega) (m:Int));have bJ:=h_ an;have ej:R=if(ZY (m:Int) l).2≠0\/(ZY (m:Int) l).1≠toL data then([],12) else if most<(l.length:Int) then([],2) else(l,0):=HR.o.symm
  unfold ERes at K5;have aQ:=h_ ej;clear an ej HR cC kI;generalize ZY (m:Int) l=EE at*;obtain⟨E,e⟩:=EE;simp only at K5;have gw:(bs E=data)↔E=toL data:=⟨λh=>by rw[<-h,Zd],λh=>by rw[h,Za]⟩;have aM:=Z2X (a:=bs E) (b:=data);have nT:=QI (a:=bs E) (b:=data);go_wp2_with fail;refine(K5.out).mono ?_;rintro x w5 ⟨rfl,aB⟩;have bj:=h_ (aU.o.trans (aB.mono aU.o.size));have gO:=h_ (bJ.o.below aB);clear aB aU bJ K5;have bK:=aQ.o;try simp only at bK
  by_cases he:e=0
  ·subst he;by_cases hE:E=toL data
   ·rw[Vad (by rintro(h|h);exact h rfl;exact h hE)] at bK;rw[Vam (gw.2 hE)] at aM nT;have cZ:((bs E).toList !=data.toList)=false:=aM;by_cases ng:most<(l.length:Int)
    ·rw[Vaf ng] at bK;have dh:=h_ bK;generalize bs E=SE at*;clear bK aM gw hE aQ;go_wp2;go_returns;rw[dh.o];exact Zs 2 bj.o
    ·rw[Vad ng] at bK;have dh:=h_ bK;generalize bs E=SE at*;clear bK aM gw hE aQ;go_wp2;go_returns;rw[dh.o];exact⟨_,rfl,⟨A,k,rfl,gO.o⟩,bj.o⟩
   ·rw[Vaf (.inr hE)] at bK;rw[Vah (λh=>hE (gw.1 h))] at aM nT;have cZ:((bs E).toList !=data.toList)=true:=aM;have dh:=h_ bK;generalize bs E=SE at*;clear bK aM gw hE aQ;go_wp2;go_returns;rw[dh.o];exact Zs 12 bj.o
  ·rw[Vaf (.inl he)] at bK;have ay:((e:Int) !=0)=true:=(by rw[Va1];omega);have dh:=h_ bK;generalize bs E=SE at*;clear bK aM gw aQ he;go_wp2;go_returns;rw[dh.o];exact Zs 12 bj.o
theorem Z5A {w:World} {m c:Nat} (dH:1<=m) (hm:m<=128) (data:ByteArray) (hd:data.size<=1000000000) {r:List UInt8} (hr:rnum (toL data) 3=some (c,r)) (most:Int)
  (da:∀w2:World,(Instr.lookup 149 (.map (some w2.heap.size)) (.int .i64 (c:Int)) false).run Tryz.prog (w2.alloc (.map Zr 4))=.ok (.func (.func 157) #[] #[]) (w2.alloc (.map Zr 4)))
  (o:Option (List ByteArray)) (hw:RdC 157 m (bs r) o) (ad:∀l,o=some l->l.length<=4096/\∀v∈l,v.size<=128):
  Calls Tryz.prog 67 #[.int .i64 (m:Int),.string data,.int .i64 most] w λx w'=>TRes w (okB (m:Int) (toL data) most o) x w':=by
 obtain⟨ef,fE,df⟩:=Zp hr;rw[Za,show(((3:Nat):Int))=3 from rfl] at ef;have HN:=h_ (λW2 b (h:RV W2 b data 0)=>Zi h (by omega) 3);rw[ef] at HN;have fU:=h_ (ZN data w);have HE:=h_ (λW2 b (h:RV W2 b (bs r) 0)=>Zb h);have ec:=h_ da;have HW:=h_ hw;unfold RdC at HW;have cC:=h_ ad;have qi:(1:Int)<=(m:Int):=(by omega);have xm:(m:Int)<=128:=(by omega);generalize bs r=SR at*;obtain⟨R,hR⟩:∃R,okB (m:Int) (toL data) most o=R:=⟨_,rfl⟩;have HR:=h_ hR;rw[hR];clear ef da hw ad hR hr df;go_enter Tryz.func67,Tryz.ntmps67;go_wp2_with fail;refine(fU.o).mono ?_;rintro x w1 ⟨rfl,bq,a7⟩;have K1:=h_ (HN.o w1 _ bq);have al:=h_ a7;clear bq a7 HN fU;go_wp2_with fail;refine(K1.out).mono ?_;rintro x w2 ⟨rfl,bm,ai⟩;have ak:=h_ (Zc al.o UZz ai);have fa:=h_ bm;have K2:=h_ (HE.o w2 _ bm);clear bm ai K1 HE al;go_wp2_with fail;refine(K2.out).mono ?_;rintro x w3 ⟨rfl,rfl⟩;clear K2;go_wp2_with fail;refine(XS w2).mono ?_;rintro x w3 ⟨rfl,rfl⟩;have dz:=ec.o w2;have af:=ak.o.alloc ak.o.size (.map Zr 4);have aA:=h_ af;have K3:=h_ (HW.o _ _ (Bk.alloc fa.o (.map Zr 4)));clear af HW fa ak ec;go_wp2_with fail;refine(K3.out).mono ?_;rintro x w4 ⟨aG,hx⟩;have aU:=h_ (Zc aA.o UZz aG);clear aG aA K3 dz;cases o with
 |none=>
  obtain⟨A,n,k,rfl⟩:=hx;have gY:Hid (R=([],12)):=h_ HR.o.symm;clear HR cC;go_wp2;go_returns;rw[gY.o];exact Zs 12 aU.o
 |some l=>
  obtain⟨A,k,rfl,an⟩:=hx;obtain⟨el,kI⟩:=cC.o l rfl;have K5:=h_ (Yv an (λs hs=>by have:=kI s hs;omega) l.length k rfl (by omega) (m:Int));have bJ:=h_ an;have ej:R=if(ZY (m:Int) l).2≠0\/(ZY (m:Int) l).1≠toL data then([],12) else if most<(l.length:Int) then([],2) else(l,0):=HR.o.symm
  unfold ERes at K5;have aQ:=h_ ej;clear an ej HR cC kI;generalize ZY (m:Int) l=EE at*;obtain⟨E,e⟩:=EE;simp only at K5;have gw:(bs E=data)↔E=toL data:=⟨λh=>by rw[<-h,Zd],λh=>by rw[h,Za]⟩;have aM:=Z2X (a:=bs E) (b:=data);have nT:=QI (a:=bs E) (b:=data);go_wp2_with fail;refine(K5.out).mono ?_;rintro x w5 ⟨rfl,aB⟩;have bj:=h_ (aU.o.trans (aB.mono aU.o.size));have gO:=h_ (bJ.o.below aB);clear aB aU bJ K5;have bK:=aQ.o;try simp only at bK
  by_cases he:e=0
  ·subst he;by_cases hE:E=toL data
   ·rw[Vad (by rintro(h|h);exact h rfl;exact h hE)] at bK;rw[Vam (gw.2 hE)] at aM nT;have cZ:((bs E).toList !=data.toList)=false:=aM;by_cases ng:most<(l.length:Int)
    ·rw[Vaf ng] at bK;have dh:=h_ bK;generalize bs E=SE at*;clear bK aM gw hE aQ;go_wp2;go_returns;rw[dh.o];exact Zs 2 bj.o
    ·rw[Vad ng] at bK;have dh:=h_ bK;generalize bs E=SE at*;clear bK aM gw hE aQ;go_wp2;go_returns;rw[dh.o];exact⟨_,rfl,⟨A,k,rfl,gO.o⟩,bj.o⟩
   ·rw[Vaf (.inr hE)] at bK;rw[Vah (λh=>hE (gw.1 h))] at aM nT;have cZ:((bs E).toList !=data.toList)=true:=aM;have dh:=h_ bK;generalize bs E=SE at*;clear bK aM gw hE aQ;go_wp2;go_returns;rw[dh.o];exact Zs 12 bj.o
  ·rw[Vaf (.inl he)] at bK;have ay:((e:Int) !=0)=true:=(by rw[Va1];omega);have dh:=h_ bK;generalize bs E=SE at*;clear bK aM gw aQ he;go_wp2;go_returns;rw[dh.o];exact Zs 12 bj.o
theorem Z5B {w:World} {m c:Nat} (dH:1<=m) (hm:m<=128) (data:ByteArray) (hd:data.size<=1000000000) {r:List UInt8} (hr:rnum (toL data) 3=some (c,r)) (most:Int)
  (da:∀w2:World,(Instr.lookup 149 (.map (some w2.heap.size)) (.int .i64 (c:Int)) false).run Tryz.prog (w2.alloc (.map Zr 4))=.ok (.func (.func 158) #[] #[]) (w2.alloc (.map Zr 4)))
  (o:Option (List ByteArray)) (hw:RdC 158 m (bs r) o) (ad:∀l,o=some l->l.length<=4096/\∀v∈l,v.size<=128):
  Calls Tryz.prog 67 #[.int .i64 (m:Int),.string data,.int .i64 most] w λx w'=>TRes w (okB (m:Int) (toL data) most o) x w':=by
 obtain⟨ef,fE,df⟩:=Zp hr;rw[Za,show(((3:Nat):Int))=3 from rfl] at ef;have HN:=h_ (λW2 b (h:RV W2 b data 0)=>Zi h (by omega) 3);rw[ef] at HN;have fU:=h_ (ZN data w);have HE:=h_ (λW2 b (h:RV W2 b (bs r) 0)=>Zb h);have ec:=h_ da;have HW:=h_ hw;unfold RdC at HW;have cC:=h_ ad;have qi:(1:Int)<=(m:Int):=(by omega);have xm:(m:Int)<=128:=(by omega);generalize bs r=SR at*;obtain⟨R,hR⟩:∃R,okB (m:Int) (toL data) most o=R:=⟨_,rfl⟩;have HR:=h_ hR;rw[hR];clear ef da hw ad hR hr df;go_enter Tryz.func67,Tryz.ntmps67;go_wp2_with fail;refine(fU.o).mono ?_;rintro x w1 ⟨rfl,bq,a7⟩;have K1:=h_ (HN.o w1 _ bq);have al:=h_ a7;clear bq a7 HN fU;go_wp2_with fail;refine(K1.out).mono ?_;rintro x w2 ⟨rfl,bm,ai⟩;have ak:=h_ (Zc al.o UZz ai);have fa:=h_ bm;have K2:=h_ (HE.o w2 _ bm);clear bm ai K1 HE al;go_wp2_with fail;refine(K2.out).mono ?_;rintro x w3 ⟨rfl,rfl⟩;clear K2;go_wp2_with fail;refine(XS w2).mono ?_;rintro x w3 ⟨rfl,rfl⟩;have dz:=ec.o w2;have af:=ak.o.alloc ak.o.size (.map Zr 4);have aA:=h_ af;have K3:=h_ (HW.o _ _ (Bk.alloc fa.o (.map Zr 4)));clear af HW fa ak ec;go_wp2_with fail;refine(K3.out).mono ?_;rintro x w4 ⟨aG,hx⟩;have aU:=h_ (Zc aA.o UZz aG);clear aG aA K3 dz;cases o with
 |none=>
  obtain⟨A,n,k,rfl⟩:=hx;have gY:Hid (R=([],12)):=h_ HR.o.symm;clear HR cC;go_wp2;go_returns;rw[gY.o];exact Zs 12 aU.o
 |some l=>
  obtain⟨A,k,rfl,an⟩:=hx;obtain⟨el,kI⟩:=cC.o l rfl;have K5:=h_ (Yv an (λs hs=>by have:=kI s hs;omega) l.length k rfl (by omega) (m:Int));have bJ:=h_ an;have ej:R=if(ZY (m:Int) l).2≠0\/(ZY (m:Int) l).1≠toL data then([],12) else if most<(l.length:Int) then([],2) else(l,0):=HR.o.symm
  unfold ERes at K5;have aQ:=h_ ej;clear an ej HR cC kI;generalize ZY (m:Int) l=EE at*;obtain⟨E,e⟩:=EE;simp only at K5;have gw:(bs E=data)↔E=toL data:=⟨λh=>by rw[<-h,Zd],λh=>by rw[h,Za]⟩;have aM:=Z2X (a:=bs E) (b:=data);have nT:=QI (a:=bs E) (b:=data);go_wp2_with fail;refine(K5.out).mono ?_;rintro x w5 ⟨rfl,aB⟩;have bj:=h_ (aU.o.trans (aB.mono aU.o.size));have gO:=h_ (bJ.o.below aB);clear aB aU bJ K5;have bK:=aQ.o;try simp only at bK
  by_cases he:e=0
  ·subst he;by_cases hE:E=toL data
   ·rw[Vad (by rintro(h|h);exact h rfl;exact h hE)] at bK;rw[Vam (gw.2 hE)] at aM nT;have cZ:((bs E).toList !=data.toList)=false:=aM;by_cases ng:most<(l.length:Int)
    ·rw[Vaf ng] at bK;have dh:=h_ bK;generalize bs E=SE at*;clear bK aM gw hE aQ;go_wp2;go_returns;rw[dh.o];exact Zs 2 bj.o
    ·rw[Vad ng] at bK;have dh:=h_ bK;generalize bs E=SE at*;clear bK aM gw hE aQ;go_wp2;go_returns;rw[dh.o];exact⟨_,rfl,⟨A,k,rfl,gO.o⟩,bj.o⟩
   ·rw[Vaf (.inr hE)] at bK;rw[Vah (λh=>hE (gw.1 h))] at aM nT;have cZ:((bs E).toList !=data.toList)=true:=aM;have dh:=h_ bK;generalize bs E=SE at*;clear bK aM gw hE aQ;go_wp2;go_returns;rw[dh.o];exact Zs 12 bj.o
  ·rw[Vaf (.inl he)] at bK;have ay:((e:Int) !=0)=true:=(by rw[Va1];omega);have dh:=h_ bK;generalize bs E=SE at*;clear bK aM gw aQ he;go_wp2;go_returns;rw[dh.o];exact Zs 12 bj.o
theorem Z5C {w:World} {m c:Nat} (dH:1<=m) (hm:m<=128) (data:ByteArray) (hd:data.size<=1000000000) {r:List UInt8} (hr:rnum (toL data) 3=some (c,r)) (most:Int)
  (da:∀w2:World,(Instr.lookup 149 (.map (some w2.heap.size)) (.int .i64 (c:Int)) false).run Tryz.prog (w2.alloc (.map Zr 4))=.ok (.func (.func 159) #[] #[]) (w2.alloc (.map Zr 4)))
  (o:Option (List ByteArray)) (hw:RdC 159 m (bs r) o) (ad:∀l,o=some l->l.length<=4096/\∀v∈l,v.size<=128):
  Calls Tryz.prog 67 #[.int .i64 (m:Int),.string data,.int .i64 most] w λx w'=>TRes w (okB (m:Int) (toL data) most o) x w':=by
 obtain⟨ef,fE,df⟩:=Zp hr;rw[Za,show(((3:Nat):Int))=3 from rfl] at ef;have HN:=h_ (λW2 b (h:RV W2 b data 0)=>Zi h (by omega) 3);rw[ef] at HN;have fU:=h_ (ZN data w);have HE:=h_ (λW2 b (h:RV W2 b (bs r) 0)=>Zb h);have ec:=h_ da;have HW:=h_ hw;unfold RdC at HW;have cC:=h_ ad;have qi:(1:Int)<=(m:Int):=(by omega);have xm:(m:Int)<=128:=(by omega);generalize bs r=SR at*;obtain⟨R,hR⟩:∃R,okB (m:Int) (toL data) most o=R:=⟨_,rfl⟩;have HR:=h_ hR;rw[hR];clear ef da hw ad hR hr df;go_enter Tryz.func67,Tryz.ntmps67;go_wp2_with fail;refine(fU.o).mono ?_;rintro x w1 ⟨rfl,bq,a7⟩;have K1:=h_ (HN.o w1 _ bq);have al:=h_ a7;clear bq a7 HN fU;go_wp2_with fail;refine(K1.out).mono ?_;rintro x w2 ⟨rfl,bm,ai⟩;have ak:=h_ (Zc al.o UZz ai);have fa:=h_ bm;have K2:=h_ (HE.o w2 _ bm);clear bm ai K1 HE al;go_wp2_with fail;refine(K2.out).mono ?_;rintro x w3 ⟨rfl,rfl⟩;clear K2;go_wp2_with fail;refine(XS w2).mono ?_;rintro x w3 ⟨rfl,rfl⟩;have dz:=ec.o w2;have af:=ak.o.alloc ak.o.size (.map Zr 4);have aA:=h_ af;have K3:=h_ (HW.o _ _ (Bk.alloc fa.o (.map Zr 4)));clear af HW fa ak ec;go_wp2_with fail;refine(K3.out).mono ?_;rintro x w4 ⟨aG,hx⟩;have aU:=h_ (Zc aA.o UZz aG);clear aG aA K3 dz;cases o with
 |none=>
  obtain⟨A,n,k,rfl⟩:=hx;have gY:Hid (R=([],12)):=h_ HR.o.symm;clear HR cC;go_wp2;go_returns;rw[gY.o];exact Zs 12 aU.o
 |some l=>
  obtain⟨A,k,rfl,an⟩:=hx;obtain⟨el,kI⟩:=cC.o l rfl;have K5:=h_ (Yv an (λs hs=>by have:=kI s hs;omega) l.length k rfl (by omega) (m:Int));have bJ:=h_ an;have ej:R=if(ZY (m:Int) l).2≠0\/(ZY (m:Int) l).1≠toL data then([],12) else if most<(l.length:Int) then([],2) else(l,0):=HR.o.symm
  unfold ERes at K5;have aQ:=h_ ej;clear an ej HR cC kI;generalize ZY (m:Int) l=EE at*;obtain⟨E,e⟩:=EE;simp only at K5;have gw:(bs E=data)↔E=toL data:=⟨λh=>by rw[<-h,Zd],λh=>by rw[h,Za]⟩;have aM:=Z2X (a:=bs E) (b:=data);have nT:=QI (a:=bs E) (b:=data);go_wp2_with fail;refine(K5.out).mono ?_;rintro x w5 ⟨rfl,aB⟩;have bj:=h_ (aU.o.trans (aB.mono aU.o.size));have gO:=h_ (bJ.o.below aB);clear aB aU bJ K5;have bK:=aQ.o;try simp only at bK
  by_cases he:e=0
  ·subst he;by_cases hE:E=toL data
   ·rw[Vad (by rintro(h|h);exact h rfl;exact h hE)] at bK;rw[Vam (gw.2 hE)] at aM nT;have cZ:((bs E).toList !=data.toList)=false:=aM;by_cases ng:most<(l.length:Int)
    ·rw[Vaf ng] at bK;have dh:=h_ bK;generalize bs E=SE at*;clear bK aM gw hE aQ;go_wp2;go_returns;rw[dh.o];exact Zs 2 bj.o
    ·rw[Vad ng] at bK;have dh:=h_ bK;generalize bs E=SE at*;clear bK aM gw hE aQ;go_wp2;go_returns;rw[dh.o];exact⟨_,rfl,⟨A,k,rfl,gO.o⟩,bj.o⟩
   ·rw[Vaf (.inr hE)] at bK;rw[Vah (λh=>hE (gw.1 h))] at aM nT;have cZ:((bs E).toList !=data.toList)=true:=aM;have dh:=h_ bK;generalize bs E=SE at*;clear bK aM gw hE aQ;go_wp2;go_returns;rw[dh.o];exact Zs 12 bj.o
  ·rw[Vaf (.inl he)] at bK;have ay:((e:Int) !=0)=true:=(by rw[Va1];omega);have dh:=h_ bK;generalize bs E=SE at*;clear bK aM gw aQ he;go_wp2;go_returns;rw[dh.o];exact Zs 12 bj.o
theorem Z6Y {w:World} (W:Int) (data:ByteArray) (hd:data.size<=1000000000) (most:Int):
  Calls Tryz.prog 67 #[.int .i64 W,.string data,.int .i64 most] w λx w'=>TRes w (decB W (toL data) most) x w':=by
 unfold decB;by_cases h1:W<1
 ·rw[Vaf (.inl h1)];go_enter Tryz.func67,Tryz.ntmps67;go_wp2_with fail;go_returns;exact Zs 1 (Vae _ _)
 ·by_cases h2:128<W
  ·rw[Vaf (.inr h2)];go_enter Tryz.func67,Tryz.ntmps67;go_wp2_with fail;go_returns;exact Zs 1 (Vae _ _)
  ·rw[Vad (by omega)];obtain⟨m,rfl⟩:∃m:Nat,W=m:=⟨W.toNat,by omega⟩;have dH:1<=m:=(by omega);have eJ:m<=128:=(by omega);cases hr:rnum (toL data) 3 with
   |none=>
    have hb:Z22 (m:Int) (toL data)=none:=(by unfold Z22;rw[hr]);rw[hb];obtain⟨e,he,ef⟩:=Y4 hr;rw[Za,show(((3:Nat):Int))=3 from rfl] at ef;have HN:=h_ (λW2 b (h:RV W2 b data 0)=>Zi h (by omega) 3);rw[ef] at HN;have fU:=h_ (ZN data w);have HE:=h_ (λW2 b (h:RV W2 b data e)=>Zb h);have ay:((e:Int) !=0)=true:=(by rw[Va1];omega);clear ef hr hb he;go_enter Tryz.func67,Tryz.ntmps67;go_wp2_with fail;refine(fU.o).mono ?_;rintro x w1 ⟨rfl,bq,a7⟩;have K1:=h_ (HN.o w1 _ bq);have al:=h_ a7;clear bq a7 HN fU;go_wp2_with fail;refine(K1.out).mono ?_;rintro x w2 ⟨rfl,bm,ai⟩;have ak:=h_ (Zc al.o UZz ai);have K2:=h_ (HE.o w2 _ bm);clear bm ai K1 HE al;go_wp2_with fail;refine(K2.out).mono ?_;rintro x w3 ⟨rfl,rfl⟩;clear K2;go_wp2;go_returns;exact Zs 12 ak.o
   |some p=>
    obtain⟨c,r⟩:=p;obtain⟨_,fE,df⟩:=Zp hr;have fw:(bs r).size<=1000000000:=(by rw[Z0];rw[Z1] at df;omega);have hl:=λ(k:Nat) (hk:k<=3) (w2:World)=>Z9x w2 k hk (w2.alloc (.map Zr 4)) (Vae _ _);have ad:=λl (h:Z22 (m:Int) (toL data)=some l)=>Zgi eJ h;have iA:Z22 (m:Int) (toL data)=if c=0 then Z21 (m:Int) r else if c=1 then YG (m:Int) r else if c=2 then(Xm (m:Int) r).map (Y8 (bs (allV (m:Int) 48))) else Xm (m:Int) r:=by unfold Z22;rw[hr]
    rcases(show c=0\/c=1\/c=2\/c=3 by omega) with rfl|rfl|rfl|rfl
    ·rw[Vaf rfl] at iA
     exact Z5z dH eJ data hd hr most (λw2=>hl 0 (by omega) w2) _ (λW2 b h=>by
      have:=Z9v h fw dH eJ;rw[Zd,<-iA] at this;exact this) ad
    ·rw[Vad (by decide),Vaf rfl] at iA
     exact Z5A dH eJ data hd hr most (λw2=>hl 1 (by omega) w2) _ (λW2 b h=>by
      have:=Z9H h fw dH eJ;rw[Zd,<-iA] at this;exact this) ad
    ·rw[Vad (by decide),Vad (by decide),Vaf rfl] at iA
     exact Z5B dH eJ data hd hr most (λw2=>hl 2 (by omega) w2) _ (λW2 b h=>by
      have:=(Z9i h fw (m:Int)).mono λx w' h=>Z0Q h;rw[Zd,<-iA] at this;exact this) ad
    ·rw[Vad (by decide),Vad (by decide),Vad (by decide)] at iA
     exact Z5C dH eJ data hd hr most (λw2=>hl 3 (by omega) w2) _ (λW2 b h=>by
      have:=(Z34 h fw (m:Int)).mono λx w' h=>Z0Q h;rw[Zd,<-iA] at this;exact this) ad
end Go.Proofs.YtchokmkfobandaaGreatDoor
