import Derived.Test.YtchokmkfobandaaGreatDoorJ24
import Derived.Test.YtchokmkfobandaaGreatDoorJ38
import Derived.Test.YtchokmkfobandaaGreatDoorJ37
set_option linter.unusedVariables false
set_option linter.unusedSimpArgs false
set_option maxRecDepth 100000
set_option maxHeartbeats 8000000
namespace Wv.Sg
def itv (f t:Int):Bool:=decide (-1<=f)&&decide (f<=t)&&decide (t<=1099511627776)
theorem YJ {f t:Int} :itv f t=true↔-1<=f/\f<=t/\t<=1099511627776:=by
 unfold itv;rw[Va1,Va1,Vas,Vas,Vas,and_assoc]
def upM (x k:Int):Int:=if 0<=x then x/k+1 else 0
def nM (f t k:Int):Int:=if itv f t=false\/k<1 then-1 else if 4096<upM t k-upM f k then-1 else upM t k-upM f k
def ms (f t k:Int):List Int:=(List.range (nM f t k).toNat).map (λ(i:Nat)=>(upM f k+i)*k)
theorem Z8b {x y k:Int} (hk:1<=k) (h:x<=y):upM x k<=upM y k:=by
 unfold upM;by_cases h0:0<=x
 ·rw[Vaf h0,Vaf (by omega)];have:=Int.ediv_le_ediv (show 0<k by omega) h;omega
 ·rw[Vad h0];split
  ·have:=Vci (a:=y) (b:=k) (by assumption) (by omega);omega
  ·omega
theorem Zge (f t k:Int):nM f t k<=4096:=by
 unfold nM;split
 ·omega
 ·split<;>omega
theorem Z5y (f t k:Int):(ms f t k).length=(nM f t k).toNat:=by unfold ms;rw[Vag,Vbu]
def fstM (f k:Int):Int:=upM f k*k
theorem Zdi {f k:Int} (hk:1<=k) (hf: -1<=f):((f+1) % k=0/\fstM f k=f+1)\/(0<(f+1) % k/\fstM f k=f+1+(k-(f+1) % k)):=by
 unfold fstM upM;by_cases h0:0<=f
 ·rw[Vaf h0];have h1:=Vdb f k;have h2:=Vdc f (show k≠0 by omega);have h3:=Vcv f (show 0<k by omega);obtain⟨q,hq⟩:∃q,f/k=q:=⟨_,rfl⟩;obtain⟨m,hm⟩:∃m,f % k=m:=⟨_,rfl⟩;rw[hq,hm] at h1;rw[hm] at h2 h3;rw[hq,Vcu,Int.one_mul,Int.mul_comm q k];by_cases bG:m+1=k
  ·left;have e:f+1=k*(q+1):=(by rw[Int.mul_add,Int.mul_one];omega);refine⟨by rw[e];exact Int.mul_emod_right k (q+1),by omega⟩
  ·right;have e:f+1=k*q+(m+1):=(by omega)
   have e2:(f+1) % k=m+1:=by
    rw[e,Int.mul_add_emod_self_left];exact Int.emod_eq_of_lt (by omega) (by omega)
   rw[e2];exact⟨by omega,by omega⟩
 ·have:f= -1:=(by omega);subst this;left;rw[Vad (by omega)];simp
theorem Zdj {f t k:Int} (hk:1<=k) (h:itv f t=true):(t<fstM f k/\upM t k-upM f k=0)\/(fstM f k<=t/\(t-fstM f k)/k+1=upM t k-upM f k):=by
 obtain⟨i1,i2,i3⟩:=YJ.1 h;have hm:=Z8b hk i2;have h1:=Vdb t k;have h2:=Vdc t (show k≠0 by omega);have h3:=Vcv t (show 0<k by omega);obtain⟨u,hu⟩:∃u,upM f k=u:=⟨_,rfl⟩
 have rQ:0<=u:=by
  rw[<-hu];unfold upM;split
  ·have:=Vci (a:=f) (b:=k) (by assumption) (by omega);omega
  ·omega
 unfold fstM;rw[hu] at hm⊢;by_cases ht:t<u*k
 ·left;refine⟨ht,?_⟩
  have:upM t k<=u:=by
   unfold upM;split
   ·have:t/k<u:=Int.ediv_lt_of_lt_mul (by omega) ht;omega
   ·omega
  omega
 ·right;refine⟨by omega,?_⟩;have h0:0<=t:=(by have:=Int.mul_nonneg rQ (show 0<=k by omega);omega)
  have e:(t-u*k)/k=t/k-u:=by
   have:=Int.add_mul_ediv_right t (-u) (show k≠0 by omega);rw[Int.neg_mul] at this;rw[show t-u*k=t+ -(u*k) by omega,this];omega
  rw[e];unfold upM;rw[Vaf h0];omega
theorem Z5z (f t k:Int) (i:Nat) (h:i<(ms f t k).length):(ms f t k)[i]=fstM f k+i*k:=by
 simp only[ms,Vcg,List.getElem_range,fstM];rw[Vcu]
theorem ZkJ {f t k:Int} {x:Int} (h:x∈ms f t k):1<=k/\f<x/\x<=t/\x % k=0:=by
 obtain⟨i,hi,rfl⟩:=List.getElem_of_mem h;rw[Z5y] at hi;have hn:nM f t k≠-1:=λe=>(by rw[e] at hi;simp at hi);unfold nM at hn hi;split at hn
 ·exact absurd rfl hn
 ·rename_i hc;rw[Vad hc] at hi;have hit:itv f t=true:=(by cases hb:itv f t<;>simp_all);have hk:1<=k:=(by omega);split at hn
  ·exact absurd rfl hn
  ·rename_i h4;rw[Vad h4] at hi;rw[Z5z];obtain⟨i1,i2,i3⟩:=YJ.1 hit;have jM:=Zdi hk i1;rcases Zdj hk hit with ⟨_,c2⟩|⟨c1,c2⟩
   ·omega
   ·have uP:(i:Int)<=(t-fstM f k)/k:=(by omega);have h5:=Int.mul_le_mul_of_nonneg_right uP (show 0<=k by omega);have h6:=Int.ediv_mul_le (t-fstM f k) (show k≠0 by omega);have h7:=Int.mul_nonneg (show(0:Int)<=i by omega) (show 0<=k by omega);have h8:=Vcv (f+1) (show 0<k by omega);refine⟨hk,?_,by omega,?_⟩
    ·rcases jM with ⟨_,h⟩|⟨_,h⟩<;>omega
    ·unfold fstM;rw[<-Vcu];exact Int.mul_emod_left _ _
def atV (b:ByteArray):List (Int×ByteArray)->Int->ByteArray
 |[],_=>b
 |c::l,t=>atV (if c.1<=t then c.2 else b) l t
theorem Z47 (t:Int):∀(l:List (Int×ByteArray)) (b:ByteArray) (c:Int×ByteArray),atV b (l++[c]) t=if c.1<=t then c.2 else atV b l t
 |[],b,c=>rfl
 |d::l,b,c=>by
  show atV _ (l++[c]) t=_;rw[Z47 t l];rfl
theorem Z8c (t:Int):∀(l:List (Int×ByteArray)) (b:ByteArray),(∀c∈l,t<c.1)->atV b l t=b
 |[],_,_=>rfl
 |d::l,b,h=>by
  show atV (if d.1<=t then d.2 else b) l t=b;rw[Vad (by have:=h d Vap;omega)];exact Z8c t l b (λc hc=>h c (Var _ hc))
theorem Zdk (t:Int):∀(l m:List (Int×ByteArray)) (b:ByteArray),atV b (l++m) t=atV (atV b l t) m t
 |[],_,_=>rfl
 |d::l,m,b=>Zdk t l m _
theorem Zdl {l:List (Int×ByteArray)} {t:Int} {b:ByteArray} {k:Nat} (hk:k<=l.length) (h1:∀j (h:j<l.length),k<=j->t<l[j].1) (h2:∀(h0:0<k),(l[k-1]'(by omega)).1<=t):atV b l t=if h0:0<k then(l[k-1]'(by omega)).2 else b:=by
 have hd:∀c∈l.drop k,t<c.1:=by
  intro c hc;obtain⟨i,hi,rfl⟩:=List.getElem_of_mem hc;rw[Vcx];exact h1 _ _ (by omega)
 conv=>lhs;rw[<-Vcb k l]
 rw[Zdk,Z8c t _ _ hd];by_cases h0:0<k
 ·rw[dif_pos h0]
  have e:l.take k=l.take (k-1)++[l[k-1]'(by omega)]:=by
   have:=Vac (show k-1<l.length by omega)
   rwa [show k-1+1=k by omega] at this
  rw[e,Z47,Vaf (h2 h0)]
 ·rw[dif_neg h0,show k=0 by omega,Vbw];rfl
def smp (f t k:Int) (b:ByteArray) (l:List (Int×ByteArray)):List (Int×ByteArray):=(ms f t k).map (λx=>(x,atV b l x))
theorem Z48 (f t k:Int) (b:ByteArray) (l:List (Int×ByteArray)):(smp f t k b l).length=(nM f t k).toNat:=by unfold smp;rw[Vag,Z5y]
end Wv.Sg
namespace Go.Proofs.YtchokmkfobandaaGreatDoor
open Go.RowKit Go.Proofs Wv Wv.Vi
theorem Ye {w:World} {A:Option Addr} {l:List (Int×ByteArray)} (ha:At w A (cv l)) (k:Nat) (h:k<l.length):∃b o,A=some ⟨b,o,none⟩/\b<w.heap.size/\w.cell? ⟨b,o+k*2,none⟩=some (.int .i64 l[k].1)/\w.cell? ⟨b,o+k*2+1,none⟩=some (.string l[k].2):=by
 have hp:=ZgU l k h;obtain⟨b,o,hA,ab,c0⟩:=ha.get (k*2) _ hp.1;obtain⟨b',o',nW,_,c1⟩:=ha.get (k*2+1) _ hp.2;rw[hA] at nW;injection nW with nW
 injection nW with h1 h2;subst h1;subst h2;exact⟨b,o,hA,ab,c0,c1⟩
open Wv.Bc Wv.Sn Wv.Sg
theorem Z49 (f t:Int) (w:World):
  Calls Tryz.prog 42 #[.int .i64 f,.int .i64 t] w λx w'=>x=.returned (.bool (itv f t))/\w=w':=by
 have HI:Hid (itv f t=(decide (-1<=f)&&decide (f<=t)&&decide (t<=1099511627776))):=h_ rfl;by_cases h1: -1<=f
 ·by_cases h2:f<=t
  ·by_cases h3:t<=1099511627776
   ·have HR:Hid (itv f t=true):=h_ (by rw[HI.o];simp[*]);go_enter Tryz.func42,Tryz.ntmps42;go_wp2;go_returns;exact⟨Z4 HR.o.symm,rfl⟩
   ·have HR:Hid (itv f t=false):=h_ (by rw[HI.o];simp[*]);go_enter Tryz.func42,Tryz.ntmps42;go_wp2;go_returns;exact⟨Z4 HR.o.symm,rfl⟩
  ·have HR:Hid (itv f t=false):=h_ (by rw[HI.o];simp[*]);go_enter Tryz.func42,Tryz.ntmps42;go_wp2;go_returns;exact⟨Z4 HR.o.symm,rfl⟩
 ·have HR:Hid (itv f t=false):=h_ (by rw[HI.o];simp[*]);go_enter Tryz.func42,Tryz.ntmps42;go_wp2;go_returns;exact⟨Z4 HR.o.symm,rfl⟩
theorem Zj2 {w:World} {A:Option Addr} {b:ByteArray} {l:List (Int×ByteArray)} (ha:At w A (cv l)) (n cap:Nat) (hn:n=l.length) (bo:n<=9223372036854775807) (t:Int):
  Calls Tryz.prog 40 #[.string b,.slice A n cap,.int .i64 t] w λx w'=>x=.returned (.string (atV b l t))/\w=w':=by
 have Ha:=h_ ha;have Hn:=h_ hn;clear ha hn;go_enter Tryz.func40,Tryz.ntmps40;go_wp2;go_loopw [7,8] (λs5 s6 wr=>∃k:Nat,k<=n/\s6=.int .i64 (k:Int)/\s5=.string (atV b (l.take k) t)/\wr=w) (λ_ s6 _=>(n-intOf s6).toNat);case atStart=>exact⟨0,Vat _,rfl,rfl,rfl⟩
 case round=>
  obtain⟨k,hk,rfl,rfl,rfl⟩:=hrel;by_cases ab:k<n
  ·have h1:k<l.length:=(by rw[<-Hn.o];exact ab);obtain⟨bA,oA,rfl,_,c0,c1⟩:=Ye Ha.o k h1;have ay:l.take (k+1)=l.take k++[l[k]]:=Vac h1;have ak:=Z47 t (l.take k) b l[k];rw[<-ay] at ak;have cj:(0:Int)<=(k:Int):=(by omega);have iK:(k:Int)<(n:Int):=(by omega);obtain⟨⟨x,v⟩,hs⟩:∃x,l[k]=x:=⟨_,rfl⟩;rw[hs] at c0 c1 ak;simp only at c0 c1 ak;generalize atV b (l.take k) t=V at*;have bD:=h_ ak;clear ay ak hs h1;by_cases hg:x<=t
   ·have Hx:Hid (atV b (l.take (k+1)) t=v):=h_ (by rw[bD.o,Vaf hg]);clear bD;go_wp2;refine⟨⟨k+1,ab,by go_num,by rw[Hx.o],(by first|trivial|rfl)⟩,?_⟩;simp[intOf]<;>omega
   ·have Hx:Hid (atV b (l.take (k+1)) t=V):=h_ (by rw[bD.o,Vad hg]);clear bD;go_wp2;refine⟨⟨k+1,ab,by go_num,by rw[Hx.o],(by first|trivial|rfl)⟩,?_⟩;simp[intOf]<;>omega
  ·have eH:k=n:=(by omega);subst eH;have HR:Hid (atV b (l.take k) t=atV b l t):=h_ (by rw[Vah (by rw[Hn.o];exact UZz)]);go_wp2;go_returns;exact⟨Z0w HR.o,rfl⟩
def fewB (l:List (Int×ByteArray)) (m:Int):Bool:=l.all (λx=>decide ((x.2.size:Int)<=150))&&decide ((l.length:Int)<=m)
theorem Zgf {w : World} {A : Option Addr} {l : List (Int × ByteArray)} (ha : At w A (cv l)) (n cap : Nat) (hn : n = l.length) (bo : n <= 9223372036854775807) (m : Int) :
    Calls Tryz.prog 11 #[.slice A n cap,.int .i64 m] w λx w'=>x=.returned (.bool (fewB l m))/\w=w':=by
  have Ha:=h_ ha;have Hn:=h_ hn;have HS:Hid (fewB l m=(l.all (λx=>decide ((x.2.size:Int)<=150))&&decide ((n:Int)<=m))):=h_ (by rw[hn];rfl);clear ha hn;go_enter Tryz.func11,Tryz.ntmps11;go_wp2;go_loopw [5] (λs5 wr=>∃k:Nat,k<=n/\s5=.int .i64 (k:Int)/\Hid ((l.take k).all (λx=>decide ((x.2.size:Int)<=150))=true)/\wr=w) (λs5 _=>(n-intOf s5).toNat);case atStart=>exact⟨0,Vat _,rfl,h_ rfl,rfl⟩
  case round=>
    obtain⟨k,hk,rfl,ar,rfl⟩:=hrel;by_cases ab:k<n
    · have h1:k<l.length:=by rw[<-Hn.o];exact ab
      obtain⟨bA,oA,rfl,_,c0,c1⟩:=Ye Ha.o k h1;have ay:l.take (k+1)=l.take k++[l[k]]:=Vac h1;have gM:l[k]∈l:=Vak _;have cj:(0:Int)<=(k:Int):=(by omega);have iK:(k:Int)<(n:Int):=(by omega);obtain⟨⟨t,a⟩,hs⟩:∃x,l[k]=x:=⟨_,rfl⟩;rw[hs] at c0 c1 ay gM;simp only at c0 c1;by_cases hg:(150:Int)<(a.size:Int)
      · have HR : Hid (fewB l m = false) := h_ (by
          rw[HS.o,Vda];left;rw[List.all_eq_false];exact⟨_,gM,by simp;omega⟩)
        clear ay gM ar h1 hs;go_wp2;go_returns;exact⟨Z4 HR.o.symm,rfl⟩
      · have eK : Hid ((l.take (k + 1)).all (λx => decide ((x.2.size : Int) <= 150)) = true) := h_ (by
          rw[ay,List.all_append,ar.o];simp;omega)
        clear ay gM ar h1 hs;go_wp2;refine⟨⟨k+1,ab,by go_num,eK,(by first|trivial|rfl)⟩,?_⟩;simp[intOf]<;>omega
    · have eH:k=n:=by omega
      subst eH
      have HR:Hid (fewB l m=decide ((k:Int)<=m)):=h_ (by
        have h:=ar.o;rw[Vah (by rw[Hn.o];exact UZz)] at h;rw[HS.o,h,Bool.true_and])
      clear ar;go_wp2;go_returns;exact⟨Z4 HR.o.symm,rfl⟩
theorem Z5A (f t k:Int) (hf:I64 f) (ht:I64 t) (hk:I64 k) (w:World):
  Calls Tryz.prog 23 #[.int .i64 f,.int .i64 t,.int .i64 k] w λx w'=>x=.returned (.int .i64 (nM f t k))/\w=w':=by
 have HI:=h_ (λW=>Z49 f t W);have HN:Hid (nM f t k=if itv f t=false\/k<1 then-1 else if 4096<upM t k-upM f k then-1 else upM t k-upM f k):=h_ rfl;cases hit:itv f t with
 |false=>
  rw[hit] at HI;have HR:Hid (nM f t k= -1):=h_ (by rw[HN.o,Vaf (.inl hit)]);clear hit HN hf ht hk;go_enter Tryz.func23,Tryz.ntmps23;go_wp2_with fail;refine(HI.o _).mono ?_;rintro x w1 ⟨rfl,rfl⟩;go_wp2;go_returns;exact⟨Zw HR.o.symm,rfl⟩
 |true=>
  rw[hit] at HI;obtain⟨f0,ft,t9⟩:=YJ.1 hit;by_cases aZ:k<1
  ·have HR:Hid (nM f t k= -1):=h_ (by rw[HN.o,Vaf (.inr aZ)]);clear hit HN hf ht hk;go_enter Tryz.func23,Tryz.ntmps23;go_wp2_with fail;refine(HI.o _).mono ?_;rintro x w1 ⟨rfl,rfl⟩;go_wp2;go_returns;exact⟨Zw HR.o.symm,rfl⟩
  ·have HR:Hid (nM f t k=if 4096<upM t k-upM f k then-1 else upM t k-upM f k):=h_ (by rw[HN.o,Vad (by simp[hit];omega)]);have cj:¬k=0:=(by omega);have ra:0<k:=(by omega);clear hit HN hk;have bt:0<=t->0<=t/k/\t/k<=t:=λh=>⟨Vci h (by omega),Int.ediv_le_self k h⟩;have bf:0<=f->0<=f/k/\f/k<=f:=λh=>⟨Vci h (by omega),Int.ediv_le_self k h⟩;by_cases gz:0<=f
   ·have iI:0<=t:=(by omega);obtain⟨b1,b2⟩:=bt iI;obtain⟨b3,b4⟩:=bf gz;have HU:Hid (upM t k=t/k+1/\upM f k=f/k+1):=h_ ⟨by unfold upM;rw[Vaf iI],by unfold upM;rw[Vaf gz]⟩;have d1:t.tdiv k=t/k:=Vb6 iI;have d2:f.tdiv k=f/k:=Vb6 gz;obtain⟨X,hX⟩:∃X,t/k=X:=⟨_,rfl⟩;obtain⟨Y,hY⟩:∃Y,f/k=Y:=⟨_,rfl⟩;have i1:IntKind.i64.wrap X=X:=(by rw[IntWalk.i64_in _ (by omega)]);have i2:IntKind.i64.wrap Y=Y:=(by rw[IntWalk.i64_in _ (by omega)]);have i3:IntKind.i64.wrap (X+1)=X+1:=(by rw[IntWalk.i64_in _ (by omega)]);have i4:IntKind.i64.wrap (Y+1)=Y+1:=(by rw[IntWalk.i64_in _ (by omega)]);have i5:IntKind.i64.wrap (X+1-(Y+1))=X+1-(Y+1):=(by rw[IntWalk.i64_in _ (by omega)]);clear bt bf;by_cases h4:4096<X+1-(Y+1)
    ·have aN:Hid (nM f t k= -1):=h_ (by rw[HR.o,HU.o.1,HU.o.2,hX,hY,Vaf h4]);clear HU HR;go_enter Tryz.func23,Tryz.ntmps23;go_wp2_with fail;refine(HI.o _).mono ?_;rintro x w1 ⟨rfl,rfl⟩;go_wp2;go_returns;exact⟨Zw aN.o.symm,rfl⟩
    ·have aN:Hid (nM f t k=X+1-(Y+1)):=h_ (by rw[HR.o,HU.o.1,HU.o.2,hX,hY,Vad h4]);clear HU HR;go_enter Tryz.func23,Tryz.ntmps23;go_wp2_with fail;refine(HI.o _).mono ?_;rintro x w1 ⟨rfl,rfl⟩;go_wp2;go_returns;exact⟨Zw aN.o.symm,rfl⟩
   ·have ES:upM f k=0:=(by unfold upM;rw[Vad gz]);by_cases iI:0<=t
    ·obtain⟨b1,b2⟩:=bt iI;have HU:Hid (upM t k=t/k+1/\upM f k=0):=h_ ⟨by unfold upM;rw[Vaf iI],ES⟩;have d1:t.tdiv k=t/k:=Vb6 iI;obtain⟨X,hX⟩:∃X,t/k=X:=⟨_,rfl⟩;have i1:IntKind.i64.wrap X=X:=(by rw[IntWalk.i64_in _ (by omega)]);have i3:IntKind.i64.wrap (X+1)=X+1:=(by rw[IntWalk.i64_in _ (by omega)]);clear bt bf ES;by_cases h4:4096<X+1
     ·have aN:Hid (nM f t k= -1):=h_ (by rw[HR.o,HU.o.1,HU.o.2,hX,Vaf (by omega)]);clear HU HR;go_enter Tryz.func23,Tryz.ntmps23;go_wp2_with fail;refine(HI.o _).mono ?_;rintro x w1 ⟨rfl,rfl⟩;go_wp2;go_returns;exact⟨Zw aN.o.symm,rfl⟩
     ·have aN:Hid (nM f t k=X+1):=h_ (by rw[HR.o,HU.o.1,HU.o.2,hX,Vad (by omega)];omega);clear HU HR;go_enter Tryz.func23,Tryz.ntmps23;go_wp2_with fail;refine(HI.o _).mono ?_;rintro x w1 ⟨rfl,rfl⟩;go_wp2;go_returns;exact⟨Zw aN.o.symm,rfl⟩
    ·have aN:Hid (nM f t k=0):=h_ (by
      have UU:upM t k=0:=(by unfold upM;rw[Vad iI]);rw[HR.o,UU,ES,Vad (by omega)];omega)
     clear bt bf ES HR;go_enter Tryz.func23,Tryz.ntmps23;go_wp2_with fail;refine(HI.o _).mono ?_;rintro x w1 ⟨rfl,rfl⟩;go_wp2;go_returns;exact⟨Zw aN.o.symm,rfl⟩
theorem ZkK:(Tryz.prog.info? 33).map (λi=>(i.zero,i.size,i.bytes))=some (some (.agg #[.int .i64 0,.string ByteArray.empty]),2,24):=by kernel_rfl
def ChR (w:World) (v:Value) (l:List (Int×ByteArray)):Prop:=∃A cap,v=.slice A l.length cap/\At w A (cv l)
theorem ChR.nil (w:World):ChR w (.slice none 0 0) []:=⟨none,0,rfl,At.nil _ _⟩
theorem Zj3 (l:List (Int×ByteArray)) (c:Int×ByteArray):cv (l++[c])=cv l++[.int .i64 c.1,.string c.2]:=by unfold cv;rw[Vce];rfl
theorem Z2d {w:World} {base e:Nat} {v:Value} {l:List (Int×ByteArray)} (h:w.ownsRow base e 2 v l.length (cv l)):ChR w v l:=by
 obtain⟨A,cap,hv,ha⟩:=Zl h;exact⟨A,cap,hv,ha⟩
theorem Zdm (e:TypeId) (w:World):(w.alloc (.cells #[] e)).ownsRow w.heap.size e 2 (.slice (some ⟨w.heap.size,0,none⟩) 0 0) 0 []:=
 World.ownsRow_made w #[] 0 UZz (by unfold maxLen;omega) rfl
theorem X8 {W:World} {B:Nat} {v:Value} {k:Nat} {l:List (Int×ByteArray)} {wb:World} (h:W.ownsRow B 33 2 v k (cv l)) (hf:Below B wb W) (hB:B<=W.heap.size) (hk:k<=1000000) (c:Int×ByteArray):
  ∃v' W',(Builtin.append_ #[24,24] 24 #[v,.slice (some ⟨W.heap.size,0,none⟩) 1 1]).run Tryz.prog (W.alloc (.cells #[.int .i64 c.1,.string c.2] 33))=.ok v' W'/\W'.ownsRow B 33 2 v' (k+1) (cv (l++[c]))/\Below B wb W':=by
 obtain⟨v',w4,ag,ae,aF,_⟩:=Z3t (P:=Tryz.prog) 24 33 _ _ 2 Tryz.underlying24 ZkK rfl (by decide) (w:=W) h hf hB [.int .i64 c.1,.string c.2] rfl (by
  intro y hy;simp at hy;rcases hy with rfl|rfl<;>rfl) (by unfold maxLen;omega) (by omega)
 rw[<-Zj3] at ae;exact⟨v',w4,ag,ae,aF⟩
theorem Zgg {f t k:Int} {b:ByteArray} {l:List (Int×ByteArray)} {i:Nat} (h:i<(smp f t k b l).length):∃x,x=fstM f k+i*k/\f<x/\x<=t/\(smp f t k b l).take (i+1)=(smp f t k b l).take i++[(x,atV b l x)]:=by
 have hm:i<(ms f t k).length:=(by unfold smp at h;rwa [Vag] at h);have aU:=ZkJ (Vak hm);have hg:=Z5z f t k i hm;refine⟨_,hg,aU.2.1,aU.2.2.1,?_⟩;rw[Vac h];simp only[smp,Vcg]
theorem Z6W {w:World} {A:Option Addr} {b:ByteArray} {l:List (Int×ByteArray)} (ha:At w A (cv l)) (n cap:Nat) (hn:n=l.length) (bo:n<=9223372036854775807) (f t k:Int) (hf:I64 f) (ht:I64 t) (hk:I64 k):
  Calls Tryz.prog 21 #[.int .i64 f,.int .i64 t,.int .i64 k,.string b,.slice A n cap] w λx w'=>∃v,x=.returned v/\ChR w' v (smp f t k b l)/\Below w.heap.size w w':=by
 have HM:=h_ (λW=>Z5A f t k hf ht hk W);have HA:=h_ (λW (hb:Below w.heap.size w W) x=>Zj2 (b:=b) (ha.below hb) n cap hn bo x);have HS:=h_ (λi h=>Zgg (f:=f) (t:=t) (k:=k) (b:=b) (l:=l) (i:=i) h);have HL:Hid ((smp f t k b l).length=(nM f t k).toNat):=h_ (Z48 f t k b l);have UV:=Zge f t k
 have UW: -1<=nM f t k:=by
  unfold nM;split
  ·omega
  ·split
   ·omega
   ·rename_i h1 h2;have hit:itv f t=true:=(by cases hb:itv f t<;>simp_all);have:=Z8b (k:=k) (by omega) (YJ.1 hit).2.1;omega
 have bU:0<nM f t k->itv f t=true/\1<=k:=λh=>by
  unfold nM at h;split at h
  ·omega
  ·rename_i h1;exact⟨by cases hb:itv f t<;>simp_all,by omega⟩
 have CK:Hid (fstM f k=upM f k*k):=h_ rfl;obtain⟨N,hN⟩:∃N,nM f t k=N:=⟨_,rfl⟩;rw[hN] at HM HL UV UW bU;have H0:=h_ (Zdm 33 w);have aL:=h_ ((Vae w.heap.size w).alloc UZz (.cells #[] 33));generalize smp f t k b l=R at*;clear hN ha hn hk
 -- where it starts
 have hF:∃F:Int,(0<N->F=upM f k/\0<=F/\F<=1099511627777)/\((0<N/\0<=f/\F=f/k+1/\f/k<=f/\0<=f/k/\0<k)\/(¬(0<N/\0<=f)/\F=0)):=by
  by_cases h0:0<N/\0<=f
  ·obtain⟨p1,p2⟩:=bU h0.1;have b1:=Vci h0.2 (show 0<=k by omega);have b2:=Int.ediv_le_self k h0.2;have b3:=(YJ.1 p1).2;have hu:upM f k=f/k+1:=(by unfold upM;rw[Vaf h0.2]);exact⟨f/k+1,λ_=>⟨hu.symm,by omega,by omega⟩,.inl ⟨h0.1,h0.2,rfl,b2,b1,by omega⟩⟩
  ·refine⟨0,λh=>⟨?_,by omega,by omega⟩,.inr ⟨h0,rfl⟩⟩;unfold upM;rw[Vad (λh2=>h0 ⟨h,h2⟩)]
 obtain⟨F,Pd,UX⟩:=hF;have K0:=h_ Pd;have CL:=h_ bU;clear Pd bU;have fin:∀(W0:World),True:=λ_=>trivial;rcases UX with ⟨n0,f0,lT,q1,q2,cj⟩|⟨rB,lT⟩
 ·have d2:f.tdiv k=f/k:=Vb6 f0;have ET:¬k=0:=(by omega);obtain⟨Y,hY⟩:∃Y,f/k=Y:=⟨_,rfl⟩;have rz:=h_ lT;rw[hY] at q1 q2 rz;have i2:IntKind.i64.wrap Y=Y:=(by rw[IntWalk.i64_in _ (by have:=ht.2;have:=hf.2;omega)])
  have i4:IntKind.i64.wrap (Y+1)=F:=by
   have:=K0.o n0;have:=rz.o;rw[IntWalk.i64_in _ (by omega)];omega
  clear hf ht lT fin;go_enter Tryz.func21,Tryz.ntmps21;go_wp2_with fail;refine(HM.o _).mono ?_;rintro x w1 ⟨rfl,rfl⟩;go_wp2;go_loopw [12,14] (λjR gm wr=>∃i:Nat,(i:Int)<=N/\gm=.int .i64 (i:Int)/\Hid (wr.ownsRow w.heap.size 33 2 jR i (cv (R.take i)))/\Hid (Below w.heap.size w wr)) (λ_ gm _=>(N-intOf gm).toNat);case atStart=>exact⟨0,by omega,rfl,H0,aL⟩
  case round=>
   clear H0 aL;obtain⟨i,hi,rfl,aa,hb⟩:=hrel;obtain⟨A5,M5,aY,rfl⟩:=Zd aa.o;by_cases ab:(i:Int)<N
   ·have CM:i<R.length:=(by rw[HL.o];omega);obtain⟨x,hx,x1,x2,ay⟩:=HS.o i CM;obtain⟨e1,e2,e3⟩:=K0.o n0;obtain⟨p1,p2⟩:=CL.o n0;have i5:IntKind.i64.wrap (F+(i:Int))=F+(i:Int):=(by rw[IntWalk.i64_in _ (by omega)]);have mR:(F+(i:Int))*k=x:=(by rw[Vcu,hx,CK.o,e1]);have i6:IntKind.i64.wrap x=x:=(by rw[IntWalk.i64_in _ (by have:=(YJ.1 p1);omega)]);have K8:=h_ (HA.o wr hb.o x);have HC:=h_ (λ(W:World) (h1:W.ownsRow w.heap.size 33 2 (.slice A5 M5 aY) i (cv (R.take i))) (h2:Below w.heap.size w W)=>X8 h1 h2 h2.size (by omega) (x,atV b l x));have fP:=h_ ay;have qO:Hid ((i:Int)+1<=N):=h_ ab;have iZ:(0:Int)<=(i:Int):=(by omega);generalize atV b l x=V at*;clear hx x1 x2 ay e1 e2 e3 p1 p2 CM;go_wp2_with fail;refine(K8.o).mono ?_;rintro y w2 ⟨rfl,rfl⟩;obtain⟨v',W',ag,ae,aF⟩:=HC.o wr aa.o hb.o;rw[<-fP.o] at ae;have aq:=h_ ag;have aw:=h_ ae;have cE:=h_ aF;clear ag ae aF HC aa hb
    go_wp2_with (
     at_builtin;refine Z3 (by with_reducible rfl) rfl _ _ _ rfl _ _ (by rfl) (by rfl) aq.o ?_)
    refine⟨⟨i+1,qO.o,by go_num,aw,cE⟩,?_⟩;have:=qO.o;simp[intOf]<;>omega
   ·have lp:(i:Int)=N:=by omega
    have aN:Hid (ChR wr (.slice A5 M5 aY) R):=h_ (by
     have h:=aa.o;have hl:R.length=i:=(by rw[HL.o];omega);rw[Vah (by omega)] at h;exact Z2d (by rw[hl];exact h))
    clear aa;go_wp2;go_returns;exact⟨_,rfl,aN.o,hb.o⟩
 ·subst lT;clear hf ht fin;by_cases n0:0<N
  ·have f0:¬0<=f:=λh=>rB ⟨n0,h⟩;go_enter Tryz.func21,Tryz.ntmps21;go_wp2_with fail;refine(HM.o _).mono ?_;rintro x w1 ⟨rfl,rfl⟩;go_wp2;go_loopw [12,14] (λjR gm wr=>∃i:Nat,(i:Int)<=N/\gm=.int .i64 (i:Int)/\Hid (wr.ownsRow w.heap.size 33 2 jR i (cv (R.take i)))/\Hid (Below w.heap.size w wr)) (λ_ gm _=>(N-intOf gm).toNat);case atStart=>exact⟨0,by omega,rfl,H0,aL⟩
   case round=>
    clear H0 aL;obtain⟨i,hi,rfl,aa,hb⟩:=hrel;obtain⟨A5,M5,aY,rfl⟩:=Zd aa.o;by_cases ab:(i:Int)<N
    ·have CM:i<R.length:=(by rw[HL.o];omega);obtain⟨x,hx,x1,x2,ay⟩:=HS.o i CM;obtain⟨e1,e2,e3⟩:=K0.o n0;obtain⟨p1,p2⟩:=CL.o n0;have i5:IntKind.i64.wrap (i:Int)=(i:Int):=(by rw[IntWalk.i64_in _ (by omega)]);have mR:(i:Int)*k=x:=(by rw[hx,CK.o,<-e1];omega);have i6:IntKind.i64.wrap x=x:=(by rw[IntWalk.i64_in _ (by have:=(YJ.1 p1);omega)]);have K8:=h_ (HA.o wr hb.o x);have HC:=h_ (λ(W:World) (h1:W.ownsRow w.heap.size 33 2 (.slice A5 M5 aY) i (cv (R.take i))) (h2:Below w.heap.size w W)=>X8 h1 h2 h2.size (by omega) (x,atV b l x));have fP:=h_ ay;have qO:Hid ((i:Int)+1<=N):=h_ ab;have iZ:(0:Int)<=(i:Int):=(by omega);generalize atV b l x=V at*;clear hx x1 x2 ay e1 e2 e3 p1 p2 CM;go_wp2_with fail;refine(K8.o).mono ?_;rintro y w2 ⟨rfl,rfl⟩;obtain⟨v',W',ag,ae,aF⟩:=HC.o wr aa.o hb.o;rw[<-fP.o] at ae;have aq:=h_ ag;have aw:=h_ ae;have cE:=h_ aF;clear ag ae aF HC aa hb
     go_wp2_with (
      at_builtin;refine Z3 (by with_reducible rfl) rfl _ _ _ rfl _ _ (by rfl) (by rfl) aq.o ?_)
     refine⟨⟨i+1,qO.o,by go_num,aw,cE⟩,?_⟩;have:=qO.o;simp[intOf]<;>omega
    ·have lp:(i:Int)=N:=by omega
     have aN:Hid (ChR wr (.slice A5 M5 aY) R):=h_ (by
      have h:=aa.o;have hl:R.length=i:=(by rw[HL.o];omega);rw[Vah (by omega)] at h;exact Z2d (by rw[hl];exact h))
     clear aa;go_wp2;go_returns;exact⟨_,rfl,aN.o,hb.o⟩
  ·go_enter Tryz.func21,Tryz.ntmps21;go_wp2_with fail;refine(HM.o _).mono ?_;rintro x w1 ⟨rfl,rfl⟩;have yy:Hid (R=[]):=h_ (Vaj (by rw[HL.o];omega));go_wp2;go_loopw [12,14] (λjR gm wr=>jR=.slice (some ⟨w.heap.size,0,none⟩) 0 0/\gm=.int .i64 0/\wr=w.alloc (.cells #[] 33)) (λ_ _ _=>0);case atStart=>exact⟨rfl,rfl,rfl⟩
   case round=>
    obtain⟨rfl,rfl,rfl⟩:=hrel
    have aN:Hid (ChR (w.alloc (.cells #[] 33)) (.slice (some ⟨w.heap.size,0,none⟩) 0 0) R):=h_ (by
     rw[yy.o];exact Z2d H0.o)
    go_wp2;go_returns;exact⟨_,rfl,aN.o,aL.o⟩
theorem Zj4:(Tryz.prog.info? 3).map (λi=>(i.zero,i.size,i.bytes))=some (some (.int .i64 0),1,8):=by kernel_rfl
def IvR (w:World) (v:Value) (l:List Int):Prop:=∃A cap,v=.slice A l.length cap/\At w A (l.map iv)
theorem IvR.nil (w:World):IvR w (.slice none 0 0) []:=⟨none,0,rfl,At.nil _ _⟩
theorem Zdn {w:World} {base e:Nat} {v:Value} {l:List Int} (h:w.ownsRow base e 1 v l.length (l.map iv)):IvR w v l:=by
 obtain⟨A,cap,hv,ha⟩:=Zl h;exact⟨A,cap,hv,ha⟩
theorem Z4a {W:World} {B:Nat} {v:Value} {k:Nat} {l:List Int} {wb:World} (h:W.ownsRow B 3 1 v k (l.map iv)) (hf:Below B wb W) (hB:B<=W.heap.size) (hk:k<=1000000) (x:Int):
  ∃v' W',(Builtin.append_ #[31,31] 31 #[v,.slice (some ⟨W.heap.size,0,none⟩) 1 1]).run Tryz.prog (W.alloc (.cells #[.int .i64 x] 3))=.ok v' W'/\W'.ownsRow B 3 1 v' (k+1) ((l++[x]).map iv)/\Below B wb W':=by
 obtain⟨v',w4,ag,ae,aF,_⟩:=Yq (P:=Tryz.prog) 31 3 _ _ Tryz.underlying31 Zj4 rfl (w:=W) h hf hB (.int .i64 x) rfl (by unfold maxLen;omega) (by omega);refine⟨v',w4,ag,?_,aF⟩;rw[Vbk];exact ae
theorem Zj5 {f t k:Int} {i:Nat} (h:i<(ms f t k).length):∃x,x=fstM f k+i*k/\f<x/\x<=t/\(ms f t k).take (i+1)=(ms f t k).take i++[x]:=by
 have aU:=ZkJ (Vak h);have hg:=Z5z f t k i h;exact⟨_,hg,aU.2.1,aU.2.2.1,Vac h⟩
theorem Z5B (f t k:Int) (hit:itv f t=true) (aZ:1<=k) (hk:I64 k) (w:World):
  Calls Tryz.prog 39 #[.int .i64 f,.int .i64 t,.int .i64 k] w λx w'=>∃v,x=.returned (.tuple #[v,.bool (decide (0<=nM f t k))])/\IvR w' v (ms f t k)/\Below w.heap.size w w':=by
 obtain⟨i1,i2,i3⟩:=YJ.1 hit;have jM:=Zdi aZ i1;have jx:=Zdj aZ hit
 have hN:nM f t k=if 4096<upM t k-upM f k then-1 else upM t k-upM f k:=by
  unfold nM;rw[Vad (by simp[hit];omega)]
 have eR:=Z5y f t k;have HS:=h_ (λi h=>Zj5 (f:=f) (t:=t) (k:=k) (i:=i) h);have rV:=hk.2;have d1:(f+1).tmod k=(f+1) % k:=Vcf (by omega);have r1:=Vdc (f+1) (show k≠0 by omega);have r2:=Vcv (f+1) (show 0<k by omega);have j1:IntKind.i64.wrap (f+1)=f+1:=(by rw[IntWalk.i64_in _ (by omega)]);obtain⟨r,hr⟩:∃r,(f+1) % k=r:=⟨_,rfl⟩;obtain⟨F,hF⟩:∃F,fstM f k=F:=⟨_,rfl⟩;rw[hr] at d1 r1 r2 jM;rw[hF] at jM jx HS;generalize upM t k-upM f k=M at*;generalize nM f t k=N at*;generalize ms f t k=R at*;have ET:¬k=0:=(by omega);have ra:0<k:=(by omega);have j2:IntKind.i64.wrap r=r:=(by rw[IntWalk.i64_in _ (by omega)]);have j3:IntKind.i64.wrap (k-r)=k-r:=(by rw[IntWalk.i64_in _ (by omega)]);have j4:IntKind.i64.wrap (t-(f+1))=t-(f+1):=(by rw[IntWalk.i64_in _ (by omega)]);clear hF hk hit;by_cases yF:t<F
 ·have hM:M=0:=by rcases jx with ⟨_,h⟩|⟨h,_⟩;exact h;omega
  have fZ:N=0:=(by rw[hN,hM];rfl);have HR:Hid (R=[]):=h_ (Vaj (by rw[eR,fZ];rfl));have HD:Hid (decide (0<=N)=true):=h_ (by rw[fZ];decide);rcases jM with ⟨h0,lT⟩|⟨h0,lT⟩
  ·subst h0;have tc:t<f+1:=(by omega);clear hr hN jx hM fZ eR HS lT yF;go_enter Tryz.func39,Tryz.ntmps39;go_wp2;go_returns;exact⟨_,by rw[HD.o];rfl,by rw[HR.o];exact IvR.nil _,Vae _ _⟩
  ·have tc:t-(f+1)<k-r:=(by omega);clear hr hN jx hM fZ eR HS lT yF;go_enter Tryz.func39,Tryz.ntmps39;go_wp2;go_returns;exact⟨_,by rw[HD.o];rfl,by rw[HR.o];exact IvR.nil _,Vae _ _⟩
 ·rcases jM with ⟨h0,lT⟩|⟨h0,lT⟩
  ·subst h0;subst lT;have K9:(f+1)<=t:=(by omega);obtain⟨q,hq⟩:∃q,(t-(f+1))/k=q:=⟨_,rfl⟩;have xo:M=q+1:=by rcases jx with ⟨h,_⟩|⟨_,h⟩;omega;rw[<-h,hq]
   have q0:0<=q:=(by rw[<-hq];exact Vci (by omega) (by omega));have q1:q<=t-(f+1):=(by rw[<-hq];exact Int.ediv_le_self k (by omega));have d2:(t-(f+1)).tdiv k=q:=(by rw[Vb6 (by omega)];exact hq);have j6:IntKind.i64.wrap (t-(f+1))=t-(f+1):=(by rw[IntWalk.i64_in _ (by omega)]);have j7:IntKind.i64.wrap q=q:=(by rw[IntWalk.i64_in _ (by omega)]);have j8:IntKind.i64.wrap (q+1)=q+1:=(by rw[IntWalk.i64_in _ (by omega)]);have tc:¬t<(f+1):=(by omega);by_cases h4:4096<=q
   ·have fZ:N= -1:=(by rw[hN,Vaf (by omega)]);have HR:Hid (R=[]):=h_ (Vaj (by rw[eR,fZ];rfl));have HD:Hid (decide (0<=N)=false):=h_ (by rw[fZ];decide);clear hr hN jx xo fZ eR HS yF hq;go_enter Tryz.func39,Tryz.ntmps39;go_wp2;go_returns;exact⟨_,by rw[HD.o];rfl,by rw[HR.o];exact IvR.nil _,Vae _ _⟩
   ·have fZ:N=q+1:=(by rw[hN,Vad (by omega)];exact xo);have HL:Hid ((R.length:Int)=q+1):=h_ (by rw[eR,fZ];omega);have HD:Hid (decide (0<=N)=true):=h_ (by rw[fZ];exact Vao (by omega));have aB:=h_ (Vae w.heap.size w);have kl:Hid (w.ownsRow w.heap.size 3 1 (.slice none 0 0) 0 ((R.take 0).map iv)):=h_ (by rw[Vbw];exact Zk);clear hr hN jx xo fZ eR yF hq;go_enter Tryz.func39,Tryz.ntmps39;go_wp2;go_loopw [10,46] (λlh qz wr=>∃i:Nat,(i:Int)<=q+1/\qz=.int .i64 (i:Int)/\Hid (wr.ownsRow w.heap.size 3 1 lh i ((R.take i).map iv))/\Hid (Below w.heap.size w wr)) (λ_ qz _=>(q+1-intOf qz).toNat);case atStart=>exact⟨0,by omega,rfl,kl,aB⟩
    case round=>
     clear kl aB;obtain⟨i,hi,rfl,aa,hb⟩:=hrel;obtain⟨A5,M5,aY,rfl⟩:=Zd aa.o;by_cases ab:(i:Int)<q+1
     ·obtain⟨x,hx,x1,x2,ay⟩:=HS.o i (by have:=HL.o;omega);obtain⟨P,hP⟩:∃P,(i:Int)*k=P:=⟨_,rfl⟩;rw[hP] at hx;have ny:0<=P:=(by rw[<-hP];exact Int.mul_nonneg (by omega) (by omega));have j9:IntKind.i64.wrap P=P:=(by rw[IntWalk.i64_in _ (by omega)]);have UY:(f+1)+P=x:=hx.symm;have UZ:IntKind.i64.wrap x=x:=(by rw[IntWalk.i64_in _ (by omega)]);obtain⟨v',W',ag,ae,aF⟩:=Z4a aa.o hb.o hb.o.size (by omega) x;rw[<-ay] at ae;have aq:=h_ ag;have aw:=h_ ae;have cE:=h_ aF;have qO:Hid ((i:Int)+1<=q+1):=h_ ab;clear hx x1 x2 ay ag ae aF aa hb ny
      go_wp2_with (
       at_builtin;refine Z3 (by with_reducible rfl) rfl _ _ _ rfl _ _ (by rfl) (by rfl) aq.o ?_)
      refine⟨⟨i+1,qO.o,by go_num,aw,cE⟩,?_⟩;have:=qO.o;simp[intOf]<;>omega
     ·have aN:Hid (IvR wr (.slice A5 M5 aY) R):=h_ (by
       have h:=aa.o;have hl:R.length=i:=(by have:=HL.o;omega);rw[Vah (by omega)] at h;exact Zdn (by rw[hl];exact h))
      clear aa;go_wp2;go_returns;exact⟨_,by rw[HD.o];rfl,aN.o,hb.o⟩
  ·have j5:IntKind.i64.wrap (f+1+(k-r))=F:=(by rw[IntWalk.i64_in _ (by omega)];omega);have V0:¬t-(f+1)<k-r:=(by omega);have WV:f+1<=F:=(by omega);have K9:F<=t:=(by omega);obtain⟨q,hq⟩:∃q,(t-F)/k=q:=⟨_,rfl⟩;have xo:M=q+1:=by rcases jx with ⟨h,_⟩|⟨_,h⟩;omega;rw[<-h,hq]
   have q0:0<=q:=(by rw[<-hq];exact Vci (by omega) (by omega));have q1:q<=t-F:=(by rw[<-hq];exact Int.ediv_le_self k (by omega));have d2:(t-F).tdiv k=q:=(by rw[Vb6 (by omega)];exact hq);have j6:IntKind.i64.wrap (t-F)=t-F:=(by rw[IntWalk.i64_in _ (by omega)]);have j7:IntKind.i64.wrap q=q:=(by rw[IntWalk.i64_in _ (by omega)]);have j8:IntKind.i64.wrap (q+1)=q+1:=(by rw[IntWalk.i64_in _ (by omega)]);have tc:¬t<F:=(by omega);by_cases h4:4096<=q
   ·have fZ:N= -1:=(by rw[hN,Vaf (by omega)]);have HR:Hid (R=[]):=h_ (Vaj (by rw[eR,fZ];rfl));have HD:Hid (decide (0<=N)=false):=h_ (by rw[fZ];decide);clear hr hN jx xo fZ eR HS yF hq lT;go_enter Tryz.func39,Tryz.ntmps39;go_wp2;go_returns;exact⟨_,by rw[HD.o];rfl,by rw[HR.o];exact IvR.nil _,Vae _ _⟩
   ·have fZ:N=q+1:=(by rw[hN,Vad (by omega)];exact xo);have HL:Hid ((R.length:Int)=q+1):=h_ (by rw[eR,fZ];omega);have HD:Hid (decide (0<=N)=true):=h_ (by rw[fZ];exact Vao (by omega));have aB:=h_ (Vae w.heap.size w);have kl:Hid (w.ownsRow w.heap.size 3 1 (.slice none 0 0) 0 ((R.take 0).map iv)):=h_ (by rw[Vbw];exact Zk);clear hr hN jx xo fZ eR yF hq lT;go_enter Tryz.func39,Tryz.ntmps39;go_wp2;go_loopw [10,46] (λlh qz wr=>∃i:Nat,(i:Int)<=q+1/\qz=.int .i64 (i:Int)/\Hid (wr.ownsRow w.heap.size 3 1 lh i ((R.take i).map iv))/\Hid (Below w.heap.size w wr)) (λ_ qz _=>(q+1-intOf qz).toNat);case atStart=>exact⟨0,by omega,rfl,kl,aB⟩
    case round=>
     clear kl aB;obtain⟨i,hi,rfl,aa,hb⟩:=hrel;obtain⟨A5,M5,aY,rfl⟩:=Zd aa.o;by_cases ab:(i:Int)<q+1
     ·obtain⟨x,hx,x1,x2,ay⟩:=HS.o i (by have:=HL.o;omega);obtain⟨P,hP⟩:∃P,(i:Int)*k=P:=⟨_,rfl⟩;rw[hP] at hx;have ny:0<=P:=(by rw[<-hP];exact Int.mul_nonneg (by omega) (by omega));have j9:IntKind.i64.wrap P=P:=(by rw[IntWalk.i64_in _ (by omega)]);have UY:F+P=x:=hx.symm;have UZ:IntKind.i64.wrap x=x:=(by rw[IntWalk.i64_in _ (by omega)]);obtain⟨v',W',ag,ae,aF⟩:=Z4a aa.o hb.o hb.o.size (by omega) x;rw[<-ay] at ae;have aq:=h_ ag;have aw:=h_ ae;have cE:=h_ aF;have qO:Hid ((i:Int)+1<=q+1):=h_ ab;clear hx x1 x2 ay ag ae aF aa hb ny
      go_wp2_with (
       at_builtin;refine Z3 (by with_reducible rfl) rfl _ _ _ rfl _ _ (by rfl) (by rfl) aq.o ?_)
      refine⟨⟨i+1,qO.o,by go_num,aw,cE⟩,?_⟩;have:=qO.o;simp[intOf]<;>omega
     ·have aN:Hid (IvR wr (.slice A5 M5 aY) R):=h_ (by
       have h:=aa.o;have hl:R.length=i:=(by have:=HL.o;omega);rw[Vah (by omega)] at h;exact Zdn (by rw[hl];exact h))
      clear aa;go_wp2;go_returns;exact⟨_,by rw[HD.o];rfl,aN.o,hb.o⟩
end Go.Proofs.YtchokmkfobandaaGreatDoor
namespace Wv.Sg
open Wv.Vi Wv.Ru Wv.Bc Wv.Fm Wv.Lz Wv.Sn Wv.Tm Wv.Dc
open Go.Proofs.YtchokmkfobandaaGreatDoor
abbrev Chg:=Int×ByteArray
def rise (s:Int×Int) (t:Int):Int->ByteArray->List Chg->Bool
 |_,_,[]=>true
 |a,b,c::l=>decide (a<c.1)&&decide (c.1<=t)&&vaB Z9 s (toL c.2)&&(decide (s.1=3)|| !decide (c.2=b))&&rise s t c.1 c.2 l
theorem Qi {s:Int×Int} {t a:Int} {b:ByteArray} {c:Chg} {l:List Chg} :rise s t a b (c::l)=true↔a<c.1/\c.1<=t/\vaB Z9 s (toL c.2)=true/\(s.1=3\/c.2≠b)/\rise s t c.1 c.2 l=true:=by
 show(decide _&&decide _&&_&&_&&_)=true↔_;simp only[Va1,Vas,Bool.or_eq_true,Bool.not_eq_true',Vbp,and_assoc]
def sgV (s:Int×Int) (f t:Int) (b:ByteArray) (l:List Chg):Bool:=tyB s&&itv f t&&vaB Z9 s (toL b)&&decide (l.length<=4096)&&rise s t f b l
theorem Qj {s:Int×Int} {f t:Int} {b:ByteArray} {l:List Chg} :sgV s f t b l=true↔tyB s=true/\itv f t=true/\vaB Z9 s (toL b)=true/\l.length<=4096/\rise s t f b l=true:=by
 unfold sgV;simp only[Va1,Vas,and_assoc]
theorem Zj6 {s:Int×Int} {f t:Int} {b:ByteArray} {l:List Chg} (h:sgV s f t b l=true):sgV s f t b []=true:=by
 obtain⟨h1,h2,h3,_,_⟩:=Qj.1 h;exact Qj.2 ⟨h1,h2,h3,Vat _,rfl⟩
def tms (f:Int) (l:List Chg):List Int:=l.map (λc=>c.1-(f+1))
theorem Zdo {s:Int×Int} {t f:Int} (ht:t-(f+1)<=1099511627776):∀ {l:List Chg} {a:Int} {b:ByteArray},rise s t a b l=true->tv (a-(f+1)) (tms f l)=true
 |[],_,_,_=>rfl
 |c::l,a,b,h=>by
  obtain⟨h1,h2,_,_,h5⟩:=Qi.1 h;exact Q9.2 ⟨by show a-(f+1)<c.1-(f+1);omega,by show c.1-(f+1)<=_;omega,Zdo ht h5⟩
theorem Z0p {s:Int×Int} {t:Int} :∀ {l:List Chg} {a:Int} {b:ByteArray},rise s t a b l=true->∀c∈l,vaB Z9 s (toL c.2)=true
 |[],_,_,_,c,hc=>by cases hc
 |d::l,a,b,h,c,hc=>by
  obtain⟨_,_,h3,_,h5⟩:=Qi.1 h;rcases Vba.1 hc with rfl|hc
  ·exact h3
  ·exact Z0p h5 c hc
theorem Z2e {s:Int×Int} {f t:Int} {b:ByteArray} {l:List Chg} (h:sgV s f t b l=true):Zf (tms f l)=true:=by
 obtain⟨_,h2,_,h4,h5⟩:=Qj.1 h;obtain⟨i1,i2,i3⟩:=YJ.1 h2;unfold Zf;rw[Va1,Vas];refine⟨?_,by unfold tms;rw[Vag];exact h4⟩;have:=Zdo (f:=f) (by omega) h5
 rwa [show f-(f+1)= -1 by omega] at this
def zipC (f:Int) (ts:List Int) (vs:List ByteArray):List Chg:=List.zipWith (λx v=>(x+f+1,v)) ts vs
theorem Z5C (f:Int):∀l:List Chg,zipC f (tms f l) (l.map (·.2))=l
 |[]=>rfl
 |c::l=>by
  show(c.1-(f+1)+f+1,c.2)::zipC f (tms f l) (l.map (·.2))=c::l;rw[Z5C f l];congr 1;exact Prod.ext (by show c.1-(f+1)+f+1=c.1;omega) rfl
theorem XU (f:Int) (ts:List Int) (vs:List ByteArray) (h:ts.length=vs.length):(zipC f ts vs).length=ts.length:=by
 unfold zipC;rw[Vb9];omega
/-! ## Values -/
def fkd (s:Int×Int):Nat:=if s.1=0 then 2 else 3
def vlsE (s:Int×Int) (vs:List ByteArray):List UInt8×Nat:=if s.1=0 then ZW s.2 vs else enc vs
def vlsD (s:Int×Int) (d:List UInt8) (most:Int):List ByteArray×Nat:=if s.1=0 then decB s.2 d most else dec d most
theorem Zdp {s:Int×Int} (h0:s.1=0) {v:List UInt8} (h:vaB Z9 s v=true):Bc.vld s.2 v=true:=by
 unfold vaB at h;rw[Va1] at h;have h2:=h.2;unfold kvB at h2
 rwa [Vaf h0] at h2
theorem Z5D {s:Int×Int} (hs:tyB s=true) (h3:s.1≠3) {vs:List ByteArray} (hv:∀v∈vs,vaB Z9 s (toL v)=true) (hl:vs.length<=4096):(vlsE s vs).2=0/\∀most:Int,(vs.length:Int)<=most->vlsD s (vlsE s vs).1 most=(vs,0):=by
 unfold vlsE vlsD;by_cases h0:s.1=0
 ·obtain⟨w1,w2⟩:=Z7H hs h0;have hb:Zz s.2 vs=true:=ZA.2 ⟨λv h=>Zdp h0 (hv v h),w1,w2,hl⟩;obtain⟨c,x,_,_,he⟩:=Z0H hb;rw[Vaf h0];refine⟨by rw[he],λmost hm=> ?_⟩;rw[Vaf h0,ZfD hb,Vad (by omega)]
 ·rw[Vad h0]
  have hz:∀v∈vs,v.size<=128:=λv h=>by
   have:=(ZbR (hv v h)).2;rw[Z1] at this;exact this
  refine⟨by rw[Zcb hl hz],λmost hm=> ?_⟩;rw[Vad h0,Z6o hl hz,Vad (by omega)]
/-! ## Frames -/
def ZK:List (Nat×List UInt8)->Option (List UInt8)
 |[]=>some []
 |p::r=>match ZB p.1 p.2 with
  |none=>none
  |some w=>(ZK r).map (w++·)
def Z6X:Nat->List UInt8->Option (List (Nat×List UInt8))
 |_,[]=>some []
 |0,_::_=>none
 |n+1,a::r=>match YD (a::r) with
  |none=>none
  |some (k,c,z)=>(Z6X n ((a::r).drop z)).map ((k,c)::·)
def unws (d:List UInt8):Option (List (Nat×List UInt8)):=Z6X d.length d
theorem QA {d c:List UInt8} {k n:Nat} (h:YD d=some (k,c,n)):1<=n/\n<=d.length:=by
 obtain⟨h1,_,h3⟩:=Z4T h;refine⟨?_,h3⟩;rcases Vbm n with h0|h0
 ·subst h0;rw[Vbw] at h1;exact absurd rfl (Z7I h1)
 ·exact h0
theorem Z36:∀(n m:Nat) (d:List UInt8),d.length<=n->d.length<=m->Z6X n d=Z6X m d
 |0,0,_,_,_=>rfl
 |0,m+1,d,h,_=>by
  have:d=[]:=Vaj (by omega);subst this;rfl
 |n+1,0,d,_,h=>by
  have:d=[]:=Vaj (by omega);subst this;rfl
 |n+1,m+1,[],_,_=>rfl
 |n+1,m+1,a::r,h1,h2=>by
  unfold Z6X;cases hf:YD (a::r) with
  |none=>rfl
  |some q=>
   obtain⟨k,c,z⟩:=q;obtain⟨p1,p2⟩:=QA hf;simp only;rw[Z36 n m ((a::r).drop z) (by rw[Va2];omega) (by rw[Va2];omega)]
theorem Z8d:unws []=some []:=rfl
theorem Zdq {d:List UInt8} (h:d≠[]) (h2:YD d=none):unws d=none:=by
 cases d with
 |nil=>exact absurd rfl h
 |cons a r=>
  unfold unws;rw[Vaz];unfold Z6X;rw[h2]
theorem Z2f {d c:List UInt8} {k n:Nat} (h:YD d=some (k,c,n)):unws d=(unws (d.drop n)).map ((k,c)::·):=by
 obtain⟨p1,p2⟩:=QA h;cases d with
 |nil=>simp at p2;omega
 |cons a r=>
  unfold unws;rw[Vaz];conv=>lhs;unfold Z6X
  rw[h];simp only;rw[Z36 r.length ((a::r).drop n).length ((a::r).drop n) (by rw[Va2,Vaz];omega) UZz]
theorem Z0R:∀ {l:List (Nat×List UInt8)} {d:List UInt8},(∀p∈l,p.1<16)->ZK l=some d->unws d=some l
 |[],d,_,h=>by
  injection h with h;subst h;rfl
 |p::r,d,hk,h=>by
  unfold ZK at h;cases hw:ZB p.1 p.2 with
  |none=>rw[hw] at h;cases h
  |some w=>
   rw[hw] at h;simp only at h;cases hr:ZK r with
   |none=>rw[hr] at h;cases h
   |some x=>
    rw[hr] at h;injection h with h;subst h;have hf:=Z6c (hk p Vap) hw x;rw[Z2f hf,Vcn,Z0R (λq hq=>hk q (Var _ hq)) hr];rfl
theorem Z37:∀(n:Nat) {d:List UInt8} {l:List (Nat×List UInt8)},d.length<=n->unws d=some l->ZK l=some d
 |n,[],l,_,h=>by
  rw[Z8d] at h;injection h with h;subst h;rfl
 |0,a::r,l,hn,_=>by simp at hn
 |n+1,a::r,l,hn,h=>by
  cases hf:YD (a::r) with
  |none=>rw[Zdq (by simp) hf] at h;cases h
  |some q=>
   obtain⟨k,c,z⟩:=q;obtain⟨p1,p2⟩:=QA hf;rw[Z2f hf] at h;cases hu:unws ((a::r).drop z) with
   |none=>rw[hu] at h;cases h
   |some m=>
    rw[hu] at h;injection h with h;subst h;have hw:=Z37 n (d:=(a::r).drop z) (by rw[Va2];simp at hn p2⊢;omega) hu;obtain⟨h1,_,_⟩:=Z4T hf;unfold ZK;simp only;rw[h1,hw];simp
def strm (l:List (Nat×List UInt8)):List UInt8×Nat:=match ZK l with
 |none=>([],9)
 |some d=>if 4096<d.length then([],9) else(d,0)
theorem Z6Y {l:List (Nat×List UInt8)} {d:List UInt8} (h:strm l=(d,0)):ZK l=some d/\d.length<=4096:=by
 unfold strm at h;cases hw:ZK l with
 |none=>rw[hw] at h;cases h
 |some x=>
  rw[hw] at h;simp only at h;split at h
  ·cases h
  ·injection h with h _;subst h;exact⟨rfl,by omega⟩
theorem Z8e {p:Nat×List UInt8} {r:List (Nat×List UInt8)} {d:List UInt8} (h:ZK (p::r)=some d):d≠[]:=by
 unfold ZK at h;cases hw:ZB p.1 p.2 with
 |none=>rw[hw] at h;cases h
 |some w=>
  rw[hw] at h;simp only at h;cases hr:ZK r with
  |none=>rw[hr] at h;cases h
  |some x=>
   rw[hr] at h;injection h with h;rw[<-h];have:=Z7I hw;intro h;exact this (List.append_eq_nil_iff.1 h).1
/-! ## Streams of changes -/
def frms (s:Int×Int) (f:Int) (l:List Chg):List (Nat×List UInt8):=(1,(encT (tms f l)).1)::if s.1=3 then[] else[(fkd s,(vlsE s (l.map (·.2))).1)]
def sgE (s:Int×Int) (f t:Int) (b:ByteArray) (l:List Chg):List UInt8×Nat:=if sgV s f t b l=false then([],1) else if l=[] then([],0) else strm (frms s f l)
def Yk (s:Int×Int) (n:Nat) (r:List (Nat×List UInt8)):Option (List ByteArray):=if s.1=3 then(if r=[] then some (List.replicate n ⟨#[]⟩) else none) else match r with
 |[p]=>if p.1=fkd s/\(vlsD s p.2 n).2=0/\(vlsD s p.2 n).1.length=n then some (vlsD s p.2 n).1 else none
 |_=>none
def rdCh (s:Int×Int) (f:Int) (d:List UInt8):Option (List Chg):=match unws d with
 |some (p::r)=>if p.1=1/\(decT p.2 4096).2=0/\(decT p.2 4096).1≠[] then(Yk s (decT p.2 4096).1.length r).map (zipC f (decT p.2 4096).1) else none
 |_=>none
def sgD (s:Int×Int) (f t:Int) (b:ByteArray) (d:List UInt8):List Chg×Nat:=if sgV s f t b []=false then([],1) else if d=[] then([],0) else if 4096<d.length then([],12) else match rdCh s f d with
 |none=>([],12)
 |some l=>if sgV s f t b l=true then(l,0) else([],12)
theorem Zj7 {s:Int×Int} {f t:Int} {b:ByteArray} {l:List Chg} {d:List UInt8} (h:sgE s f t b l=(d,0)):sgV s f t b l=true/\((l=[]/\d=[])\/(l≠[]/\ZK (frms s f l)=some d/\d.length<=4096)):=by
 unfold sgE at h;split at h
 ·cases h
 ·rename_i h1;refine⟨by simpa using h1,?_⟩;split at h
  ·rename_i h2;injection h with h _;exact .inl ⟨h2,h.symm⟩
  ·rename_i h2;exact .inr ⟨h2,Z6Y h⟩
theorem Zgh {s:Int×Int} (h3:s.1=3) {v:ByteArray} (h:vaB Z9 s (toL v)=true):v=⟨#[]⟩:=by
 unfold vaB at h;rw[Va1] at h;have h2:=h.2;unfold kvB at h2;rw[Vad (by omega),Vad (by omega),Vad (by omega),Vas] at h2;have:=Zc v;rw[h2] at this;exact this.symm
theorem Zll {s:Int×Int} {f t:Int} {b:ByteArray} {l:List Chg} {d:List UInt8} (h:sgE s f t b l=(d,0)):sgD s f t b d=(l,0):=by
 obtain⟨hv,hc⟩:=Zj7 h;unfold sgD;rw[Vad (by rw[Zj6 hv];decide)];rcases hc with ⟨h1,h2⟩|⟨h1,h2,h3⟩
 ·rw[Vaf h2,h1]
 ·rw[Vad (Z8e h2),Vad (by omega)];obtain⟨v1,v2,v3,v4,v5⟩:=Qj.1 hv;have hT:=Z2e hv;obtain⟨c,_,_,hE⟩:=Xy hT;have fK:(tms f l).length=l.length:=(by unfold tms;rw[Vag]);have hD:decT (encT (tms f l)).1 4096=(tms f l,0):=(by rw[Zfx hT,Vad (by omega)])
  have hk:∀p∈frms s f l,p.1<16:=by
   intro p hp;unfold frms at hp;rcases Vba.1 hp with rfl|hp
   ·show(1:Nat)<16;decide
   ·split at hp
    ·cases hp
    ·rw[Vax.1 hp];show fkd s<16;unfold fkd;split<;>decide
  have hu:=Z0R hk h2;have az:tms f l≠[]:=λe=>h1 (Vaj (by rw[<-fK,e];rfl))
  have hr:Yk s (tms f l).length (if s.1=3 then[] else[(fkd s,(vlsE s (l.map (·.2))).1)])=some (l.map (·.2)):=by
   unfold Yk;by_cases h3:s.1=3
   ·rw[Vaf h3,Vaf h3,Vaf rfl];congr 1;refine(List.eq_replicate_iff.2 ⟨by rw[Vag,fK],λv kT=> ?_⟩).symm;obtain⟨c,hc,rfl⟩:=Va6.1 kT;exact Zgh h3 (Z0p v5 c hc)
   ·rw[Vad h3,Vad h3]
    obtain⟨_,e2⟩:=Z5D v1 h3 (vs:=l.map (·.2)) (λv kT=>by
     obtain⟨c,hc,rfl⟩:=Va6.1 kT;exact Z0p v5 c hc) (by rw[Vag];exact v4)
    have e3:=e2 ((tms f l).length:Int) (by rw[Vag,fK];exact Int.le_refl _);simp only;rw[e3,Vaf ⟨by first|rfl|trivial,by first|rfl|trivial,by rw[Vag,fK]⟩]
  have hR:rdCh s f d=some l:=by
   unfold rdCh;rw[hu];unfold frms;simp only;rw[hD,Vaf ⟨by first|rfl|trivial,by first|rfl|trivial,az⟩,hr];simp only[Vch];rw[Z5C]
  rw[hR];simp only;rw[Vaf hv]
def Y2 (s:Int×Int) (f t k:Int):Nat:=if tyB s=false\/nM f t k<0 then 1 else if s.1=3 then 7 else 0
def ssV (s:Int×Int) (f t k:Int) (l:List Chg):Bool:=decide (l.map (·.1)=ms f t k)&&l.all (λc=>vaB Z9 s (toL c.2))
def ssE (s:Int×Int) (f t k:Int) (l:List Chg):List UInt8×Nat:=if Y2 s f t k≠0 then([],Y2 s f t k) else if ssV s f t k l=false then([],1) else if l=[] then([],0) else strm [(fkd s,(vlsE s (l.map (·.2))).1)]
def ssD (s:Int×Int) (f t k:Int) (d:List UInt8):List Chg×Nat:=if Y2 s f t k≠0 then([],Y2 s f t k) else if ms f t k=[] then(if d=[] then([],0) else([],12)) else if 4096<d.length then([],12) else match unws d with
 |none=>([],12)
 |some fr=>match Yk s (ms f t k).length fr with
  |none=>([],12)
  |some vs=>if vs.all (λv=>vaB Z9 s (toL v))=true then((ms f t k).zip vs,0) else([],12)
theorem Z2g {s:Int×Int} {f t k:Int} (h:Y2 s f t k=0):tyB s=true/\0<=nM f t k/\s.1≠3:=by
 unfold Y2 at h;split at h
 ·cases h
 ·rename_i h1;split at h
  ·cases h
  ·rename_i h2;refine⟨by cases hb:tyB s<;>simp_all,by omega,h2⟩
theorem Zdr:∀l:List Chg,(l.map (·.1)).zip (l.map (·.2))=l
 |[]=>rfl
 |c::l=>by
  show(c.1,c.2)::(l.map (·.1)).zip (l.map (·.2))=c::l;rw[Zdr l]
theorem Z6Z (f t k:Int):(ms f t k).length<=4096:=by
 rw[Z5y];have:=Zge f t k;omega
theorem Z8f (s:Int×Int):fkd s<16:=by unfold fkd;split<;>decide
theorem ZkL {s:Int×Int} {f t k:Int} {l:List Chg} {d:List UInt8} (h:ssE s f t k l=(d,0)):ssD s f t k d=(l,0)/\ssV s f t k l=true:=by
 unfold ssE at h;split at h
 ·rename_i h1;injection h with _ h;exact absurd h h1
 ·rename_i h1;split at h
  ·cases h
  ·rename_i h2;have hv:ssV s f t k l=true:=(by simpa using h2);refine⟨?_,hv⟩;have bj:=hv;unfold ssV at bj;rw[Va1,Vas,Vbv] at bj;obtain⟨v1,v2⟩:=bj;obtain⟨k1,k2,k3⟩:=Z2g (by omega:Y2 s f t k=0);unfold ssD;rw[Vad h1,<-v1];split at h
   ·rename_i h3;injection h with h _;subst h3;rw[List.map_nil,Vaf rfl,Vaf h.symm]
   ·rename_i h3;obtain⟨s1,s2⟩:=Z6Y h;rw[Vad (by intro e;exact h3 (List.map_eq_nil_iff.1 e)),Vad (by omega)];obtain⟨C,hC⟩:∃C,(vlsE s (l.map (·.2))).1=C:=⟨_,rfl⟩;rw[hC] at s1
    have kI:∀p∈[(fkd s,C)],p.1<16:=by
     intro p hp;have e2:p.1=fkd s:=congrArg Prod.fst (Vax.1 hp);rw[e2];exact Z8f s
    have hu:=Z0R kI s1;rw[hu];simp only
    have eu:l.length<=4096:=by
     have:=Z6Z f t k;rw[<-v1,Vag] at this;exact this
    obtain⟨_,e2⟩:=Z5D k1 k3 (vs:=l.map (·.2)) (λv kT=>by
     obtain⟨c,hc,rfl⟩:=Va6.1 kT;exact v2 c hc) (by rw[Vag];exact eu)
    have e3:=e2 ((l.map (·.1)).length:Int) (by rw[Vag,Vag];exact Int.le_refl _);rw[hC] at e3;unfold Yk;rw[Vad k3];simp only;rw[e3,Vaf ⟨by first|rfl|trivial,by first|rfl|trivial,by rw[Vag,Vag]⟩];simp only
    rw[Vaf (by
     rw[Vbv];intro v kT;obtain⟨c,hc,rfl⟩:=Va6.1 kT;exact v2 c hc),Zdr]
theorem Zds {s:Int×Int} {t a:Int} {b:ByteArray} {l:List Chg} {k:Nat} (h:k<l.length):rise s t a b (l.drop k)=(decide (a<l[k].1)&&decide (l[k].1<=t)&&vaB Z9 s (toL l[k].2)&&(decide (s.1=3)|| !decide (l[k].2=b))&&rise s t l[k].1 l[k].2 (l.drop (k+1))):=by
 rw[Va4 h];rfl
theorem Zgi {s:Int×Int} {v:List UInt8} (h:vaB Z9 s v=true):v.length<=128:=(ZbR h).2
theorem Z9J (s:Int×Int) (d:List UInt8) (most:Int):∀v∈(vlsD s d most).1,v.size<=128:=by
 unfold vlsD;split
 ·rename_i h0;rcases Z6q s.2 d most with ⟨_,h1⟩|⟨_,_,h1|h1⟩|⟨l,h1,_,h2,_⟩
  ·rw[h1];intro v hv;cases hv
  ·rw[h1];intro v hv;cases hv
  ·rw[h1];intro v hv;cases hv
  ·rw[h1];intro v hv;obtain⟨g1,g2,g3,g4⟩:=ZA.1 h2;have:=g1 v hv;obtain⟨e1,e2⟩:=ZM.1 this;rw[Z1] at e2;omega
 ·rcases Qw d most with (h1|h1)|⟨l,h1,_,_,h2,_⟩
  ·rw[h1];intro v hv;cases hv
  ·rw[h1];intro v hv;cases hv
  ·rw[h1];exact h2
def awL:List Chg:=[(10,bs [49]),(15,bs [48])]
theorem Zj8 (v:List UInt8) (h:v=[48]\/v=[49]):vaB Z9 (0,1) v=true:=by
 unfold vaB kvB;rw[Vaf rfl];rcases h with rfl|rfl<;>decide
theorem Zdt:¬bs [49]=bs [48]:=λh=>by
 have:=congrArg toL h;rw[Ze,Ze] at this;cases this
theorem Zdu:sgV (0,1) 9 20 (bs [48]) awL=true:=by
 refine Qj.2 ⟨by decide,by decide,?_,by decide,?_⟩
 ·rw[Ze];exact Zj8 _ (.inl rfl)
 ·refine Qi.2 ⟨by decide,by decide,?_,.inr Zdt,Qi.2 ⟨by decide,by decide,?_,.inr (λh=>Zdt h.symm),rfl⟩⟩
  ·rw[Ze];exact Zj8 _ (.inr rfl)
  ·rw[Ze];exact Zj8 _ (.inl rfl)
theorem Zdv (a b:List UInt8):(mnT a b).length<=a.length/\(mnT a b).length<=b.length:=by
 unfold mnT;split<;>exact⟨by omega,by omega⟩
theorem Zgj:(encT (tms 9 awL)).1.length<=1000:=by
 have hv:=Z2e Zdu
 have h0:(cod0 (tms 9 awL)).length<=1000:=by
  unfold cod0 ZJ
  have h1:=XN ((Z6 (tms 9 awL)).map Int.toNat) (λv bj=>by
   obtain⟨g,hg,rfl⟩:=Va6.1 bj;have:=Xj hv g hg;omega)
  have h2:((Z6 (tms 9 awL)).map Int.toNat).length=2:=rfl;have h3:=Z7 0;have h4:=Y5 0;rw[Vab];omega
 generalize tms 9 awL=L at*;unfold encT;rw[Vaf hv];have h1:=(Zdv (cod0 L) (cod2 L)).1;have h2:=(Zdv (cod0 L) (cod1 L)).1;have h3:=(Zdv (mnT (cod0 L) (cod1 L)) (cod2 L)).1;simp only;split
 ·exact Vaq h1 h0
 ·exact Vaq h3 (Vaq h2 h0)
theorem Zj9 {W:Int} {l:List ByteArray} {s:List UInt8} (h:codB 0 W l=some s):∀k,(bstB W l (k+1)).length<=(num 0++s).length/\bstB W l (k+1)≠[]:=by
 intro k
 have e:∀k,bstB W l (k+1)=match codB k W l with
   |none=>bstB W l k
   |some s=>if bstB W l k=[]\/(num k++s).length<(bstB W l k).length then num k++s else bstB W l k:=λ_=>rfl
 induction k with
 |zero=>
  rw[e,h];simp only;split
  ·exact⟨UZz,Zck _ _⟩
  ·rename_i hc;exact⟨by omega,λh=>hc (.inl h)⟩
 |succ k ih=>
  obtain⟨i1,i2⟩:=ih;rw[e];cases codB (k+1) W l with
  |none=>exact⟨i1,i2⟩
  |some t=>
   simp only;split
   ·rename_i hc;rcases hc with hc|hc
    ·exact absurd hc i2
    ·exact⟨by omega,Zck _ _⟩
   ·exact⟨i1,i2⟩
theorem Zja:(vlsE (0,1) (awL.map (·.2))).1.length<=1000:=by
 unfold vlsE;rw[Vaf rfl]
 have hb:(ZG (awL.map (·.2))).length=4:=by
  show(ZG [bs [49],bs [48]]).length=4;unfold ZG;simp[Qe,Ze]
 have hc:codB 0 1 (awL.map (·.2))=some (num 2++toL (Bit.bstr (ZG (awL.map (·.2))))):=by
  unfold codB codP;rw[Vaf rfl,Vad (by omega)];rfl
 have h1:=(Zj9 hc 3).1
 have h2:(num 0++(num 2++toL (Bit.bstr (ZG (awL.map (·.2)))))).length<=1000:=by
  rw[Vab,Vab,Z1,Bit.bstr_size,hb];have a1:=Z7 0;have a2:=Z7 2;have a3:=Y5 0;have a4:=Y5 2;omega
 generalize awL.map (·.2)=L at*;simp only;unfold ZW;split
 ·exact Vat _
 ·exact Vaq h1 h2
theorem Z38 {k:Nat} {c w:List UInt8} (h:ZB k c=some w):w.length<=c.length+20:=by
 unfold ZB at h;cases ht:lzE c with
 |none=>rw[ht] at h;cases h
 |some t=>
  rw[ht] at h;injection h with h;rw[<-h,Z4S];have h1:(ZS c t).length<=c.length:=(by unfold ZS;split<;>omega);have h2:=Z7 (ZS c t).length;have h3:=Y5 (ZS c t).length;omega
theorem Z8g {k:Nat} {c:List UInt8} (h:c.length<=4096):∃w,ZB k c=some w:=by
 have:=Z2H (k:=k) (c:=c);rw[Vao h] at this;exact Option.isSome_iff_exists.1 this
theorem ZkM:∃d,sgE (0,1) 9 20 (bs [48]) awL=(d,0)/\d≠[]/\d.length<=4096:=by
 have ht:=Zgj;have hv:=Zja;obtain⟨T,hT⟩:∃T,(encT (tms 9 awL)).1=T:=⟨_,rfl⟩;obtain⟨V,hV⟩:∃V,(vlsE (0,1) (awL.map (·.2))).1=V:=⟨_,rfl⟩;rw[hT] at ht;rw[hV] at hv;obtain⟨w1,h1⟩:=Z8g (k:=1) (c:=T) (by omega);obtain⟨w2,h2⟩:=Z8g (k:=2) (c:=V) (by omega);have l1:=Z38 h1;have l2:=Z38 h2
 have hf:frms (0,1) 9 awL=[(1,T),(2,V)]:=by
  unfold frms;rw[Vad (by decide),hT,hV];rfl
 have hw:ZK [(1,T),(2,V)]=some (w1++(w2++[])):=by
  simp only[ZK,h1,h2];rfl
 refine⟨w1++(w2++[]),?_,?_,?_⟩
 ·unfold sgE;rw[Vad (by rw[Zdu];decide),Vad (by unfold awL;simp),hf];unfold strm;rw[hw];simp only;rw[Vad (by rw[Vab,Vab];simp;omega)]
 ·exact Z8e hw
 ·rw[Vab,Vab];simp;omega
theorem ZkN:smp 9 20 5 (bs [48]) awL=[(10,bs [49]),(15,bs [48]),(20,bs [48])]:=by
 have hm:ms 9 20 5=[10,15,20]:=(by decide);unfold smp;rw[hm];rfl
end Wv.Sg
namespace Wv.Sg
open Wv.Vi Wv.Ru Wv.Bc Wv.Fm Wv.Lz
theorem Z39:∀(l:List (Nat×List UInt8)) (p:Nat×List UInt8),ZK (l++[p])=(match ZK l with
  |none=>none
  |some d=>(ZB p.1 p.2).map (d++·))
 |[],p=>by
  show ZK [p]=_;unfold ZK;cases ZB p.1 p.2 with
  |none=>rfl
  |some w=>simp[ZK]
 |q::l,p=>by
  show ZK (q::(l++[p]))=_;unfold ZK;cases ZB q.1 q.2 with
  |none=>rfl
  |some w=>
   simp only;rw[Z39 l p];cases ZK l with
   |none=>rfl
   |some d=>
    simp only[Vch];cases ZB p.1 p.2 with
    |none=>rfl
    |some x=>simp[Vay]
theorem Z9K {l m:List (Nat×List UInt8)} (h:ZK l=none):ZK (l++m)=none:=by
 induction l with
 |nil=>cases h
 |cons q l ih=>
  show ZK (q::(l++m))=none;unfold ZK at h⊢;cases hw:ZB q.1 q.2 with
  |none=>rfl
  |some w=>
   rw[hw] at h;simp only at h⊢;cases hl:ZK l with
   |none=>rw[ih hl];rfl
   |some d=>rw[hl] at h;cases h
end Wv.Sg
namespace Go.Proofs.YtchokmkfobandaaGreatDoor
open Go.RowKit Go.Proofs Wv Wv.Vi Wv.Bc Wv.Sn Wv.Sg Wv.Fm Wv.Lz
def frs (l:List (Nat×List UInt8)):List Value:=l.flatMap λp=>[.int .i64 (p.1:Int),.string (bs p.2)]
theorem Zjb (D:List (Nat×List UInt8)):∀(i:Nat) (h:i<D.length),(frs D)[i*2]? =some (.int .i64 (D[i].1:Int))/\(frs D)[i*2+1]? =some (.string (bs D[i].2)):=by
 induction D with
 |nil=>intro i h;simp at h
 |cons c D ih=>
  intro i h;have e:frs (c::D)=[.int .i64 (c.1:Int),.string (bs c.2)]++frs D:=rfl;match i,h with
  |0,_=>exact⟨rfl,rfl⟩
  |i+1,h=>
   have h2:i<D.length:=(by simpa using h);rw[e,Vbc (by simp;omega),Vbc (by simp;omega)];have:=ih i h2;rw[show(i+1)*2-[(Value.int .i64 (c.1:Int)),.string (bs c.2)].length=i*2 from by simp;omega,show(i+1)*2+1-[(Value.int .i64 (c.1:Int)),.string (bs c.2)].length=i*2+1 from by simp;omega];exact this
theorem Zgk (l:List (Nat×List UInt8)) (c:Nat×List UInt8):frs (l++[c])=frs l++[.int .i64 (c.1:Int),.string (bs c.2)]:=by unfold frs;rw[Vce];rfl
theorem Z8h {w:World} {A:Option Addr} {l:List (Nat×List UInt8)} (ha:At w A (frs l)) (k:Nat) (h:k<l.length):∃b o,A=some ⟨b,o,none⟩/\b<w.heap.size/\w.cell? ⟨b,o+k*2,none⟩=some (.int .i64 (l[k].1:Int))/\w.cell? ⟨b,o+k*2+1,none⟩=some (.string (bs l[k].2)):=by
 have hp:=Zjb l k h;obtain⟨b,o,hA,ab,c0⟩:=ha.get (k*2) _ hp.1;obtain⟨b',o',nW,_,c1⟩:=ha.get (k*2+1) _ hp.2;rw[hA] at nW;injection nW with nW
 injection nW with h1 h2;subst h1;subst h2;exact⟨b,o,hA,ab,c0,c1⟩
def feV (l:List (Nat×List UInt8)):Value:=match ZK l with
 |none=>.tuple #[.string ⟨#[]⟩,.int .i64 9]
 |some d=>.tuple #[.string (bs d),.int .i64 0]
theorem Z2h {w:World} {A:Option Addr} {l:List (Nat×List UInt8)} (ha:At w A (frs l)) (hk:∀p∈l,p.1<16) (hc:∀p∈l,p.2.length<=1000000000) (n cap:Nat) (hn:n=l.length) (bo:n<=1000):
  Calls Tryz.prog 35 #[.slice A n cap] w λx w'=>x=.returned (feV l)/\Below w.heap.size w w':=by
 have Ha:=h_ ha;have Hn:=h_ hn;have Hw:=h_ (λ(k:Nat) (hk:k<16) (c:List UInt8) (hc:c.length<=1000000000) W=>Z46 k hk c hc W);have Hk:=h_ hk;have Hc:=h_ hc
 have HV:Hid (feV l=match ZK l with
  |none=>.tuple #[.string ⟨#[]⟩,.int .i64 9]
  |some d=>.tuple #[.string (bs d),.int .i64 0]):=h_ rfl
 generalize feV l=FV at*;clear ha hn hk hc;go_enter Tryz.func35,Tryz.ntmps35;go_wp2;go_loopw [4,11] (λs4 lr wr=>∃(i:Nat) (d:List UInt8),i<=n/\lr=.int .i64 (i:Int)/\s4=.string (bs d)/\Hid (ZK (l.take i)=some d)/\Hid (d.length<=5000*i)/\Hid (Below w.heap.size w wr)) (λ_ lr _=>(n-intOf lr).toNat);case atStart=>exact⟨0,[],Vat _,rfl,rfl,h_ (by rw[Vbw];rfl),h_ (Vat _),h_ (Vae _ _)⟩
 case round=>
  obtain⟨i,d,hi,rfl,rfl,hw,gd,hb⟩:=hrel;by_cases ab:i<n
  ·have bu:i<l.length:=(by rw[<-Hn.o];exact ab);obtain⟨bA,oA,rfl,tf,c0,c1⟩:=Z8h (Ha.o.below hb.o) i bu;have ay:l.take (i+1)=l.take i++[l[i]]:=Vac bu;have xq:=Hk.o l[i] (Vak _);have Bu:=Hc.o l[i] (Vak _)
   have my:l=l.take i++([l[i]]++l.drop (i+1)):=by
    rw[<-Vay,<-ay,Vcb]
   obtain⟨⟨k,c⟩,hp⟩:∃p,l[i]=p:=⟨_,rfl⟩;rw[hp] at c0 c1 ay xq Bu my;simp only at c0 c1 xq Bu;have jJ:=Z39 (l.take i) (k,c);rw[<-ay,hw.o] at jJ;simp only at jJ;have HW:=h_ (Hw.o k xq c Bu);unfold frV at HW;have Hb:=h_ (hb.o.alloc hb.o.size (.cells #[.int .i64 (k:Int),.string (bs c)] 36));have iZ:(0:Int)<=(i:Int):=(by omega);have pY:(i:Int)<(n:Int):=(by omega);cases hwk:ZB k c with
   |none=>
    rw[hwk] at HW jJ
    have uC:ZK l=none:=by
     rw[my,<-Vay,<-ay];exact Z9K jJ
    have HR:Hid (FV=.tuple #[.string ⟨#[]⟩,.int .i64 9]):=h_ (by rw[HV.o,uC]);rw[show optV none=.tuple #[.string ⟨#[]⟩,.int .i64 9] from rfl] at HW;generalize bs c=S at*;clear uC jJ my ay hp bu hwk hw gd;go_wp2_with fail;refine(HW.o _).mono ?_;rintro x w2 ⟨rfl,a8⟩;have an:=h_ (Hb.o.trans (a8.mono Hb.o.size));clear a8;go_wp2;go_returns;exact⟨by rw[HR.o];rfl,an.o⟩
   |some u=>
    rw[hwk] at HW jJ
    have pz:u.length<=5000:=by
     have h2:=hwk;unfold ZB at h2;cases ht:lzE c with
     |none=>rw[ht] at h2;cases h2
     |some t=>
      rw[ht] at h2;injection h2 with h2;have iu:=Z1e ht;rw[<-h2,Z4S];have g1:(ZS c t).length<=4096:=(by unfold ZS;split<;>omega);have g2:=Z7 (ZS c t).length;have g3:=Y5 (ZS c t).length;omega
    rw[show optV (some u)=.tuple #[.string (bs u),.int .i64 0] from rfl] at HW;have rI:Hid (ZK (l.take (i+1))=some (d++u)):=h_ (by rw[jJ];rfl);have Ka:Hid ((d++u).length<=5000*(i+1)):=h_ (by rw[Vab];have:=gd.o;omega);have ad:(bs d).size+(bs u).size<=9223372036854775807:=(by rw[Z0,Z0];have:=gd.o;omega);have gU:=h_ (Zg d u);generalize bs c=S at*;generalize bs d=D at*;generalize bs u=U at*;clear jJ my ay hp bu hwk hw gd pz;go_wp2_with fail;refine(HW.o _).mono ?_;rintro x w2 ⟨rfl,a8⟩;have an:=h_ (Hb.o.trans (a8.mono Hb.o.size));clear a8;go_wp2;refine⟨⟨i+1,d++u,ab,by go_num,by rw[<-gU.o],rI,Ka,an⟩,?_⟩;simp[intOf]<;>omega
  ·have aU:i=n:=(by omega);subst aU
   have HR:Hid (FV=.tuple #[.string (bs d),.int .i64 0]):=h_ (by
    have h:=hw.o;rw[Vah (by rw[Hn.o];exact UZz)] at h;rw[HV.o,h])
   clear hw gd;go_wp2;go_returns;exact⟨by rw[HR.o];rfl,hb.o⟩
theorem Z8i (a c f t:Int) (w:World):
  Calls Tryz.prog 30 #[.agg #[.int .i64 a,.int .i64 c],.int .i64 f,.int .i64 t] w λx w'=>x=.returned (.bool (tyB (a,c)&&itv f t))/\Below w.heap.size w w':=by
 have HT:=h_ (λW=>Z5r a c W);have HI:Hid (itv f t=(decide (-1<=f)&&decide (f<=t)&&decide (t<=1099511627776))):=h_ rfl;have Hb:=h_ ((Vae w.heap.size w).alloc UZz (.cells #[.int .i64 a,.int .i64 c] 23));obtain⟨B,hB⟩:∃B,tyB (a,c)=B:=⟨_,rfl⟩;rw[hB] at HT⊢;clear hB;cases B with
 |false=>
  have HR:Hid ((false&&itv f t)=false):=h_ rfl;go_enter Tryz.func30,Tryz.ntmps30;go_wp2_with fail;refine(HT.o _).mono ?_;rintro x w1 ⟨rfl,a7⟩;have ao:=h_ (Hb.o.trans (a7.mono Hb.o.size));clear a7;go_wp2;go_returns;exact⟨rfl,ao.o⟩
 |true=>
  by_cases h1: -1<=f
  ·by_cases h2:f<=t
   ·by_cases h3:t<=1099511627776
    ·have HR:Hid ((true&&itv f t)=true):=h_ (by rw[HI.o];simp[*]);go_enter Tryz.func30,Tryz.ntmps30;go_wp2_with fail;refine(HT.o _).mono ?_;rintro x w1 ⟨rfl,a7⟩;have ao:=h_ (Hb.o.trans (a7.mono Hb.o.size));clear a7;go_wp2;go_returns;exact⟨by first|exact Z4 HR.o.symm|exact Z4 (by rw[HR.o,Vai (by omega)]),ao.o⟩
    ·have HR:Hid ((true&&itv f t)=false):=h_ (by rw[HI.o];simp[*]);go_enter Tryz.func30,Tryz.ntmps30;go_wp2_with fail;refine(HT.o _).mono ?_;rintro x w1 ⟨rfl,a7⟩;have ao:=h_ (Hb.o.trans (a7.mono Hb.o.size));clear a7;go_wp2;go_returns;exact⟨by first|exact Z4 HR.o.symm|exact Z4 (by rw[HR.o,Vai (by omega)]),ao.o⟩
   ·have HR:Hid ((true&&itv f t)=false):=h_ (by rw[HI.o];simp[*]);go_enter Tryz.func30,Tryz.ntmps30;go_wp2_with fail;refine(HT.o _).mono ?_;rintro x w1 ⟨rfl,a7⟩;have ao:=h_ (Hb.o.trans (a7.mono Hb.o.size));clear a7;go_wp2;go_returns;exact⟨by first|exact Z4 HR.o.symm|exact Z4 (by rw[HR.o,Vai (by omega)]),ao.o⟩
  ·have HR:Hid ((true&&itv f t)=false):=h_ (by rw[HI.o];simp[*]);go_enter Tryz.func30,Tryz.ntmps30;go_wp2_with fail;refine(HT.o _).mono ?_;rintro x w1 ⟨rfl,a7⟩;have ao:=h_ (Hb.o.trans (a7.mono Hb.o.size));clear a7;go_wp2;go_returns;exact⟨by first|exact Z4 HR.o.symm|exact Z4 (by rw[HR.o,Vai (by omega)]),ao.o⟩
theorem QR {w:World} {A:Option Addr} {l:List (Nat×List UInt8)} (ha:At w A (frs l)) (hk:∀p∈l,p.1<16) (hc:∀p∈l,p.2.length<=1000000000) (n cap:Nat) (hn:n=l.length) (bo:n<=1000):
  Calls Tryz.prog 29 #[.slice A n cap] w λx w'=>x=.returned (.tuple #[.string (bs (strm l).1),.int .i64 ((strm l).2:Int)])/\Below w.heap.size w w':=by
 have HE:=h_ (Z2h ha hk hc n cap hn bo)
 have HF:Hid (feV l=match ZK l with
  |none=>.tuple #[.string ⟨#[]⟩,.int .i64 9]
  |some d=>.tuple #[.string (bs d),.int .i64 0]):=h_ rfl
 have HS:Hid (strm l=match ZK l with
  |none=>([],9)
  |some d=>if 4096<d.length then([],9) else(d,0)):=h_ rfl
 have eP:bs ([]:List UInt8)=⟨#[]⟩:=rfl;clear ha hk hc hn;cases hw:ZK l with
 |none=>
  have h1:=HF.o;have h2:=HS.o;rw[hw] at h1 h2;simp only at h1 h2;rw[h1] at HE;have H2:Hid (Ending.returned (.tuple #[.string (bs (strm l).1),.int .i64 ((strm l).2:Int)])=.returned (.tuple #[.string ⟨#[]⟩,.int .i64 9])):=h_ (by rw[h2];rfl);clear h1 h2 HF HS hw eP;go_enter Tryz.func29,Tryz.ntmps29;go_wp2_with fail;refine(HE.o).mono ?_;rintro x w2 ⟨rfl,a8⟩;go_wp2;go_returns;exact⟨by rw[H2.o];rfl,a8⟩
 |some d=>
  have h1:=HF.o;have h2:=HS.o;rw[hw] at h1 h2;simp only at h1 h2;rw[h1] at HE;have ad:(bs d).size=d.length:=Z0 d;by_cases hg:4096<d.length
  ·rw[Vaf hg] at h2;have H2:Hid (Ending.returned (.tuple #[.string (bs (strm l).1),.int .i64 ((strm l).2:Int)])=.returned (.tuple #[.string ⟨#[]⟩,.int .i64 9])):=h_ (by rw[h2];rfl);have Kb:(4096:Int)<((bs d).size:Int):=(by omega);generalize bs d=D at*;clear h1 h2 HF HS hw eP hg ad;go_enter Tryz.func29,Tryz.ntmps29;go_wp2_with fail;refine(HE.o).mono ?_;rintro x w2 ⟨rfl,a8⟩;go_wp2;go_returns;exact⟨by rw[H2.o];rfl,a8⟩
  ·rw[Vad hg] at h2;have H2:Hid (Ending.returned (.tuple #[.string (bs (strm l).1),.int .i64 ((strm l).2:Int)])=.returned (.tuple #[.string (bs d),.int .i64 0])):=h_ (by rw[h2];rfl);have Kb:¬(4096:Int)<((bs d).size:Int):=(by omega);generalize bs d=D at*;clear h1 h2 HF HS hw eP hg ad;go_enter Tryz.func29,Tryz.ntmps29;go_wp2_with fail;refine(HE.o).mono ?_;rintro x w2 ⟨rfl,a8⟩;go_wp2;go_returns;exact⟨by rw[H2.o];rfl,a8⟩
end Go.Proofs.YtchokmkfobandaaGreatDoor
namespace Go.Proofs.YtchokmkfobandaaGreatDoor
open Go.RowKit Go.Proofs Wv Wv.Vi Wv.Bc Wv.Sn Wv.Sg Wv.Ru
theorem Z2i:(Tryz.prog.info? 9).map (λi=>(i.zero,i.size,i.bytes))=some (some (.string ByteArray.empty),1,16):=by kernel_rfl
def SvR (w:World) (v:Value) (l:List ByteArray):Prop:=∃A cap,v=.slice A l.length cap/\At w A (svs l)
theorem Zjc {w:World} {base e:Nat} {v:Value} {l:List ByteArray} (h:w.ownsRow base e 1 v l.length (svs l)):SvR w v l:=by
 obtain⟨A,cap,hv,ha⟩:=Zl h;exact⟨A,cap,hv,ha⟩
theorem Z2j (l:List ByteArray) (s:ByteArray):svs (l++[s])=svs l++[.string s]:=by unfold svs;rw[Vbk];rfl
theorem Zdw {w:World} {A:Option Addr} {l:List (Int×ByteArray)} (ha:At w A (cv l)) (n cap:Nat) (hn:n=l.length) (bo:n<=1000000):
  Calls Tryz.prog 45 #[.slice A n cap] w λx w'=>∃v,x=.returned v/\SvR w' v (l.map (·.2))/\Below w.heap.size w w':=by
 have Ha:=h_ ha;have Hn:=h_ hn;have kl:Hid (w.ownsRow w.heap.size 9 1 (.slice none 0 0) 0 (svs ((l.take 0).map (·.2)))):=h_ (by rw[Vbw];exact Zk);clear ha hn;go_enter Tryz.func45,Tryz.ntmps45;go_wp2;go_loopw [3,8] (λs3 s8 wr=>∃i:Nat,i<=n/\s8=.int .i64 (i:Int)/\Hid (wr.ownsRow w.heap.size 9 1 s3 i (svs ((l.take i).map (·.2))))/\Hid (Below w.heap.size w wr)) (λ_ s8 _=>(n-intOf s8).toNat);case atStart=>exact⟨0,Vat _,rfl,kl,h_ (Vae _ _)⟩
 case round=>
  clear kl;obtain⟨i,hi,rfl,aa,hb⟩:=hrel;obtain⟨A5,M5,aY,rfl⟩:=Zd aa.o;by_cases ab:i<n
  ·have bu:i<l.length:=(by rw[<-Hn.o];exact ab);obtain⟨bA,oA,rfl,tf,c0,c1⟩:=Ye (Ha.o.below hb.o) i bu;have ay:l.take (i+1)=l.take i++[l[i]]:=Vac bu;obtain⟨⟨T,V⟩,hTV⟩:∃y,l[i]=y:=⟨_,rfl⟩;rw[hTV] at c0 c1 ay;simp only at c0 c1;have a7:=hb.o.alloc hb.o.size (.cells #[.int .i64 T,.string V] 33);have ah:=Zn aa.o (Fr.of_below (S:=nob) ((Vae wr.heap.size wr).alloc UZz (.cells #[.int .i64 T,.string V] 33))) (λ_ _ f=>f);obtain⟨v',W',ag,ae,aF,_⟩:=Yq (P:=Tryz.prog) 64 9 _ _ Tryz.underlying64 Z2i rfl ah a7 a7.size (.string V) rfl (by unfold maxLen;omega) (by omega);have jJ:svs ((l.take (i+1)).map (·.2))=svs ((l.take i).map (·.2))++[.string V]:=(by rw[ay,Vbk,<-Z2j];rfl);rw[<-jJ] at ae;rw[World.size_alloc] at ag;have aq:=h_ ag;have aw:=h_ ae;have cE:=h_ aF;have iZ:(0:Int)<=(i:Int):=(by omega);have pY:(i:Int)<(n:Int):=(by omega);clear ag ae aF jJ ay hTV bu a7 ah aa hb
   go_wp2_with (
    at_builtin;refine Z3 (by with_reducible rfl) rfl _ _ _ rfl _ _ (by rfl) (by rfl) aq.o ?_)
   refine⟨⟨i+1,ab,by go_num,aw,cE⟩,?_⟩;simp[intOf]<;>omega
  ·have aU:i=n:=(by omega);subst aU
   have aN:Hid (SvR wr (.slice A5 M5 aY) (l.map (·.2))):=h_ (by
    have h:=aa.o;rw[Vah (by rw[Hn.o];exact UZz)] at h;exact Zjc (by rw[Vag,<-Hn.o];exact h))
   clear aa;go_wp2;go_returns;exact⟨_,rfl,aN.o,hb.o⟩
end Go.Proofs.YtchokmkfobandaaGreatDoor
namespace Go.Proofs.YtchokmkfobandaaGreatDoor
open Go.RowKit Go.Proofs Wv Wv.Vi Wv.Bc Wv.Sn Wv.Sg Wv.Fm Wv.Lz
theorem Zhc:(Tryz.prog.info? 36).map (λi=>(i.zero,i.size,i.bytes))=some (some (.agg #[.int .i64 0,.string ByteArray.empty]),2,24):=by kernel_rfl
def FrR (w:World) (v:Value) (l:List (Nat×List UInt8)):Prop:=∃A cap,v=.slice A l.length cap/\At w A (frs l)
def Zlm:Value->Nat
 |.string s=>s.size
 |_=>0
def FdR (w:World) (o:Option (List (Nat×List UInt8))) (x:Ending) (w':World):Prop:=∃v,x=.returned (.tuple #[v,.int .i64 (if o=none then 12 else 0)])/\FrR w' v (o.getD [])/\Below w.heap.size w w'
theorem Zjd {w:World} {base e:Nat} {v:Value} {l:List (Nat×List UInt8)} (h:w.ownsRow base e 2 v l.length (frs l)):FrR w v l:=by
 obtain⟨A,cap,hv,ha⟩:=Zl h;exact⟨A,cap,hv,ha⟩
theorem Z2k (data:List UInt8) (hd:data.length<=1000000) (w:World):
  Calls Tryz.prog 36 #[.string (bs data)] w λx w'=>FdR w (unws data) x w':=by
 have HU:=h_ (λ(d:List UInt8) (h:d.length<=1000000000) W=>Z9G d h W);have HD:=h_ (λ(o:Option (List (Nat×List UInt8))) x w'=>(Iff.rfl:FdR w o x w'↔FdR w o x w'));obtain⟨O,hO⟩:∃O,unws data=O:=⟨_,rfl⟩;have h0:Hid (O=(unws data).map ([]++·)):=h_ (by rw[hO];cases O<;>simp);have kl:Hid (w.ownsRow w.heap.size 36 2 (.slice none 0 0) 0 (frs [])):=h_ Zk;rw[hO];clear hO;go_enter Tryz.func36,Tryz.ntmps36;go_wp2;go_loopw [0,4] (λs0 s4 wr=>∃(r:List UInt8) (fr:List (Nat×List UInt8)),s0=.string (bs r)/\r.length<=1000000/\Hid (fr.length+r.length<=1000000)/\Hid (O=(unws r).map (fr++·))/\Hid (wr.ownsRow w.heap.size 36 2 s4 fr.length (frs fr))/\Hid (Below w.heap.size w wr)) (λs0 _ _=>Zlm s0);case atStart=>exact⟨data,[],rfl,hd,h_ (by simpa using hd),h0,kl,h_ (Vae _ _)⟩
 case round=>
  clear h0 kl HD;obtain⟨r,fr,rfl,hr,hlen,hO,aa,hb⟩:=hrel;obtain⟨A5,M5,aY,rfl⟩:=Zd aa.o;have cB:=Xl r;by_cases h0:r=[]
  ·subst h0;have xr:Hid (O=some fr):=h_ (by rw[hO.o,Z8d];simp);have HR:Hid (FrR wr (.slice A5 M5 aY) fr):=h_ (Zjd aa.o);rw[show bs ([]:List UInt8)=⟨#[]⟩ from rfl] at cB⊢;clear hO aa cB;go_wp2;go_returns;exact⟨_,by rw[xr.o];rfl,by rw[xr.o];exact HR.o,hb.o⟩
  ·rw[Vai h0] at cB;have EU:=h_ (HU.o r (by omega) wr);cases hf:YD r with
   |none=>
    have hu:uwV r=.tuple #[.agg #[.int .i64 0,.string ⟨#[]⟩],.int .i64 0,.int .i64 12]:=(by unfold uwV;rw[hf]);rw[hu] at EU;have xr:Hid (O=none):=h_ (by rw[hO.o,Zdq h0 hf];rfl);generalize bs r=S at*;clear hO aa hu hf h0 HU;go_wp2_with fail;refine(EU.o).mono ?_;rintro x w2 ⟨rfl,a8⟩;have an:=h_ ((hb.o.trans (a8.mono hb.o.size)).alloc (Vaq hb.o.size a8.size) (.cells #[.int .i64 0,.string ⟨#[]⟩] 36));clear a8;go_wp2;go_returns;exact⟨_,by rw[xr.o];rfl,by rw[xr.o];exact⟨none,0,rfl,At.nil _ _⟩,an.o⟩
   |some q=>
    obtain⟨k,c,z⟩:=q;have hu:uwV r=.tuple #[.agg #[.int .i64 (k:Int),.string (bs c)],.int .i64 (z:Int),.int .i64 0]:=(by unfold uwV;rw[hf];rfl);rw[hu] at EU;obtain⟨z1,z2⟩:=QA hf;have Pe:=Z2f hf
    have xr:Hid (O=(unws (r.drop z)).map ((fr++[(k,c)])++·)):=h_ (by
     rw[hO.o,Pe,Option.map_map];congr 1;funext y;simp)
    have ad:(bs r).size=r.length:=Z0 r;have hex:(bs r).extract z (bs r).size=bs (r.drop z):=(by rw[Qn,Ze]);have dt:Hid ((fr++[(k,c)]).length+(r.drop z).length<=1000000):=h_ (by have:=hlen.o;rw[Vab,Va2];simp;omega);have bP:(r.drop z).length<=1000000:=(by rw[Va2];omega);have Do:(bs (r.drop z)).size<(bs r).size:=(by rw[Z0,Z0,Va2];omega);have WW:(z:Int)<=((bs r).size:Int):=(by omega);have du:(0:Int)<=(z:Int):=(by omega);have fD:fr.length<=1000000:=(by have:=hlen.o;omega);clear hO hu hf h0 HU Pe;go_wp2_with fail;refine(EU.o).mono ?_;rintro x w2 ⟨rfl,a8⟩;have af:=(hb.o.trans (a8.mono hb.o.size)).alloc (Vaq hb.o.size a8.size) (.cells #[.int .i64 (k:Int),.string (bs c)] 36);have dG:=Zn (Zn aa.o (Fr.of_below (S:=nob) a8) (λ_ _ f=>f)) (Fr.of_below (S:=nob) ((Vae w2.heap.size w2).alloc UZz (.cells #[.int .i64 (k:Int),.string (bs c)] 36))) (λ_ _ f=>f)
    obtain⟨v',W',ag,ae,aF,_⟩:=Z3t (P:=Tryz.prog) 37 36 _ _ 2 Tryz.underlying37 Zhc rfl (by decide) dG af af.size [.int .i64 (k:Int),.string (bs c)] rfl (by
     intro y hy;simp at hy;rcases hy with rfl|rfl<;>rfl) (by unfold maxLen;omega) (by omega)
    have jJ:frs (fr++[(k,c)])=frs fr++[.int .i64 (k:Int),.string (bs c)]:=Zgk fr (k,c);rw[<-jJ] at ae;rw[World.size_alloc] at ag;have cC:(fr++[(k,c)]).length=fr.length+1:=(by simp);rw[<-cC] at ae;have aq:=h_ ag;have aw:=h_ ae;have cE:=h_ aF;clear ag ae aF jJ af dG a8 aa hb cC
    go_wp2_with (
     at_builtin;refine Z3 (by with_reducible rfl) rfl _ _ _ rfl _ _ (by rfl) (by rfl) aq.o ?_)
    rw[<-ad,hex];exact⟨⟨r.drop z,fr++[(k,c)],rfl,bP,dt,xr,aw,cE⟩,Do⟩
end Go.Proofs.YtchokmkfobandaaGreatDoor
