import Derived.Test.YtchokmkfobandaaGreatDoorJ27
import Derived.Test.YtchokmkfobandaaGreatDoorJ39
import Derived.Test.YtchokmkfobandaaGreatDoorJ38
set_option linter.unusedVariables false
set_option linter.unusedSimpArgs false
set_option maxRecDepth 100000
set_option maxHeartbeats 8000000
namespace Wv.Sg
def itv (f t:Int):Bool:=decide (-1<=f)&&decide (f<=t)&&decide (t<=1099511627776)
theorem Z1d {f t:Int} :itv f t=true↔-1<=f/\f<=t/\t<=1099511627776:=by
 unfold itv;rw[Bool.and_eq_true,Bool.and_eq_true,decide_eq_true_iff,decide_eq_true_iff,decide_eq_true_iff,and_assoc]
def upM (x k:Int):Int:=if 0<=x then x/k+1 else 0
def nM (f t k:Int):Int:=if itv f t=false\/k<1 then-1 else if 4096<upM t k-upM f k then-1 else upM t k-upM f k
def ms (f t k:Int):List Int:=(List.range (nM f t k).toNat).map (λ(i:Nat)=>(upM f k+i)*k)
theorem Z4o {x y k:Int} (hk:1<=k) (h:x<=y):upM x k<=upM y k:=by
 unfold upM;by_cases h0:0<=x
 ·rw[if_pos h0,if_pos (by omega)];have:=Int.ediv_le_ediv (show 0<k by omega) h;omega
 ·rw[if_neg h0];split
  ·have:=Int.ediv_nonneg (a:=y) (b:=k) (by assumption) (by omega);omega
  ·omega
theorem Zmz (f t k:Int):nM f t k<=4096:=by
 unfold nM;split
 ·omega
 ·split<;>omega
theorem Zc6 (f t k:Int):(ms f t k).length=(nM f t k).toNat:=by unfold ms;rw[List.length_map,List.length_range]
def fstM (f k:Int):Int:=upM f k*k
theorem ZaM {f k:Int} (hk:1<=k) (hf: -1<=f):((f+1) % k=0/\fstM f k=f+1)\/(0<(f+1) % k/\fstM f k=f+1+(k-(f+1) % k)):=by
 unfold fstM upM;by_cases h0:0<=f
 ·rw[if_pos h0];have h1:=Int.emod_add_mul_ediv f k;have h2:=Int.emod_nonneg f (show k≠0 by omega);have h3:=Int.emod_lt_of_pos f (show 0<k by omega);obtain⟨q,hq⟩:∃q,f/k=q:=⟨_,rfl⟩;obtain⟨m,hm⟩:∃m,f % k=m:=⟨_,rfl⟩;rw[hq,hm] at h1;rw[hm] at h2 h3;rw[hq,Int.add_mul,Int.one_mul,Int.mul_comm q k];by_cases bE:m+1=k
  ·left;have e:f+1=k*(q+1):=(by rw[Int.mul_add,Int.mul_one];omega);refine⟨by rw[e];exact Int.mul_emod_right k (q+1),by omega⟩
  ·right;have e:f+1=k*q+(m+1):=(by omega)
   have e2:(f+1) % k=m+1:=by
    rw[e,Int.mul_add_emod_self_left];exact Int.emod_eq_of_lt (by omega) (by omega)
   rw[e2];exact⟨by omega,by omega⟩
 ·have:f= -1:=(by omega);subst this;left;rw[if_neg (by omega)];simp
theorem ZaN {f t k:Int} (hk:1<=k) (h:itv f t=true):(t<fstM f k/\upM t k-upM f k=0)\/(fstM f k<=t/\(t-fstM f k)/k+1=upM t k-upM f k):=by
 obtain⟨i1,i2,i3⟩:=Z1d.1 h;have hm:=Z4o hk i2;have h1:=Int.emod_add_mul_ediv t k;have h2:=Int.emod_nonneg t (show k≠0 by omega);have h3:=Int.emod_lt_of_pos t (show 0<k by omega);obtain⟨u,hu⟩:∃u,upM f k=u:=⟨_,rfl⟩
 have rn:0<=u:=by
  rw[<-hu];unfold upM;split
  ·have:=Int.ediv_nonneg (a:=f) (b:=k) (by assumption) (by omega);omega
  ·omega
 unfold fstM;rw[hu] at hm⊢;by_cases ht:t<u*k
 ·left;refine⟨ht,?_⟩
  have:upM t k<=u:=by
   unfold upM;split
   ·have:t/k<u:=Int.ediv_lt_of_lt_mul (by omega) ht;omega
   ·omega
  omega
 ·right;refine⟨by omega,?_⟩;have h0:0<=t:=(by have:=Int.mul_nonneg rn (show 0<=k by omega);omega)
  have e:(t-u*k)/k=t/k-u:=by
   have:=Int.add_mul_ediv_right t (-u) (show k≠0 by omega);rw[Int.neg_mul] at this;rw[show t-u*k=t+ -(u*k) by omega,this];omega
  rw[e];unfold upM;rw[if_pos h0];omega
theorem Z70 (f t k:Int) (i:Nat) (h:i<(ms f t k).length):(ms f t k)[i]=fstM f k+i*k:=by
 simp only[ms,List.getElem_map,List.getElem_range,fstM];rw[Int.add_mul]
theorem Zof {f t k:Int} {x:Int} (h:x∈ms f t k):1<=k/\f<x/\x<=t/\x % k=0:=by
 obtain⟨i,hi,rfl⟩:=List.getElem_of_mem h;rw[Zc6] at hi;have hn:nM f t k≠-1:=λe=>(by rw[e] at hi;simp at hi);unfold nM at hn hi;split at hn
 ·exact absurd rfl hn
 ·rename_i hc;rw[if_neg hc] at hi;have hit:itv f t=true:=(by cases hb:itv f t<;>simp_all);have hk:1<=k:=(by omega);split at hn
  ·exact absurd rfl hn
  ·rename_i h4;rw[if_neg h4] at hi;rw[Z70];obtain⟨i1,i2,i3⟩:=Z1d.1 hit;have jx:=ZaM hk i1;rcases ZaN hk hit with ⟨_,c2⟩|⟨c1,c2⟩
   ·omega
   ·have uc:(i:Int)<=(t-fstM f k)/k:=(by omega);have h5:=Int.mul_le_mul_of_nonneg_right uc (show 0<=k by omega);have h6:=Int.ediv_mul_le (t-fstM f k) (show k≠0 by omega);have h7:=Int.mul_nonneg (show(0:Int)<=i by omega) (show 0<=k by omega);have h8:=Int.emod_lt_of_pos (f+1) (show 0<k by omega);refine⟨hk,?_,by omega,?_⟩
    ·rcases jx with ⟨_,h⟩|⟨_,h⟩<;>omega
    ·unfold fstM;rw[<-Int.add_mul];exact Int.mul_emod_left _ _
def atV (b:ByteArray):List (Int×ByteArray)->Int->ByteArray
 |[],_=>b
 |c::l,t=>atV (if c.1<=t then c.2 else b) l t
theorem Z5h (t:Int):∀(l:List (Int×ByteArray)) (b:ByteArray) (c:Int×ByteArray),atV b (l++[c]) t=if c.1<=t then c.2 else atV b l t
 |[],b,c=>rfl
 |d::l,b,c=>by
  show atV _ (l++[c]) t=_;rw[Z5h t l];rfl
theorem Zc7 (t:Int):∀(l:List (Int×ByteArray)) (b:ByteArray),(∀c∈l,t<c.1)->atV b l t=b
 |[],_,_=>rfl
 |d::l,b,h=>by
  show atV (if d.1<=t then d.2 else b) l t=b;rw[if_neg (by have:=h d List.mem_cons_self;omega)];exact Zc7 t l b (λc hc=>h c (List.mem_cons_of_mem _ hc))
theorem Zhb (t:Int):∀(l m:List (Int×ByteArray)) (b:ByteArray),atV b (l++m) t=atV (atV b l t) m t
 |[],_,_=>rfl
 |d::l,m,b=>Zhb t l m _
theorem Zhc {l:List (Int×ByteArray)} {t:Int} {b:ByteArray} {k:Nat} (hk:k<=l.length) (h1:∀j (h:j<l.length),k<=j->t<l[j].1) (h2:∀(h0:0<k),(l[k-1]'(by omega)).1<=t):atV b l t=if h0:0<k then(l[k-1]'(by omega)).2 else b:=by
 have hd:∀c∈l.drop k,t<c.1:=by
  intro c hc;obtain⟨i,hi,rfl⟩:=List.getElem_of_mem hc;rw[List.getElem_drop];exact h1 _ _ (by omega)
 conv=>lhs;rw[<-List.take_append_drop k l]
 rw[Zhb,Zc7 t _ _ hd];by_cases h0:0<k
 ·rw[dif_pos h0]
  have e:l.take k=l.take (k-1)++[l[k-1]'(by omega)]:=by
   have:=List.take_succ_eq_append_getElem (show k-1<l.length by omega)
   rwa [show k-1+1=k by omega] at this
  rw[e,Z5h,if_pos (h2 h0)]
 ·rw[dif_neg h0,show k=0 by omega,List.take_zero];rfl
def smp (f t k:Int) (b:ByteArray) (l:List (Int×ByteArray)):List (Int×ByteArray):=(ms f t k).map (λx=>(x,atV b l x))
theorem Z6a (f t k:Int) (b:ByteArray) (l:List (Int×ByteArray)):(smp f t k b l).length=(nM f t k).toNat:=by unfold smp;rw[List.length_map,Zc6]
theorem Zc8 {x k:Int} (hk:1<=k) (h:0<=x):(x % k=0/\x=upM (x-1) k*k/\upM x k=upM (x-1) k+1)\/(x % k≠0/\upM x k=upM (x-1) k):=by
 have h1:=Int.emod_add_mul_ediv x k;have h2:=Int.emod_nonneg x (show k≠0 by omega);have h3:=Int.emod_lt_of_pos x (show 0<k by omega);obtain⟨q,hq⟩:∃q,x/k=q:=⟨_,rfl⟩;obtain⟨m,hm⟩:∃m,x % k=m:=⟨_,rfl⟩;rw[hq,hm] at h1;rw[hm] at h2 h3;have xg:0<=q:=(by rw[<-hq];exact Int.ediv_nonneg h (by omega));have hx:upM x k=q+1:=(by unfold upM;rw[if_pos h,hq]);rw[hx,hm];by_cases gh:m=0
 ·left
  have hu:upM (x-1) k=q:=by
   unfold upM;split
   ·have e:x-1=(k-1)+k*(q-1):=(by rw[Int.mul_sub,Int.mul_one];omega);rw[e,Int.add_mul_ediv_left _ _ (show k≠0 by omega),Int.ediv_eq_zero_of_lt (by omega) (by omega)];omega
   ·have h0:x=0:=(by omega);rw[h0] at hq;rw[<-hq];simp
  rw[hu];exact⟨gh,by rw[Int.mul_comm];omega,rfl⟩
 ·right;refine⟨gh,?_⟩;unfold upM
  have gS:0<x:=by
   rcases Int.lt_or_eq_of_le h with h|h
   ·exact h
   ·rw[<-h] at hm;simp at hm;omega
  rw[if_pos (by omega)];have e:x-1=(m-1)+k*q:=(by omega);rw[e,Int.add_mul_ediv_left _ _ (show k≠0 by omega),Int.ediv_eq_zero_of_lt (by omega) (by omega)];omega
end Wv.Sg
namespace Go.Proofs.YtchokmkfobandaaGreatDoor
open Go.RowKit Go.Proofs Wv Wv.Vi
theorem Z1a {w:World} {A:Option Addr} {l:List (Int×ByteArray)} (ha:At w A (cv l)) (k:Nat) (h:k<l.length):∃b o,A=some ⟨b,o,none⟩/\b<w.heap.size/\w.cell? ⟨b,o+k*2,none⟩=some (.int .i64 l[k].1)/\w.cell? ⟨b,o+k*2+1,none⟩=some (.string l[k].2):=by
 have hp:=Zku l k h;obtain⟨b,o,hA,ab,c0⟩:=ha.get (k*2) _ hp.1;obtain⟨b',o',nF,_,c1⟩:=ha.get (k*2+1) _ hp.2;rw[hA] at nF;injection nF with nF
 injection nF with h1 h2;subst h1;subst h2;exact⟨b,o,hA,ab,c0,c1⟩
open Wv.Bc Wv.Sn Wv.Sg
theorem Z86 (f t:Int) (w:World):
  Calls Tryz.prog 42 #[.int .i64 f,.int .i64 t] w λx w'=>x=.returned (.bool (itv f t))/\w=w':=by
 have HI:Hid (itv f t=(decide (-1<=f)&&decide (f<=t)&&decide (t<=1099511627776))):=h_ rfl;by_cases h1: -1<=f
 ·by_cases h2:f<=t
  ·by_cases h3:t<=1099511627776
   ·have HR:Hid (itv f t=true):=h_ (by rw[HI.o];simp[*]);go_enter Tryz.func42,Tryz.ntmps42;go_wp2;go_returns;exact⟨Z03 HR.o.symm,rfl⟩
   ·have HR:Hid (itv f t=false):=h_ (by rw[HI.o];simp[*]);go_enter Tryz.func42,Tryz.ntmps42;go_wp2;go_returns;exact⟨Z03 HR.o.symm,rfl⟩
  ·have HR:Hid (itv f t=false):=h_ (by rw[HI.o];simp[*]);go_enter Tryz.func42,Tryz.ntmps42;go_wp2;go_returns;exact⟨Z03 HR.o.symm,rfl⟩
 ·have HR:Hid (itv f t=false):=h_ (by rw[HI.o];simp[*]);go_enter Tryz.func42,Tryz.ntmps42;go_wp2;go_returns;exact⟨Z03 HR.o.symm,rfl⟩
theorem ZmA {w:World} {A:Option Addr} {b:ByteArray} {l:List (Int×ByteArray)} (ha:At w A (cv l)) (n cap:Nat) (hn:n=l.length) (bu:n<=9223372036854775807) (t:Int):
  Calls Tryz.prog 40 #[.string b,.slice A n cap,.int .i64 t] w λx w'=>x=.returned (.string (atV b l t))/\w=w':=by
 have Ha:=h_ ha;have Hn:=h_ hn;clear ha hn;go_enter Tryz.func40,Tryz.ntmps40;go_wp2;go_loopw [7,8] (λs5 s6 wr=>∃k:Nat,k<=n/\s6=.int .i64 (k:Int)/\s5=.string (atV b (l.take k) t)/\wr=w) (λ_ s6 _=>(n-intOf s6).toNat);case atStart=>exact⟨0,Nat.zero_le _,rfl,rfl,rfl⟩
 case round=>
  obtain⟨k,hk,rfl,rfl,rfl⟩:=hrel;by_cases ab:k<n
  ·have h1:k<l.length:=(by rw[<-Hn.o];exact ab);obtain⟨bA,oA,rfl,_,c0,c1⟩:=Z1a Ha.o k h1;have ax:l.take (k+1)=l.take k++[l[k]]:=List.take_succ_eq_append_getElem h1;have ak:=Z5h t (l.take k) b l[k];rw[<-ax] at ak;have bU:(0:Int)<=(k:Int):=(by omega);have gL:(k:Int)<(n:Int):=(by omega);obtain⟨⟨x,v⟩,hs⟩:∃x,l[k]=x:=⟨_,rfl⟩;rw[hs] at c0 c1 ak;simp only at c0 c1 ak;generalize atV b (l.take k) t=V at*;have bd:=h_ ak;clear ax ak hs h1;by_cases hg:x<=t
   ·have Hx:Hid (atV b (l.take (k+1)) t=v):=h_ (by rw[bd.o,if_pos hg]);clear bd;go_wp2;refine⟨⟨k+1,ab,by go_num,by rw[Hx.o],(by first|trivial|rfl)⟩,?_⟩;simp[intOf]<;>omega
   ·have Hx:Hid (atV b (l.take (k+1)) t=V):=h_ (by rw[bd.o,if_neg hg]);clear bd;go_wp2;refine⟨⟨k+1,ab,by go_num,by rw[Hx.o],(by first|trivial|rfl)⟩,?_⟩;simp[intOf]<;>omega
  ·have ef:k=n:=(by omega);subst ef;have HR:Hid (atV b (l.take k) t=atV b l t):=h_ (by rw[List.take_of_length_le (by rw[Hn.o];exact Nat.le_refl _)]);go_wp2;go_returns;exact⟨Z4w HR.o,rfl⟩
def fewB (l:List (Int×ByteArray)) (m:Int):Bool:=l.all (λx=>decide ((x.2.size:Int)<=150))&&decide ((l.length:Int)<=m)
theorem ZjU {w : World} {A : Option Addr} {l : List (Int × ByteArray)} (ha : At w A (cv l)) (n cap : Nat) (hn : n = l.length) (bu : n <= 9223372036854775807) (m : Int) :
    Calls Tryz.prog 11 #[.slice A n cap,.int .i64 m] w λx w'=>x=.returned (.bool (fewB l m))/\w=w':=by
  have Ha:=h_ ha;have Hn:=h_ hn;have HS:Hid (fewB l m=(l.all (λx=>decide ((x.2.size:Int)<=150))&&decide ((n:Int)<=m))):=h_ (by rw[hn];rfl);clear ha hn;go_enter Tryz.func11,Tryz.ntmps11;go_wp2;go_loopw [5] (λs5 wr=>∃k:Nat,k<=n/\s5=.int .i64 (k:Int)/\Hid ((l.take k).all (λx=>decide ((x.2.size:Int)<=150))=true)/\wr=w) (λs5 _=>(n-intOf s5).toNat);case atStart=>exact⟨0,Nat.zero_le _,rfl,h_ rfl,rfl⟩
  case round=>
    obtain⟨k,hk,rfl,ar,rfl⟩:=hrel;by_cases ab:k<n
    · have h1:k<l.length:=by rw[<-Hn.o];exact ab
      obtain⟨bA,oA,rfl,_,c0,c1⟩:=Z1a Ha.o k h1;have ax:l.take (k+1)=l.take k++[l[k]]:=List.take_succ_eq_append_getElem h1;have gy:l[k]∈l:=List.getElem_mem _;have bU:(0:Int)<=(k:Int):=(by omega);have gL:(k:Int)<(n:Int):=(by omega);obtain⟨⟨t,a⟩,hs⟩:∃x,l[k]=x:=⟨_,rfl⟩;rw[hs] at c0 c1 ax gy;simp only at c0 c1;by_cases hg:(150:Int)<(a.size:Int)
      · have HR : Hid (fewB l m = false) := h_ (by
          rw[HS.o,Bool.and_eq_false_iff];left;rw[List.all_eq_false];exact⟨_,gy,by simp;omega⟩)
        clear ax gy ar h1 hs;go_wp2;go_returns;exact⟨Z03 HR.o.symm,rfl⟩
      · have fU : Hid ((l.take (k + 1)).all (λx => decide ((x.2.size : Int) <= 150)) = true) := h_ (by
          rw[ax,List.all_append,ar.o];simp;omega)
        clear ax gy ar h1 hs;go_wp2;refine⟨⟨k+1,ab,by go_num,fU,(by first|trivial|rfl)⟩,?_⟩;simp[intOf]<;>omega
    · have ef:k=n:=by omega
      subst ef
      have HR:Hid (fewB l m=decide ((k:Int)<=m)):=h_ (by
        have h:=ar.o;rw[List.take_of_length_le (by rw[Hn.o];exact Nat.le_refl _)] at h;rw[HS.o,h,Bool.true_and])
      clear ar;go_wp2;go_returns;exact⟨Z03 HR.o.symm,rfl⟩
theorem Zhd (f t k:Int) (hf:I64 f) (ht:I64 t) (hk:I64 k) (w:World):
  Calls Tryz.prog 23 #[.int .i64 f,.int .i64 t,.int .i64 k] w λx w'=>x=.returned (.int .i64 (nM f t k))/\w=w':=by
 have HI:=h_ (λW=>Z86 f t W);have HN:Hid (nM f t k=if itv f t=false\/k<1 then-1 else if 4096<upM t k-upM f k then-1 else upM t k-upM f k):=h_ rfl;cases hit:itv f t with
 |false=>
  rw[hit] at HI;have HR:Hid (nM f t k= -1):=h_ (by rw[HN.o,if_pos (.inl hit)]);clear hit HN hf ht hk;go_enter Tryz.func23,Tryz.ntmps23;go_wp2_with fail;refine(HI.o _).mono ?_;rintro x w1 ⟨rfl,rfl⟩;go_wp2;go_returns;exact⟨Z0w HR.o.symm,rfl⟩
 |true=>
  rw[hit] at HI;obtain⟨f0,ft,t9⟩:=Z1d.1 hit;by_cases aP:k<1
  ·have HR:Hid (nM f t k= -1):=h_ (by rw[HN.o,if_pos (.inr aP)]);clear hit HN hf ht hk;go_enter Tryz.func23,Tryz.ntmps23;go_wp2_with fail;refine(HI.o _).mono ?_;rintro x w1 ⟨rfl,rfl⟩;go_wp2;go_returns;exact⟨Z0w HR.o.symm,rfl⟩
  ·have HR:Hid (nM f t k=if 4096<upM t k-upM f k then-1 else upM t k-upM f k):=h_ (by rw[HN.o,if_neg (by simp[hit];omega)]);have bU:¬k=0:=(by omega);have qI:0<k:=(by omega);clear hit HN hk;have bt:0<=t->0<=t/k/\t/k<=t:=λh=>⟨Int.ediv_nonneg h (by omega),Int.ediv_le_self k h⟩;have bf:0<=f->0<=f/k/\f/k<=f:=λh=>⟨Int.ediv_nonneg h (by omega),Int.ediv_le_self k h⟩;by_cases gg:0<=f
   ·have iB:0<=t:=(by omega);obtain⟨b1,b2⟩:=bt iB;obtain⟨b3,b4⟩:=bf gg;have HU:Hid (upM t k=t/k+1/\upM f k=f/k+1):=h_ ⟨by unfold upM;rw[if_pos iB],by unfold upM;rw[if_pos gg]⟩;have d1:t.tdiv k=t/k:=Int.tdiv_eq_ediv_of_nonneg iB;have d2:f.tdiv k=f/k:=Int.tdiv_eq_ediv_of_nonneg gg;obtain⟨X,hX⟩:∃X,t/k=X:=⟨_,rfl⟩;obtain⟨Y,hY⟩:∃Y,f/k=Y:=⟨_,rfl⟩;have i1:IntKind.i64.wrap X=X:=(by rw[IntWalk.i64_in _ (by omega)]);have i2:IntKind.i64.wrap Y=Y:=(by rw[IntWalk.i64_in _ (by omega)]);have i3:IntKind.i64.wrap (X+1)=X+1:=(by rw[IntWalk.i64_in _ (by omega)]);have i4:IntKind.i64.wrap (Y+1)=Y+1:=(by rw[IntWalk.i64_in _ (by omega)]);have i5:IntKind.i64.wrap (X+1-(Y+1))=X+1-(Y+1):=(by rw[IntWalk.i64_in _ (by omega)]);clear bt bf;by_cases h4:4096<X+1-(Y+1)
    ·have aV:Hid (nM f t k= -1):=h_ (by rw[HR.o,HU.o.1,HU.o.2,hX,hY,if_pos h4]);clear HU HR;go_enter Tryz.func23,Tryz.ntmps23;go_wp2_with fail;refine(HI.o _).mono ?_;rintro x w1 ⟨rfl,rfl⟩;go_wp2;go_returns;exact⟨Z0w aV.o.symm,rfl⟩
    ·have aV:Hid (nM f t k=X+1-(Y+1)):=h_ (by rw[HR.o,HU.o.1,HU.o.2,hX,hY,if_neg h4]);clear HU HR;go_enter Tryz.func23,Tryz.ntmps23;go_wp2_with fail;refine(HI.o _).mono ?_;rintro x w1 ⟨rfl,rfl⟩;go_wp2;go_returns;exact⟨Z0w aV.o.symm,rfl⟩
   ·have Eb:upM f k=0:=(by unfold upM;rw[if_neg gg]);by_cases iB:0<=t
    ·obtain⟨b1,b2⟩:=bt iB;have HU:Hid (upM t k=t/k+1/\upM f k=0):=h_ ⟨by unfold upM;rw[if_pos iB],Eb⟩;have d1:t.tdiv k=t/k:=Int.tdiv_eq_ediv_of_nonneg iB;obtain⟨X,hX⟩:∃X,t/k=X:=⟨_,rfl⟩;have i1:IntKind.i64.wrap X=X:=(by rw[IntWalk.i64_in _ (by omega)]);have i3:IntKind.i64.wrap (X+1)=X+1:=(by rw[IntWalk.i64_in _ (by omega)]);clear bt bf Eb;by_cases h4:4096<X+1
     ·have aV:Hid (nM f t k= -1):=h_ (by rw[HR.o,HU.o.1,HU.o.2,hX,if_pos (by omega)]);clear HU HR;go_enter Tryz.func23,Tryz.ntmps23;go_wp2_with fail;refine(HI.o _).mono ?_;rintro x w1 ⟨rfl,rfl⟩;go_wp2;go_returns;exact⟨Z0w aV.o.symm,rfl⟩
     ·have aV:Hid (nM f t k=X+1):=h_ (by rw[HR.o,HU.o.1,HU.o.2,hX,if_neg (by omega)];omega);clear HU HR;go_enter Tryz.func23,Tryz.ntmps23;go_wp2_with fail;refine(HI.o _).mono ?_;rintro x w1 ⟨rfl,rfl⟩;go_wp2;go_returns;exact⟨Z0w aV.o.symm,rfl⟩
    ·have aV:Hid (nM f t k=0):=h_ (by
      have Tj:upM t k=0:=(by unfold upM;rw[if_neg iB]);rw[HR.o,Tj,Eb,if_neg (by omega)];omega)
     clear bt bf Eb HR;go_enter Tryz.func23,Tryz.ntmps23;go_wp2_with fail;refine(HI.o _).mono ?_;rintro x w1 ⟨rfl,rfl⟩;go_wp2;go_returns;exact⟨Z0w aV.o.symm,rfl⟩
theorem Zog:(Tryz.prog.info? 33).map (λi=>(i.zero,i.size,i.bytes))=some (some (.agg #[.int .i64 0,.string ByteArray.empty]),2,24):=by kernel_rfl
def ChR (w:World) (v:Value) (l:List (Int×ByteArray)):Prop:=∃A cap,v=.slice A l.length cap/\At w A (cv l)
theorem ChR.nil (w:World):ChR w (.slice none 0 0) []:=⟨none,0,rfl,At.nil _ _⟩
theorem ZmB (l:List (Int×ByteArray)) (c:Int×ByteArray):cv (l++[c])=cv l++[.int .i64 c.1,.string c.2]:=by unfold cv;rw[List.flatMap_append];rfl
theorem Z6b {w:World} {base e:Nat} {v:Value} {l:List (Int×ByteArray)} (h:w.ownsRow base e 2 v l.length (cv l)):ChR w v l:=by
 obtain⟨A,cap,hv,ha⟩:=Z0q h;exact⟨A,cap,hv,ha⟩
theorem Zhe (e:TypeId) (w:World):(w.alloc (.cells #[] e)).ownsRow w.heap.size e 2 (.slice (some ⟨w.heap.size,0,none⟩) 0 0) 0 []:=
 World.ownsRow_made w #[] 0 (Nat.le_refl _) (by unfold maxLen;omega) rfl
theorem Z2r {W:World} {B:Nat} {v:Value} {k:Nat} {l:List (Int×ByteArray)} {wb:World} (h:W.ownsRow B 33 2 v k (cv l)) (hf:Below B wb W) (hB:B<=W.heap.size) (hk:k<=1000000) (c:Int×ByteArray):
  ∃v' W',(Builtin.append_ #[24,24] 24 #[v,.slice (some ⟨W.heap.size,0,none⟩) 1 1]).run Tryz.prog (W.alloc (.cells #[.int .i64 c.1,.string c.2] 33))=.ok v' W'/\W'.ownsRow B 33 2 v' (k+1) (cv (l++[c]))/\Below B wb W':=by
 obtain⟨v',w4,ag,af,aG,_⟩:=Z7r (P:=Tryz.prog) 24 33 _ _ 2 Tryz.underlying24 Zog rfl (by decide) (w:=W) h hf hB [.int .i64 c.1,.string c.2] rfl (by
  intro y hy;simp at hy;rcases hy with rfl|rfl<;>rfl) (by unfold maxLen;omega) (by omega)
 rw[<-ZmB] at af;exact⟨v',w4,ag,af,aG⟩
theorem ZjV {f t k:Int} {b:ByteArray} {l:List (Int×ByteArray)} {i:Nat} (h:i<(smp f t k b l).length):∃x,x=fstM f k+i*k/\f<x/\x<=t/\(smp f t k b l).take (i+1)=(smp f t k b l).take i++[(x,atV b l x)]:=by
 have hm:i<(ms f t k).length:=(by unfold smp at h;rwa [List.length_map] at h);have aX:=Zof (List.getElem_mem hm);have hg:=Z70 f t k i hm;refine⟨_,hg,aX.2.1,aX.2.2.1,?_⟩;rw[List.take_succ_eq_append_getElem h];simp only[smp,List.getElem_map]
theorem ZaO {w:World} {A:Option Addr} {b:ByteArray} {l:List (Int×ByteArray)} (ha:At w A (cv l)) (n cap:Nat) (hn:n=l.length) (bu:n<=9223372036854775807) (f t k:Int) (hf:I64 f) (ht:I64 t) (hk:I64 k):
  Calls Tryz.prog 21 #[.int .i64 f,.int .i64 t,.int .i64 k,.string b,.slice A n cap] w λx w'=>∃v,x=.returned v/\ChR w' v (smp f t k b l)/\Below w.heap.size w w':=by
 have HM:=h_ (λW=>Zhd f t k hf ht hk W);have HA:=h_ (λW (hb:Below w.heap.size w W) x=>ZmA (b:=b) (ha.below hb) n cap hn bu x);have HS:=h_ (λi h=>ZjV (f:=f) (t:=t) (k:=k) (b:=b) (l:=l) (i:=i) h);have HL:Hid ((smp f t k b l).length=(nM f t k).toNat):=h_ (Z6a f t k b l);have Tk:=Zmz f t k
 have Tl: -1<=nM f t k:=by
  unfold nM;split
  ·omega
  ·split
   ·omega
   ·rename_i h1 h2;have hit:itv f t=true:=(by cases hb:itv f t<;>simp_all);have:=Z4o (k:=k) (by omega) (Z1d.1 hit).2.1;omega
 have bR:0<nM f t k->itv f t=true/\1<=k:=λh=>by
  unfold nM at h;split at h
  ·omega
  ·rename_i h1;exact⟨by cases hb:itv f t<;>simp_all,by omega⟩
 have C6:Hid (fstM f k=upM f k*k):=h_ rfl;obtain⟨N,hN⟩:∃N,nM f t k=N:=⟨_,rfl⟩;rw[hN] at HM HL Tk Tl bR;have H0:=h_ (Zhe 33 w);have aI:=h_ ((Below.refl w.heap.size w).alloc (Nat.le_refl _) (.cells #[] 33));generalize smp f t k b l=R at*;clear hN ha hn hk
 -- where it starts
 have hF:∃F:Int,(0<N->F=upM f k/\0<=F/\F<=1099511627777)/\((0<N/\0<=f/\F=f/k+1/\f/k<=f/\0<=f/k/\0<k)\/(¬(0<N/\0<=f)/\F=0)):=by
  by_cases h0:0<N/\0<=f
  ·obtain⟨p1,p2⟩:=bR h0.1;have b1:=Int.ediv_nonneg h0.2 (show 0<=k by omega);have b2:=Int.ediv_le_self k h0.2;have b3:=(Z1d.1 p1).2;have hu:upM f k=f/k+1:=(by unfold upM;rw[if_pos h0.2]);exact⟨f/k+1,λ_=>⟨hu.symm,by omega,by omega⟩,.inl ⟨h0.1,h0.2,rfl,b2,b1,by omega⟩⟩
  ·refine⟨0,λh=>⟨?_,by omega,by omega⟩,.inr ⟨h0,rfl⟩⟩;unfold upM;rw[if_neg (λh2=>h0 ⟨h,h2⟩)]
 obtain⟨F,ON,Tn⟩:=hF;have Jt:=h_ ON;have C7:=h_ bR;clear ON bR;have fin:∀(W0:World),True:=λ_=>trivial;rcases Tn with ⟨n0,f0,lx,q1,q2,bU⟩|⟨qW,lx⟩
 ·have d2:f.tdiv k=f/k:=Int.tdiv_eq_ediv_of_nonneg f0;have Ec:¬k=0:=(by omega);obtain⟨Y,hY⟩:∃Y,f/k=Y:=⟨_,rfl⟩;have qU:=h_ lx;rw[hY] at q1 q2 qU;have i2:IntKind.i64.wrap Y=Y:=(by rw[IntWalk.i64_in _ (by have:=ht.2;have:=hf.2;omega)])
  have i4:IntKind.i64.wrap (Y+1)=F:=by
   have:=Jt.o n0;have:=qU.o;rw[IntWalk.i64_in _ (by omega)];omega
  clear hf ht lx fin;go_enter Tryz.func21,Tryz.ntmps21;go_wp2_with fail;refine(HM.o _).mono ?_;rintro x w1 ⟨rfl,rfl⟩;go_wp2;go_loopw [12,14] (λjD fX wr=>∃i:Nat,(i:Int)<=N/\fX=.int .i64 (i:Int)/\Hid (wr.ownsRow w.heap.size 33 2 jD i (cv (R.take i)))/\Hid (Below w.heap.size w wr)) (λ_ fX _=>(N-intOf fX).toNat);case atStart=>exact⟨0,by omega,rfl,H0,aI⟩
  case round=>
   clear H0 aI;obtain⟨i,hi,rfl,aa,hb⟩:=hrel;obtain⟨A5,M5,bk,rfl⟩:=Z0c aa.o;by_cases ab:(i:Int)<N
   ·have qY:i<R.length:=(by rw[HL.o];omega);obtain⟨x,hx,x1,x2,ax⟩:=HS.o i qY;obtain⟨e1,e2,e3⟩:=Jt.o n0;obtain⟨p1,p2⟩:=C7.o n0;have i5:IntKind.i64.wrap (F+(i:Int))=F+(i:Int):=(by rw[IntWalk.i64_in _ (by omega)]);have kJ:(F+(i:Int))*k=x:=(by rw[Int.add_mul,hx,C6.o,e1]);have i6:IntKind.i64.wrap x=x:=(by rw[IntWalk.i64_in _ (by have:=(Z1d.1 p1);omega)]);have Ju:=h_ (HA.o wr hb.o x);have HC:=h_ (λ(W:World) (h1:W.ownsRow w.heap.size 33 2 (.slice A5 M5 bk) i (cv (R.take i))) (h2:Below w.heap.size w W)=>Z2r h1 h2 h2.size (by omega) (x,atV b l x));have fD:=h_ ax;have nG:Hid ((i:Int)+1<=N):=h_ ab;have ji:(0:Int)<=(i:Int):=(by omega);generalize atV b l x=V at*;clear hx x1 x2 ax e1 e2 e3 p1 p2 qY;go_wp2_with fail;refine(Ju.o).mono ?_;rintro y w2 ⟨rfl,rfl⟩;obtain⟨v',W',ag,af,aG⟩:=HC.o wr aa.o hb.o;rw[<-fD.o] at af;have ao:=h_ ag;have az:=h_ af;have cQ:=h_ aG;clear ag af aG HC aa hb
    go_wp2_with (
     at_builtin;refine Z04 (by with_reducible rfl) rfl _ _ _ rfl _ _ (by rfl) (by rfl) ao.o ?_)
    refine⟨⟨i+1,nG.o,by go_num,az,cQ⟩,?_⟩;have:=nG.o;simp[intOf]<;>omega
   ·have kI:(i:Int)=N:=by omega
    have aV:Hid (ChR wr (.slice A5 M5 bk) R):=h_ (by
     have h:=aa.o;have hl:R.length=i:=(by rw[HL.o];omega);rw[List.take_of_length_le (by omega)] at h;exact Z6b (by rw[hl];exact h))
    clear aa;go_wp2;go_returns;exact⟨_,rfl,aV.o,hb.o⟩
 ·subst lx;clear hf ht fin;by_cases n0:0<N
  ·have f0:¬0<=f:=λh=>qW ⟨n0,h⟩;go_enter Tryz.func21,Tryz.ntmps21;go_wp2_with fail;refine(HM.o _).mono ?_;rintro x w1 ⟨rfl,rfl⟩;go_wp2;go_loopw [12,14] (λjD fX wr=>∃i:Nat,(i:Int)<=N/\fX=.int .i64 (i:Int)/\Hid (wr.ownsRow w.heap.size 33 2 jD i (cv (R.take i)))/\Hid (Below w.heap.size w wr)) (λ_ fX _=>(N-intOf fX).toNat);case atStart=>exact⟨0,by omega,rfl,H0,aI⟩
   case round=>
    clear H0 aI;obtain⟨i,hi,rfl,aa,hb⟩:=hrel;obtain⟨A5,M5,bk,rfl⟩:=Z0c aa.o;by_cases ab:(i:Int)<N
    ·have qY:i<R.length:=(by rw[HL.o];omega);obtain⟨x,hx,x1,x2,ax⟩:=HS.o i qY;obtain⟨e1,e2,e3⟩:=Jt.o n0;obtain⟨p1,p2⟩:=C7.o n0;have i5:IntKind.i64.wrap (i:Int)=(i:Int):=(by rw[IntWalk.i64_in _ (by omega)]);have kJ:(i:Int)*k=x:=(by rw[hx,C6.o,<-e1];omega);have i6:IntKind.i64.wrap x=x:=(by rw[IntWalk.i64_in _ (by have:=(Z1d.1 p1);omega)]);have Ju:=h_ (HA.o wr hb.o x);have HC:=h_ (λ(W:World) (h1:W.ownsRow w.heap.size 33 2 (.slice A5 M5 bk) i (cv (R.take i))) (h2:Below w.heap.size w W)=>Z2r h1 h2 h2.size (by omega) (x,atV b l x));have fD:=h_ ax;have nG:Hid ((i:Int)+1<=N):=h_ ab;have ji:(0:Int)<=(i:Int):=(by omega);generalize atV b l x=V at*;clear hx x1 x2 ax e1 e2 e3 p1 p2 qY;go_wp2_with fail;refine(Ju.o).mono ?_;rintro y w2 ⟨rfl,rfl⟩;obtain⟨v',W',ag,af,aG⟩:=HC.o wr aa.o hb.o;rw[<-fD.o] at af;have ao:=h_ ag;have az:=h_ af;have cQ:=h_ aG;clear ag af aG HC aa hb
     go_wp2_with (
      at_builtin;refine Z04 (by with_reducible rfl) rfl _ _ _ rfl _ _ (by rfl) (by rfl) ao.o ?_)
     refine⟨⟨i+1,nG.o,by go_num,az,cQ⟩,?_⟩;have:=nG.o;simp[intOf]<;>omega
    ·have kI:(i:Int)=N:=by omega
     have aV:Hid (ChR wr (.slice A5 M5 bk) R):=h_ (by
      have h:=aa.o;have hl:R.length=i:=(by rw[HL.o];omega);rw[List.take_of_length_le (by omega)] at h;exact Z6b (by rw[hl];exact h))
     clear aa;go_wp2;go_returns;exact⟨_,rfl,aV.o,hb.o⟩
  ·go_enter Tryz.func21,Tryz.ntmps21;go_wp2_with fail;refine(HM.o _).mono ?_;rintro x w1 ⟨rfl,rfl⟩;have xS:Hid (R=[]):=h_ (List.eq_nil_of_length_eq_zero (by rw[HL.o];omega));go_wp2;go_loopw [12,14] (λjD fX wr=>jD=.slice (some ⟨w.heap.size,0,none⟩) 0 0/\fX=.int .i64 0/\wr=w.alloc (.cells #[] 33)) (λ_ _ _=>0);case atStart=>exact⟨rfl,rfl,rfl⟩
   case round=>
    obtain⟨rfl,rfl,rfl⟩:=hrel
    have aV:Hid (ChR (w.alloc (.cells #[] 33)) (.slice (some ⟨w.heap.size,0,none⟩) 0 0) R):=h_ (by
     rw[xS.o];exact Z6b H0.o)
    go_wp2;go_returns;exact⟨_,rfl,aV.o,aI.o⟩
theorem ZmC:(Tryz.prog.info? 3).map (λi=>(i.zero,i.size,i.bytes))=some (some (.int .i64 0),1,8):=by kernel_rfl
def IvR (w:World) (v:Value) (l:List Int):Prop:=∃A cap,v=.slice A l.length cap/\At w A (l.map iv)
theorem IvR.nil (w:World):IvR w (.slice none 0 0) []:=⟨none,0,rfl,At.nil _ _⟩
theorem Zhf {w:World} {base e:Nat} {v:Value} {l:List Int} (h:w.ownsRow base e 1 v l.length (l.map iv)):IvR w v l:=by
 obtain⟨A,cap,hv,ha⟩:=Z0q h;exact⟨A,cap,hv,ha⟩
theorem Z87 {W:World} {B:Nat} {v:Value} {k:Nat} {l:List Int} {wb:World} (h:W.ownsRow B 3 1 v k (l.map iv)) (hf:Below B wb W) (hB:B<=W.heap.size) (hk:k<=1000000) (x:Int):
  ∃v' W',(Builtin.append_ #[31,31] 31 #[v,.slice (some ⟨W.heap.size,0,none⟩) 1 1]).run Tryz.prog (W.alloc (.cells #[.int .i64 x] 3))=.ok v' W'/\W'.ownsRow B 3 1 v' (k+1) ((l++[x]).map iv)/\Below B wb W':=by
 obtain⟨v',w4,ag,af,aG,_⟩:=Z1X (P:=Tryz.prog) 31 3 _ _ Tryz.underlying31 ZmC rfl (w:=W) h hf hB (.int .i64 x) rfl (by unfold maxLen;omega) (by omega);refine⟨v',w4,ag,?_,aG⟩;rw[List.map_append];exact af
theorem ZmD {f t k:Int} {i:Nat} (h:i<(ms f t k).length):∃x,x=fstM f k+i*k/\f<x/\x<=t/\(ms f t k).take (i+1)=(ms f t k).take i++[x]:=by
 have aX:=Zof (List.getElem_mem h);have hg:=Z70 f t k i h;exact⟨_,hg,aX.2.1,aX.2.2.1,List.take_succ_eq_append_getElem h⟩
theorem Zhg (f t k:Int) (hit:itv f t=true) (aP:1<=k) (hk:I64 k) (w:World):
  Calls Tryz.prog 39 #[.int .i64 f,.int .i64 t,.int .i64 k] w λx w'=>∃v,x=.returned (.tuple #[v,.bool (decide (0<=nM f t k))])/\IvR w' v (ms f t k)/\Below w.heap.size w w':=by
 obtain⟨i1,i2,i3⟩:=Z1d.1 hit;have jx:=ZaM aP i1;have jg:=ZaN aP hit
 have hN:nM f t k=if 4096<upM t k-upM f k then-1 else upM t k-upM f k:=by
  unfold nM;rw[if_neg (by simp[hit];omega)]
 have eN:=Zc6 f t k;have HS:=h_ (λi h=>ZmD (f:=f) (t:=t) (k:=k) (i:=i) h);have rv:=hk.2;have d1:(f+1).tmod k=(f+1) % k:=Int.tmod_eq_emod_of_nonneg (by omega);have r1:=Int.emod_nonneg (f+1) (show k≠0 by omega);have r2:=Int.emod_lt_of_pos (f+1) (show 0<k by omega);have j1:IntKind.i64.wrap (f+1)=f+1:=(by rw[IntWalk.i64_in _ (by omega)]);obtain⟨r,hr⟩:∃r,(f+1) % k=r:=⟨_,rfl⟩;obtain⟨F,hF⟩:∃F,fstM f k=F:=⟨_,rfl⟩;rw[hr] at d1 r1 r2 jx;rw[hF] at jx jg HS;generalize upM t k-upM f k=M at*;generalize nM f t k=N at*;generalize ms f t k=R at*;have Ec:¬k=0:=(by omega);have qI:0<k:=(by omega);have j2:IntKind.i64.wrap r=r:=(by rw[IntWalk.i64_in _ (by omega)]);have j3:IntKind.i64.wrap (k-r)=k-r:=(by rw[IntWalk.i64_in _ (by omega)]);have j4:IntKind.i64.wrap (t-(f+1))=t-(f+1):=(by rw[IntWalk.i64_in _ (by omega)]);clear hF hk hit;by_cases xW:t<F
 ·have hM:M=0:=by rcases jg with ⟨_,h⟩|⟨h,_⟩;exact h;omega
  have gm:N=0:=(by rw[hN,hM];rfl);have HR:Hid (R=[]):=h_ (List.eq_nil_of_length_eq_zero (by rw[eN,gm];rfl));have HD:Hid (decide (0<=N)=true):=h_ (by rw[gm];decide);rcases jx with ⟨h0,lx⟩|⟨h0,lx⟩
  ·subst h0;have sB:t<f+1:=(by omega);clear hr hN jg hM gm eN HS lx xW;go_enter Tryz.func39,Tryz.ntmps39;go_wp2;go_returns;exact⟨_,by rw[HD.o];rfl,by rw[HR.o];exact IvR.nil _,Below.refl _ _⟩
  ·have sB:t-(f+1)<k-r:=(by omega);clear hr hN jg hM gm eN HS lx xW;go_enter Tryz.func39,Tryz.ntmps39;go_wp2;go_returns;exact⟨_,by rw[HD.o];rfl,by rw[HR.o];exact IvR.nil _,Below.refl _ _⟩
 ·rcases jx with ⟨h0,lx⟩|⟨h0,lx⟩
  ·subst h0;subst lx;have Jv:(f+1)<=t:=(by omega);obtain⟨q,hq⟩:∃q,(t-(f+1))/k=q:=⟨_,rfl⟩;have wB:M=q+1:=by rcases jg with ⟨h,_⟩|⟨_,h⟩;omega;rw[<-h,hq]
   have q0:0<=q:=(by rw[<-hq];exact Int.ediv_nonneg (by omega) (by omega));have q1:q<=t-(f+1):=(by rw[<-hq];exact Int.ediv_le_self k (by omega));have d2:(t-(f+1)).tdiv k=q:=(by rw[Int.tdiv_eq_ediv_of_nonneg (by omega)];exact hq);have j6:IntKind.i64.wrap (t-(f+1))=t-(f+1):=(by rw[IntWalk.i64_in _ (by omega)]);have j7:IntKind.i64.wrap q=q:=(by rw[IntWalk.i64_in _ (by omega)]);have j8:IntKind.i64.wrap (q+1)=q+1:=(by rw[IntWalk.i64_in _ (by omega)]);have sB:¬t<(f+1):=(by omega);by_cases h4:4096<=q
   ·have gm:N= -1:=(by rw[hN,if_pos (by omega)]);have HR:Hid (R=[]):=h_ (List.eq_nil_of_length_eq_zero (by rw[eN,gm];rfl));have HD:Hid (decide (0<=N)=false):=h_ (by rw[gm];decide);clear hr hN jg wB gm eN HS xW hq;go_enter Tryz.func39,Tryz.ntmps39;go_wp2;go_returns;exact⟨_,by rw[HD.o];rfl,by rw[HR.o];exact IvR.nil _,Below.refl _ _⟩
   ·have gm:N=q+1:=(by rw[hN,if_neg (by omega)];exact wB);have HL:Hid ((R.length:Int)=q+1):=h_ (by rw[eN,gm];omega);have HD:Hid (decide (0<=N)=true):=h_ (by rw[gm];exact decide_eq_true (by omega));have aA:=h_ (Below.refl w.heap.size w);have jO:Hid (w.ownsRow w.heap.size 3 1 (.slice none 0 0) 0 ((R.take 0).map iv)):=h_ (by rw[List.take_zero];exact Z0p);clear hr hN jg wB gm eN xW hq;go_enter Tryz.func39,Tryz.ntmps39;go_wp2;go_loopw [10,46] (λkG qk wr=>∃i:Nat,(i:Int)<=q+1/\qk=.int .i64 (i:Int)/\Hid (wr.ownsRow w.heap.size 3 1 kG i ((R.take i).map iv))/\Hid (Below w.heap.size w wr)) (λ_ qk _=>(q+1-intOf qk).toNat);case atStart=>exact⟨0,by omega,rfl,jO,aA⟩
    case round=>
     clear jO aA;obtain⟨i,hi,rfl,aa,hb⟩:=hrel;obtain⟨A5,M5,bk,rfl⟩:=Z0c aa.o;by_cases ab:(i:Int)<q+1
     ·obtain⟨x,hx,x1,x2,ax⟩:=HS.o i (by have:=HL.o;omega);obtain⟨P,hP⟩:∃P,(i:Int)*k=P:=⟨_,rfl⟩;rw[hP] at hx;have n6:0<=P:=(by rw[<-hP];exact Int.mul_nonneg (by omega) (by omega));have j9:IntKind.i64.wrap P=P:=(by rw[IntWalk.i64_in _ (by omega)]);have To:(f+1)+P=x:=hx.symm;have Tp:IntKind.i64.wrap x=x:=(by rw[IntWalk.i64_in _ (by omega)]);obtain⟨v',W',ag,af,aG⟩:=Z87 aa.o hb.o hb.o.size (by omega) x;rw[<-ax] at af;have ao:=h_ ag;have az:=h_ af;have cQ:=h_ aG;have nG:Hid ((i:Int)+1<=q+1):=h_ ab;clear hx x1 x2 ax ag af aG aa hb n6
      go_wp2_with (
       at_builtin;refine Z04 (by with_reducible rfl) rfl _ _ _ rfl _ _ (by rfl) (by rfl) ao.o ?_)
      refine⟨⟨i+1,nG.o,by go_num,az,cQ⟩,?_⟩;have:=nG.o;simp[intOf]<;>omega
     ·have aV:Hid (IvR wr (.slice A5 M5 bk) R):=h_ (by
       have h:=aa.o;have hl:R.length=i:=(by have:=HL.o;omega);rw[List.take_of_length_le (by omega)] at h;exact Zhf (by rw[hl];exact h))
      clear aa;go_wp2;go_returns;exact⟨_,by rw[HD.o];rfl,aV.o,hb.o⟩
  ·have j5:IntKind.i64.wrap (f+1+(k-r))=F:=(by rw[IntWalk.i64_in _ (by omega)];omega);have Tq:¬t-(f+1)<k-r:=(by omega);have Va:f+1<=F:=(by omega);have Jv:F<=t:=(by omega);obtain⟨q,hq⟩:∃q,(t-F)/k=q:=⟨_,rfl⟩;have wB:M=q+1:=by rcases jg with ⟨h,_⟩|⟨_,h⟩;omega;rw[<-h,hq]
   have q0:0<=q:=(by rw[<-hq];exact Int.ediv_nonneg (by omega) (by omega));have q1:q<=t-F:=(by rw[<-hq];exact Int.ediv_le_self k (by omega));have d2:(t-F).tdiv k=q:=(by rw[Int.tdiv_eq_ediv_of_nonneg (by omega)];exact hq);have j6:IntKind.i64.wrap (t-F)=t-F:=(by rw[IntWalk.i64_in _ (by omega)]);have j7:IntKind.i64.wrap q=q:=(by rw[IntWalk.i64_in _ (by omega)]);have j8:IntKind.i64.wrap (q+1)=q+1:=(by rw[IntWalk.i64_in _ (by omega)]);have sB:¬t<F:=(by omega);by_cases h4:4096<=q
   ·have gm:N= -1:=(by rw[hN,if_pos (by omega)]);have HR:Hid (R=[]):=h_ (List.eq_nil_of_length_eq_zero (by rw[eN,gm];rfl));have HD:Hid (decide (0<=N)=false):=h_ (by rw[gm];decide);clear hr hN jg wB gm eN HS xW hq lx;go_enter Tryz.func39,Tryz.ntmps39;go_wp2;go_returns;exact⟨_,by rw[HD.o];rfl,by rw[HR.o];exact IvR.nil _,Below.refl _ _⟩
   ·have gm:N=q+1:=(by rw[hN,if_neg (by omega)];exact wB);have HL:Hid ((R.length:Int)=q+1):=h_ (by rw[eN,gm];omega);have HD:Hid (decide (0<=N)=true):=h_ (by rw[gm];exact decide_eq_true (by omega));have aA:=h_ (Below.refl w.heap.size w);have jO:Hid (w.ownsRow w.heap.size 3 1 (.slice none 0 0) 0 ((R.take 0).map iv)):=h_ (by rw[List.take_zero];exact Z0p);clear hr hN jg wB gm eN xW hq lx;go_enter Tryz.func39,Tryz.ntmps39;go_wp2;go_loopw [10,46] (λkG qk wr=>∃i:Nat,(i:Int)<=q+1/\qk=.int .i64 (i:Int)/\Hid (wr.ownsRow w.heap.size 3 1 kG i ((R.take i).map iv))/\Hid (Below w.heap.size w wr)) (λ_ qk _=>(q+1-intOf qk).toNat);case atStart=>exact⟨0,by omega,rfl,jO,aA⟩
    case round=>
     clear jO aA;obtain⟨i,hi,rfl,aa,hb⟩:=hrel;obtain⟨A5,M5,bk,rfl⟩:=Z0c aa.o;by_cases ab:(i:Int)<q+1
     ·obtain⟨x,hx,x1,x2,ax⟩:=HS.o i (by have:=HL.o;omega);obtain⟨P,hP⟩:∃P,(i:Int)*k=P:=⟨_,rfl⟩;rw[hP] at hx;have n6:0<=P:=(by rw[<-hP];exact Int.mul_nonneg (by omega) (by omega));have j9:IntKind.i64.wrap P=P:=(by rw[IntWalk.i64_in _ (by omega)]);have To:F+P=x:=hx.symm;have Tp:IntKind.i64.wrap x=x:=(by rw[IntWalk.i64_in _ (by omega)]);obtain⟨v',W',ag,af,aG⟩:=Z87 aa.o hb.o hb.o.size (by omega) x;rw[<-ax] at af;have ao:=h_ ag;have az:=h_ af;have cQ:=h_ aG;have nG:Hid ((i:Int)+1<=q+1):=h_ ab;clear hx x1 x2 ax ag af aG aa hb n6
      go_wp2_with (
       at_builtin;refine Z04 (by with_reducible rfl) rfl _ _ _ rfl _ _ (by rfl) (by rfl) ao.o ?_)
      refine⟨⟨i+1,nG.o,by go_num,az,cQ⟩,?_⟩;have:=nG.o;simp[intOf]<;>omega
     ·have aV:Hid (IvR wr (.slice A5 M5 bk) R):=h_ (by
       have h:=aa.o;have hl:R.length=i:=(by have:=HL.o;omega);rw[List.take_of_length_le (by omega)] at h;exact Zhf (by rw[hl];exact h))
      clear aa;go_wp2;go_returns;exact⟨_,by rw[HD.o];rfl,aV.o,hb.o⟩
end Go.Proofs.YtchokmkfobandaaGreatDoor
namespace Wv.Sg
open Wv.Vi Wv.Ru Wv.Bc Wv.Fm Wv.Lz Wv.Sn Wv.Tm Wv.Dc
open Go.Proofs.YtchokmkfobandaaGreatDoor
abbrev Chg:=Int×ByteArray
def rise (s:Int×Int) (t:Int):Int->ByteArray->List Chg->Bool
 |_,_,[]=>true
 |a,b,c::l=>decide (a<c.1)&&decide (c.1<=t)&&vaB Z0u s (toL c.2)&&(decide (s.1=3)|| !decide (c.2=b))&&rise s t c.1 c.2 l
theorem Z3h {s:Int×Int} {t a:Int} {b:ByteArray} {c:Chg} {l:List Chg} :rise s t a b (c::l)=true↔a<c.1/\c.1<=t/\vaB Z0u s (toL c.2)=true/\(s.1=3\/c.2≠b)/\rise s t c.1 c.2 l=true:=by
 show(decide _&&decide _&&_&&_&&_)=true↔_;simp only[Bool.and_eq_true,decide_eq_true_iff,Bool.or_eq_true,Bool.not_eq_true',decide_eq_false_iff_not,and_assoc]
def sgV (s:Int×Int) (f t:Int) (b:ByteArray) (l:List Chg):Bool:=tyB s&&itv f t&&vaB Z0u s (toL b)&&decide (l.length<=4096)&&rise s t f b l
theorem Z24 {s:Int×Int} {f t:Int} {b:ByteArray} {l:List Chg} :sgV s f t b l=true↔tyB s=true/\itv f t=true/\vaB Z0u s (toL b)=true/\l.length<=4096/\rise s t f b l=true:=by
 unfold sgV;simp only[Bool.and_eq_true,decide_eq_true_iff,and_assoc]
theorem ZmE {s:Int×Int} {f t:Int} {b:ByteArray} {l:List Chg} (h:sgV s f t b l=true):sgV s f t b []=true:=by
 obtain⟨h1,h2,h3,_,_⟩:=Z24.1 h;exact Z24.2 ⟨h1,h2,h3,Nat.zero_le _,rfl⟩
def tms (f:Int) (l:List Chg):List Int:=l.map (λc=>c.1-(f+1))
theorem Zhh {s:Int×Int} {t f:Int} (ht:t-(f+1)<=1099511627776):∀ {l:List Chg} {a:Int} {b:ByteArray},rise s t a b l=true->tv (a-(f+1)) (tms f l)=true
 |[],_,_,_=>rfl
 |c::l,a,b,h=>by
  obtain⟨h1,h2,_,_,h5⟩:=Z3h.1 h;exact Z38.2 ⟨by show a-(f+1)<c.1-(f+1);omega,by show c.1-(f+1)<=_;omega,Zhh ht h5⟩
theorem Z3i {s:Int×Int} {t:Int} :∀ {l:List Chg} {a:Int} {b:ByteArray},rise s t a b l=true->∀c∈l,vaB Z0u s (toL c.2)=true
 |[],_,_,_,c,hc=>by cases hc
 |d::l,a,b,h,c,hc=>by
  obtain⟨_,_,h3,_,h5⟩:=Z3h.1 h;rcases List.mem_cons.1 hc with rfl|hc
  ·exact h3
  ·exact Z3i h5 c hc
theorem Z6c {s:Int×Int} {f t:Int} {b:ByteArray} {l:List Chg} (h:sgV s f t b l=true):Z0e (tms f l)=true:=by
 obtain⟨_,h2,_,h4,h5⟩:=Z24.1 h;obtain⟨i1,i2,i3⟩:=Z1d.1 h2;unfold Z0e;rw[Bool.and_eq_true,decide_eq_true_iff];refine⟨?_,by unfold tms;rw[List.length_map];exact h4⟩;have:=Zhh (f:=f) (by omega) h5
 rwa [show f-(f+1)= -1 by omega] at this
def zipC (f:Int) (ts:List Int) (vs:List ByteArray):List Chg:=List.zipWith (λx v=>(x+f+1,v)) ts vs
theorem Z9t (f:Int):∀l:List Chg,zipC f (tms f l) (l.map (·.2))=l
 |[]=>rfl
 |c::l=>by
  show(c.1-(f+1)+f+1,c.2)::zipC f (tms f l) (l.map (·.2))=c::l;rw[Z9t f l];congr 1;exact Prod.ext (by show c.1-(f+1)+f+1=c.1;omega) rfl
theorem Z71 (f:Int):∀(ts:List Int) (vs:List ByteArray),ts.length=vs.length->tms f (zipC f ts vs)=ts/\(zipC f ts vs).map (·.2)=vs
 |[],[],_=>⟨rfl,rfl⟩
 |[],_::_,h=>by simp at h
 |_::_,[],h=>by simp at h
 |x::ts,v::vs,h=>by
  obtain⟨h1,h2⟩:=Z71 f ts vs (by simpa using h);constructor
  ·show(x+f+1-(f+1))::tms f (zipC f ts vs)=x::ts;rw[h1,show x+f+1-(f+1)=x by omega]
  ·show v::(zipC f ts vs).map (·.2)=v::vs;rw[h2]
theorem Z2l (f:Int) (ts:List Int) (vs:List ByteArray) (h:ts.length=vs.length):(zipC f ts vs).length=ts.length:=by
 unfold zipC;rw[List.length_zipWith];omega
/-! ## Values -/
def fkd (s:Int×Int):Nat:=if s.1=0 then 2 else 3
def vlsE (s:Int×Int) (vs:List ByteArray):List UInt8×Nat:=if s.1=0 then Z12 s.2 vs else enc vs
def vlsD (s:Int×Int) (d:List UInt8) (most:Int):List ByteArray×Nat:=if s.1=0 then decB s.2 d most else dec d most
theorem Zhi {s:Int×Int} (h0:s.1=0) {v:List UInt8} (h:vaB Z0u s v=true):Bc.vld s.2 v=true:=by
 unfold vaB at h;rw[Bool.and_eq_true] at h;have h2:=h.2;unfold kvB at h2
 rwa [if_pos h0] at h2
theorem ZkM {s:Int×Int} (hs:tyB s=true) (h3:s.1≠3) {vs:List ByteArray} (hv:∀v∈vs,vaB Z0u s (toL v)=true) (hl:vs.length<=4096):(vlsE s vs).2=0/\∀most:Int,(vs.length:Int)<=most->vlsD s (vlsE s vs).1 most=(vs,0):=by
 unfold vlsE vlsD;by_cases h0:s.1=0
 ·obtain⟨w1,w2⟩:=ZbD hs h0;have hb:Z0z s.2 vs=true:=Z0A.2 ⟨λv h=>Zhi h0 (hv v h),w1,w2,hl⟩;obtain⟨c,x,_,_,he⟩:=Z4H hb;rw[if_pos h0];refine⟨by rw[he],λmost hm=> ?_⟩;rw[if_pos h0,Zjm hb,if_neg (by omega)]
 ·rw[if_neg h0]
  have hz:∀v∈vs,v.size<=128:=λv h=>by
   have:=(ZfL (hv v h)).2;rw[Z01] at this;exact this
  refine⟨by rw[Zg7 hl hz],λmost hm=> ?_⟩;rw[if_neg h0,Zal hl hz,if_neg (by omega)]
theorem Zdz {s:Int×Int} {d:List UInt8} {most:Int} {vs:List ByteArray} (h:vlsD s d most=(vs,0)):vlsE s vs=(d,0):=by
 unfold vlsE vlsD at*;by_cases h0:s.1=0
 ·rw[if_pos h0] at h⊢;rcases Z5V s.2 d most with ⟨_,h1⟩|⟨_,_,h1|h1⟩|⟨l,h1,h2,_⟩
  ·rw[h1] at h;cases h
  ·rw[h1] at h;cases h
  ·rw[h1] at h;cases h
  ·rw[h1] at h;injection h with h _;rw[<-h];exact h2
 ·rw[if_neg h0] at h⊢;rcases Z2x d most with (h1|h1)|⟨l,h1,h2,_⟩
  ·rw[h1] at h;cases h
  ·rw[h1] at h;cases h
  ·rw[h1] at h;injection h with h _;rw[<-h];exact h2
/-! ## Frames -/
def Z0N:List (Nat×List UInt8)->Option (List UInt8)
 |[]=>some []
 |p::r=>match Z0B p.1 p.2 with
  |none=>none
  |some w=>(Z0N r).map (w++·)
def ZaP:Nat->List UInt8->Option (List (Nat×List UInt8))
 |_,[]=>some []
 |0,_::_=>none
 |n+1,a::r=>match Z1y (a::r) with
  |none=>none
  |some (k,c,z)=>(ZaP n ((a::r).drop z)).map ((k,c)::·)
def unws (d:List UInt8):Option (List (Nat×List UInt8)):=ZaP d.length d
theorem Z3x {d c:List UInt8} {k n:Nat} (h:Z1y d=some (k,c,n)):1<=n/\n<=d.length:=by
 obtain⟨h1,_,h3⟩:=Z8T h;refine⟨?_,h3⟩;rcases Nat.eq_zero_or_pos n with h0|h0
 ·subst h0;rw[List.take_zero] at h1;exact absurd rfl (ZbE h1)
 ·exact h0
theorem Z72:∀(n m:Nat) (d:List UInt8),d.length<=n->d.length<=m->ZaP n d=ZaP m d
 |0,0,_,_,_=>rfl
 |0,m+1,d,h,_=>by
  have:d=[]:=List.eq_nil_of_length_eq_zero (by omega);subst this;rfl
 |n+1,0,d,_,h=>by
  have:d=[]:=List.eq_nil_of_length_eq_zero (by omega);subst this;rfl
 |n+1,m+1,[],_,_=>rfl
 |n+1,m+1,a::r,h1,h2=>by
  unfold ZaP;cases hf:Z1y (a::r) with
  |none=>rfl
  |some q=>
   obtain⟨k,c,z⟩:=q;obtain⟨p1,p2⟩:=Z3x hf;simp only;rw[Z72 n m ((a::r).drop z) (by rw[List.length_drop];omega) (by rw[List.length_drop];omega)]
theorem Zc9:unws []=some []:=rfl
theorem Zhj {d:List UInt8} (h:d≠[]) (h2:Z1y d=none):unws d=none:=by
 cases d with
 |nil=>exact absurd rfl h
 |cons a r=>
  unfold unws;rw[List.length_cons];unfold ZaP;rw[h2]
theorem Z6d {d c:List UInt8} {k n:Nat} (h:Z1y d=some (k,c,n)):unws d=(unws (d.drop n)).map ((k,c)::·):=by
 obtain⟨p1,p2⟩:=Z3x h;cases d with
 |nil=>simp at p2;omega
 |cons a r=>
  unfold unws;rw[List.length_cons];conv=>lhs;unfold ZaP
  rw[h];simp only;rw[Z72 r.length ((a::r).drop n).length ((a::r).drop n) (by rw[List.length_drop,List.length_cons];omega) (Nat.le_refl _)]
theorem Z73:∀ {l:List (Nat×List UInt8)} {d:List UInt8},(∀p∈l,p.1<16)->Z0N l=some d->unws d=some l
 |[],d,_,h=>by
  injection h with h;subst h;rfl
 |p::r,d,hk,h=>by
  unfold Z0N at h;cases hw:Z0B p.1 p.2 with
  |none=>rw[hw] at h;cases h
  |some w=>
   rw[hw] at h;simp only at h;cases hr:Z0N r with
   |none=>rw[hr] at h;cases h
   |some x=>
    rw[hr] at h;injection h with h;subst h;have hf:=Za8 (hk p List.mem_cons_self) hw x;rw[Z6d hf,List.drop_left,Z73 (λq hq=>hk q (List.mem_cons_of_mem _ hq)) hr];rfl
theorem Z4R:∀(n:Nat) {d:List UInt8} {l:List (Nat×List UInt8)},d.length<=n->unws d=some l->Z0N l=some d
 |n,[],l,_,h=>by
  rw[Zc9] at h;injection h with h;subst h;rfl
 |0,a::r,l,hn,_=>by simp at hn
 |n+1,a::r,l,hn,h=>by
  cases hf:Z1y (a::r) with
  |none=>rw[Zhj (by simp) hf] at h;cases h
  |some q=>
   obtain⟨k,c,z⟩:=q;obtain⟨p1,p2⟩:=Z3x hf;rw[Z6d hf] at h;cases hu:unws ((a::r).drop z) with
   |none=>rw[hu] at h;cases h
   |some m=>
    rw[hu] at h;injection h with h;subst h;have hw:=Z4R n (d:=(a::r).drop z) (by rw[List.length_drop];simp at hn p2⊢;omega) hu;obtain⟨h1,_,_⟩:=Z8T hf;unfold Z0N;simp only;rw[h1,hw];simp
def strm (l:List (Nat×List UInt8)):List UInt8×Nat:=match Z0N l with
 |none=>([],9)
 |some d=>if 4096<d.length then([],9) else(d,0)
theorem ZmF {l:List (Nat×List UInt8)} {d:List UInt8} (h:strm l=(d,0)):Z0N l=some d/\d.length<=4096:=by
 unfold strm at h;cases hw:Z0N l with
 |none=>rw[hw] at h;cases h
 |some x=>
  rw[hw] at h;simp only at h;split at h
  ·cases h
  ·injection h with h _;subst h;exact⟨rfl,by omega⟩
theorem ZdA (l:List (Nat×List UInt8)):strm l=([],9)\/∃d,strm l=(d,0):=by
 unfold strm;split
 ·exact .inl rfl
 ·split
  ·exact .inl rfl
  ·exact .inr ⟨_,rfl⟩
theorem Z88 {p:Nat×List UInt8} {r:List (Nat×List UInt8)} {d:List UInt8} (h:Z0N (p::r)=some d):d≠[]:=by
 unfold Z0N at h;cases hw:Z0B p.1 p.2 with
 |none=>rw[hw] at h;cases h
 |some w=>
  rw[hw] at h;simp only at h;cases hr:Z0N r with
  |none=>rw[hr] at h;cases h
  |some x=>
   rw[hr] at h;injection h with h;rw[<-h];have:=ZbE hw;intro h;exact this (List.append_eq_nil_iff.1 h).1
/-! ## Streams of changes -/
def frms (s:Int×Int) (f:Int) (l:List Chg):List (Nat×List UInt8):=(1,(encT (tms f l)).1)::if s.1=3 then[] else[(fkd s,(vlsE s (l.map (·.2))).1)]
def sgE (s:Int×Int) (f t:Int) (b:ByteArray) (l:List Chg):List UInt8×Nat:=if sgV s f t b l=false then([],1) else if l=[] then([],0) else strm (frms s f l)
def Z1D (s:Int×Int) (n:Nat) (r:List (Nat×List UInt8)):Option (List ByteArray):=if s.1=3 then(if r=[] then some (List.replicate n ⟨#[]⟩) else none) else match r with
 |[p]=>if p.1=fkd s/\(vlsD s p.2 n).2=0/\(vlsD s p.2 n).1.length=n then some (vlsD s p.2 n).1 else none
 |_=>none
def rdCh (s:Int×Int) (f:Int) (d:List UInt8):Option (List Chg):=match unws d with
 |some (p::r)=>if p.1=1/\(decT p.2 4096).2=0/\(decT p.2 4096).1≠[] then(Z1D s (decT p.2 4096).1.length r).map (zipC f (decT p.2 4096).1) else none
 |_=>none
def sgD (s:Int×Int) (f t:Int) (b:ByteArray) (d:List UInt8):List Chg×Nat:=if sgV s f t b []=false then([],1) else if d=[] then([],0) else if 4096<d.length then([],12) else match rdCh s f d with
 |none=>([],12)
 |some l=>if sgV s f t b l=true then(l,0) else([],12)
theorem Zhk {s:Int×Int} {f t:Int} {b:ByteArray} {l:List Chg} {d:List UInt8} (h:sgE s f t b l=(d,0)):sgV s f t b l=true/\((l=[]/\d=[])\/(l≠[]/\Z0N (frms s f l)=some d/\d.length<=4096)):=by
 unfold sgE at h;split at h
 ·cases h
 ·rename_i h1;refine⟨by simpa using h1,?_⟩;split at h
  ·rename_i h2;injection h with h _;exact .inl ⟨h2,h.symm⟩
  ·rename_i h2;exact .inr ⟨h2,ZmF h⟩
theorem ZjW {s:Int×Int} (h3:s.1=3) {v:ByteArray} (h:vaB Z0u s (toL v)=true):v=⟨#[]⟩:=by
 unfold vaB at h;rw[Bool.and_eq_true] at h;have h2:=h.2;unfold kvB at h2;rw[if_neg (by omega),if_neg (by omega),if_neg (by omega),decide_eq_true_iff] at h2;have:=Z09 v;rw[h2] at this;exact this.symm
theorem Zoh {s:Int×Int} {f t:Int} {b:ByteArray} {l:List Chg} {d:List UInt8} (h:sgE s f t b l=(d,0)):sgD s f t b d=(l,0):=by
 obtain⟨hv,hc⟩:=Zhk h;unfold sgD;rw[if_neg (by rw[ZmE hv];decide)];rcases hc with ⟨h1,h2⟩|⟨h1,h2,h3⟩
 ·rw[if_pos h2,h1]
 ·rw[if_neg (Z88 h2),if_neg (by omega)];obtain⟨v1,v2,v3,v4,v5⟩:=Z24.1 hv;have hT:=Z6c hv;obtain⟨c,_,_,hE⟩:=Z2z hT;have fw:(tms f l).length=l.length:=(by unfold tms;rw[List.length_map]);have hD:decT (encT (tms f l)).1 4096=(tms f l,0):=(by rw[Zjg hT,if_neg (by omega)])
  have hk:∀p∈frms s f l,p.1<16:=by
   intro p hp;unfold frms at hp;rcases List.mem_cons.1 hp with rfl|hp
   ·show(1:Nat)<16;decide
   ·split at hp
    ·cases hp
    ·rw[List.mem_singleton.1 hp];show fkd s<16;unfold fkd;split<;>decide
  have hu:=Z73 hk h2;have ay:tms f l≠[]:=λe=>h1 (List.eq_nil_of_length_eq_zero (by rw[<-fw,e];rfl))
  have hr:Z1D s (tms f l).length (if s.1=3 then[] else[(fkd s,(vlsE s (l.map (·.2))).1)])=some (l.map (·.2)):=by
   unfold Z1D;by_cases h3:s.1=3
   ·rw[if_pos h3,if_pos h3,if_pos rfl];congr 1;refine(List.eq_replicate_iff.2 ⟨by rw[List.length_map,fw],λv mW=> ?_⟩).symm;obtain⟨c,hc,rfl⟩:=List.mem_map.1 mW;exact ZjW h3 (Z3i v5 c hc)
   ·rw[if_neg h3,if_neg h3]
    obtain⟨_,e2⟩:=ZkM v1 h3 (vs:=l.map (·.2)) (λv mW=>by
     obtain⟨c,hc,rfl⟩:=List.mem_map.1 mW;exact Z3i v5 c hc) (by rw[List.length_map];exact v4)
    have e3:=e2 ((tms f l).length:Int) (by rw[List.length_map,fw];exact Int.le_refl _);simp only;rw[e3,if_pos ⟨by first|rfl|trivial,by first|rfl|trivial,by rw[List.length_map,fw]⟩]
  have hR:rdCh s f d=some l:=by
   unfold rdCh;rw[hu];unfold frms;simp only;rw[hD,if_pos ⟨by first|rfl|trivial,by first|rfl|trivial,ay⟩,hr];simp only[Option.map_some];rw[Z9t]
  rw[hR];simp only;rw[if_pos hv]
theorem Zoi {s:Int×Int} {f t:Int} {b:ByteArray} {l:List Chg} {d:List UInt8} (h:sgD s f t b d=(l,0)):sgE s f t b l=(d,0)/\sgV s f t b l=true:=by
 unfold sgD at h;split at h
 ·cases h
 ·rename_i h1;split at h
  ·rename_i h2;injection h with h _;subst h;have hv:sgV s f t b []=true:=(by simpa using h1);refine⟨?_,hv⟩;unfold sgE;rw[if_neg (by rw[hv];decide),if_pos rfl,h2]
  ·rename_i h2;split at h
   ·cases h
   ·rename_i h4;cases hR:rdCh s f d with
    |none=>rw[hR] at h;cases h
    |some l2=>
     rw[hR] at h;simp only at h;split at h
     ·rename_i hv;injection h with h _;subst h;refine⟨?_,hv⟩;obtain⟨v1,v2,v3,v4,v5⟩:=Z24.1 hv;unfold rdCh at hR;cases hu:unws d with
      |none=>rw[hu] at hR;cases hR
      |some fr=>
       rw[hu] at hR;cases fr with
       |nil=>cases hR
       |cons p r=>
        simp only at hR;split at hR
        ·rename_i hc;obtain⟨c1,c2,c3⟩:=hc;rcases Z3P p.2 4096 with (q|q)|⟨ts,q1,q2,q3,_,q5⟩
         ·rw[q] at c2;cases c2
         ·rw[q] at c2;cases c2
         ·rw[q1] at hR c3;simp only at hR c3;cases gV:Z1D s ts.length r with
          |none=>rw[gV] at hR;cases hR
          |some vs=>
           rw[gV] at hR;injection hR with hR
           have ey:vs.length=ts.length/\r=if s.1=3 then[] else[(fkd s,(vlsE s vs).1)]:=by
            unfold Z1D at gV;by_cases h3:s.1=3
            ·rw[if_pos h3] at gV⊢;split at gV
             ·rename_i hr;injection gV with gV;rw[<-gV];exact⟨List.length_replicate,hr⟩
             ·cases gV
            ·rw[if_neg h3] at gV⊢;split at gV
             ·rename_i p2;split at gV
              ·rename_i hp;obtain⟨p3,p4,p5⟩:=hp;injection gV with gV;rw[gV] at p5;have mq:vlsD s p2.2 (ts.length:Int)=(vs,0):=Prod.ext gV p4;have he:=Zdz mq;exact⟨p5,by rw[he,<-p3]⟩
              ·cases gV
             ·cases gV
           obtain⟨bm,hr⟩:=ey;obtain⟨z1,z2⟩:=Z71 f ts vs bm.symm;have mH:=Z2l f ts vs bm.symm
           have hF:frms s f l2=p::r:=by
            unfold frms;rw[<-hR,z1,z2,q2,<-hr];congr 1;exact Prod.ext c1.symm rfl
           have hW:=Z4R d.length (Nat.le_refl _) hu
           have cZ:l2≠[]:=λe=>by
            rw[e] at hR;rw[hR] at mH;exact c3 (List.eq_nil_of_length_eq_zero mH.symm)
           unfold sgE;rw[if_neg (by rw[hv];decide),if_neg cZ,hF];unfold strm;rw[hW];simp only;rw[if_neg h4]
        ·cases hR
     ·cases h
theorem ZmG {s:Int×Int} {f t:Int} {b:ByteArray} {d:List UInt8} (h:(sgD s f t b d).2≠0):(sgV s f t b []=false/\sgD s f t b d=([],1))\/(sgV s f t b []=true/\sgD s f t b d=([],12)):=by
 unfold sgD at h⊢;cases hv:sgV s f t b [] with
 |false=>exact .inl ⟨rfl,if_pos rfl⟩
 |true=>
  rw[hv] at h;rw[if_neg (by decide)] at h⊢;refine .inr ⟨rfl,?_⟩;by_cases h1:d=[]
  ·rw[if_pos h1] at h;exact absurd rfl h
  ·rw[if_neg h1] at h⊢;by_cases h2:4096<d.length
   ·rw[if_pos h2]
   ·rw[if_neg h2] at h⊢;split at h
    ·rfl
    ·rename_i l hl;split at h
     ·exact absurd rfl h
     ·rename_i hn;rw[if_neg hn]
theorem ZmH {s:Int×Int} {f t:Int} {b:ByteArray} {l:List Chg} (h:(sgE s f t b l).2≠0):(sgV s f t b l=false/\sgE s f t b l=([],1))\/(sgV s f t b l=true/\l≠[]/\sgE s f t b l=([],9)):=by
 unfold sgE at h⊢;cases hv:sgV s f t b l with
 |false=>exact .inl ⟨rfl,if_pos rfl⟩
 |true=>
  rw[hv] at h;rw[if_neg (by decide)] at h⊢;refine .inr ⟨rfl,?_⟩;by_cases h1:l=[]
  ·rw[if_pos h1] at h;exact absurd rfl h
  ·rw[if_neg h1] at h⊢;rcases ZdA (frms s f l) with h2|⟨d,h2⟩
   ·exact⟨h1,h2⟩
   ·rw[h2] at h;exact absurd rfl h
theorem Zoj (s:Int×Int):fkd s<16:=by unfold fkd;split<;>decide
theorem Zhl {s:Int×Int} {t a:Int} {b:ByteArray} {l:List Chg} {k:Nat} (h:k<l.length):rise s t a b (l.drop k)=(decide (a<l[k].1)&&decide (l[k].1<=t)&&vaB Z0u s (toL l[k].2)&&(decide (s.1=3)|| !decide (l[k].2=b))&&rise s t l[k].1 l[k].2 (l.drop (k+1))):=by
 rw[List.drop_eq_getElem_cons h];rfl
theorem Zca {s:Int×Int} {v:List UInt8} (h:vaB Z0u s v=true):v.length<=128:=(ZfL h).2
theorem Zhm {s:Int×Int} {f t:Int} {b:ByteArray} {l:List Chg} (h:sgV s f t b l=true):∀c∈l,c.2.size<=128:=by
 intro c hc;obtain⟨_,_,_,_,h5⟩:=Z24.1 h;have:=Zca (Z3i h5 c hc)
 rwa [Z01] at this
theorem ZdB (s:Int×Int) (d:List UInt8) (most:Int):∀v∈(vlsD s d most).1,v.size<=128:=by
 unfold vlsD;split
 ·rename_i h0;rcases Z5V s.2 d most with ⟨_,h1⟩|⟨_,_,h1|h1⟩|⟨l,h1,_,h2,_⟩
  ·rw[h1];intro v hv;cases hv
  ·rw[h1];intro v hv;cases hv
  ·rw[h1];intro v hv;cases hv
  ·rw[h1];intro v hv;obtain⟨g1,g2,g3,g4⟩:=Z0A.1 h2;have:=g1 v hv;obtain⟨e1,e2⟩:=Z0L.1 this;rw[Z01] at e2;omega
 ·rcases Z2x d most with (h1|h1)|⟨l,h1,_,_,h2,_⟩
  ·rw[h1];intro v hv;cases hv
  ·rw[h1];intro v hv;cases hv
  ·rw[h1];exact h2
def awL:List Chg:=[(10,bs [49]),(15,bs [48])]
theorem ZmI (v:List UInt8) (h:v=[48]\/v=[49]):vaB Z0u (0,1) v=true:=by
 unfold vaB kvB;rw[if_pos rfl];rcases h with rfl|rfl<;>decide
theorem Zhn:¬bs [49]=bs [48]:=λh=>by
 have:=congrArg toL h;rw[Z0d,Z0d] at this;cases this
theorem Zho:sgV (0,1) 9 20 (bs [48]) awL=true:=by
 refine Z24.2 ⟨by decide,by decide,?_,by decide,?_⟩
 ·rw[Z0d];exact ZmI _ (.inl rfl)
 ·refine Z3h.2 ⟨by decide,by decide,?_,.inr Zhn,Z3h.2 ⟨by decide,by decide,?_,.inr (λh=>Zhn h.symm),rfl⟩⟩
  ·rw[Z0d];exact ZmI _ (.inr rfl)
  ·rw[Z0d];exact ZmI _ (.inl rfl)
theorem Zhp (a b:List UInt8):(mnT a b).length<=a.length/\(mnT a b).length<=b.length:=by
 unfold mnT;split<;>exact⟨by omega,by omega⟩
theorem ZjX:(encT (tms 9 awL)).1.length<=1000:=by
 have hv:=Z6c Zho
 have h0:(cod0 (tms 9 awL)).length<=1000:=by
  unfold cod0 Z0J
  have h1:=Z2O ((Z06 (tms 9 awL)).map Int.toNat) (λv bj=>by
   obtain⟨g,hg,rfl⟩:=List.mem_map.1 bj;have:=Z2g hv g hg;omega)
  have h2:((Z06 (tms 9 awL)).map Int.toNat).length=2:=rfl;have h3:=Z07 0;have h4:=Z15 0;rw[List.length_append];omega
 generalize tms 9 awL=L at*;unfold encT;rw[if_pos hv];have h1:=(Zhp (cod0 L) (cod2 L)).1;have h2:=(Zhp (cod0 L) (cod1 L)).1;have h3:=(Zhp (mnT (cod0 L) (cod1 L)) (cod2 L)).1;simp only;split
 ·exact Nat.le_trans h1 h0
 ·exact Nat.le_trans h3 (Nat.le_trans h2 h0)
theorem ZmJ {W:Int} {l:List ByteArray} {s:List UInt8} (h:codB 0 W l=some s):∀k,(bstB W l (k+1)).length<=(num 0++s).length/\bstB W l (k+1)≠[]:=by
 intro k
 have e:∀k,bstB W l (k+1)=match codB k W l with
   |none=>bstB W l k
   |some s=>if bstB W l k=[]\/(num k++s).length<(bstB W l k).length then num k++s else bstB W l k:=λ_=>rfl
 induction k with
 |zero=>
  rw[e,h];simp only;split
  ·exact⟨Nat.le_refl _,Zgg _ _⟩
  ·rename_i hc;exact⟨by omega,λh=>hc (.inl h)⟩
 |succ k ih=>
  obtain⟨i1,i2⟩:=ih;rw[e];cases codB (k+1) W l with
  |none=>exact⟨i1,i2⟩
  |some t=>
   simp only;split
   ·rename_i hc;rcases hc with hc|hc
    ·exact absurd hc i2
    ·exact⟨by omega,Zgg _ _⟩
   ·exact⟨i1,i2⟩
theorem ZmK:(vlsE (0,1) (awL.map (·.2))).1.length<=1000:=by
 unfold vlsE;rw[if_pos rfl]
 have hb:(Z0G (awL.map (·.2))).length=4:=by
  show(Z0G [bs [49],bs [48]]).length=4;unfold Z0G;simp[Z3d,Z0d]
 have hc:codB 0 1 (awL.map (·.2))=some (num 2++toL (Bit.bstr (Z0G (awL.map (·.2))))):=by
  unfold codB codP;rw[if_pos rfl,if_neg (by omega)];rfl
 have h1:=(ZmJ hc 3).1
 have h2:(num 0++(num 2++toL (Bit.bstr (Z0G (awL.map (·.2)))))).length<=1000:=by
  rw[List.length_append,List.length_append,Z01,Bit.bstr_size,hb];have a1:=Z07 0;have a2:=Z07 2;have a3:=Z15 0;have a4:=Z15 2;omega
 generalize awL.map (·.2)=L at*;simp only;unfold Z12;split
 ·exact Nat.zero_le _
 ·exact Nat.le_trans h1 h2
theorem Z74 {k:Nat} {c w:List UInt8} (h:Z0B k c=some w):w.length<=c.length+20:=by
 unfold Z0B at h;cases ht:lzE c with
 |none=>rw[ht] at h;cases h
 |some t=>
  rw[ht] at h;injection h with h;rw[<-h,Z8S];have h1:(Z0T c t).length<=c.length:=(by unfold Z0T;split<;>omega);have h2:=Z07 (Z0T c t).length;have h3:=Z15 (Z0T c t).length;omega
theorem Zcb {k:Nat} {c:List UInt8} (h:c.length<=4096):∃w,Z0B k c=some w:=by
 have:=Z6B (k:=k) (c:=c);rw[decide_eq_true h] at this;exact Option.isSome_iff_exists.1 this
theorem Zok:∃d,sgE (0,1) 9 20 (bs [48]) awL=(d,0)/\d≠[]/\d.length<=4096:=by
 have ht:=ZjX;have hv:=ZmK;obtain⟨T,hT⟩:∃T,(encT (tms 9 awL)).1=T:=⟨_,rfl⟩;obtain⟨V,hV⟩:∃V,(vlsE (0,1) (awL.map (·.2))).1=V:=⟨_,rfl⟩;rw[hT] at ht;rw[hV] at hv;obtain⟨w1,h1⟩:=Zcb (k:=1) (c:=T) (by omega);obtain⟨w2,h2⟩:=Zcb (k:=2) (c:=V) (by omega);have l1:=Z74 h1;have l2:=Z74 h2
 have hf:frms (0,1) 9 awL=[(1,T),(2,V)]:=by
  unfold frms;rw[if_neg (by decide),hT,hV];rfl
 have hw:Z0N [(1,T),(2,V)]=some (w1++(w2++[])):=by
  simp only[Z0N,h1,h2];rfl
 refine⟨w1++(w2++[]),?_,?_,?_⟩
 ·unfold sgE;rw[if_neg (by rw[Zho];decide),if_neg (by unfold awL;simp),hf];unfold strm;rw[hw];simp only;rw[if_neg (by rw[List.length_append,List.length_append];simp;omega)]
 ·exact Z88 hw
 ·rw[List.length_append,List.length_append];simp;omega
theorem Zol:smp 9 20 5 (bs [48]) awL=[(10,bs [49]),(15,bs [48]),(20,bs [48])]:=by
 have hm:ms 9 20 5=[10,15,20]:=(by decide);unfold smp;rw[hm];rfl
end Wv.Sg
namespace Wv.Sg
open Wv.Vi Wv.Ru Wv.Bc Wv.Fm Wv.Lz
theorem Z75:∀(l:List (Nat×List UInt8)) (p:Nat×List UInt8),Z0N (l++[p])=(match Z0N l with
  |none=>none
  |some d=>(Z0B p.1 p.2).map (d++·))
 |[],p=>by
  show Z0N [p]=_;unfold Z0N;cases Z0B p.1 p.2 with
  |none=>rfl
  |some w=>simp[Z0N]
 |q::l,p=>by
  show Z0N (q::(l++[p]))=_;unfold Z0N;cases Z0B q.1 q.2 with
  |none=>rfl
  |some w=>
   simp only;rw[Z75 l p];cases Z0N l with
   |none=>rfl
   |some d=>
    simp only[Option.map_some];cases Z0B p.1 p.2 with
    |none=>rfl
    |some x=>simp[List.append_assoc]
theorem ZdC {l m:List (Nat×List UInt8)} (h:Z0N l=none):Z0N (l++m)=none:=by
 induction l with
 |nil=>cases h
 |cons q l ih=>
  show Z0N (q::(l++m))=none;unfold Z0N at h⊢;cases hw:Z0B q.1 q.2 with
  |none=>rfl
  |some w=>
   rw[hw] at h;simp only at h⊢;cases hl:Z0N l with
   |none=>rw[ih hl];rfl
   |some d=>rw[hl] at h;cases h
end Wv.Sg
namespace Go.Proofs.YtchokmkfobandaaGreatDoor
open Go.RowKit Go.Proofs Wv Wv.Vi Wv.Bc Wv.Sn Wv.Sg Wv.Fm Wv.Lz
def frs (l:List (Nat×List UInt8)):List Value:=l.flatMap λp=>[.int .i64 (p.1:Int),.string (bs p.2)]
theorem ZmL (D:List (Nat×List UInt8)):∀(i:Nat) (h:i<D.length),(frs D)[i*2]? =some (.int .i64 (D[i].1:Int))/\(frs D)[i*2+1]? =some (.string (bs D[i].2)):=by
 induction D with
 |nil=>intro i h;simp at h
 |cons c D ih=>
  intro i h;have e:frs (c::D)=[.int .i64 (c.1:Int),.string (bs c.2)]++frs D:=rfl;match i,h with
  |0,_=>exact⟨rfl,rfl⟩
  |i+1,h=>
   have h2:i<D.length:=(by simpa using h);rw[e,List.getElem?_append_right (by simp;omega),List.getElem?_append_right (by simp;omega)];have:=ih i h2;rw[show(i+1)*2-[(Value.int .i64 (c.1:Int)),.string (bs c.2)].length=i*2 from by simp;omega,show(i+1)*2+1-[(Value.int .i64 (c.1:Int)),.string (bs c.2)].length=i*2+1 from by simp;omega];exact this
theorem ZjY (l:List (Nat×List UInt8)) (c:Nat×List UInt8):frs (l++[c])=frs l++[.int .i64 (c.1:Int),.string (bs c.2)]:=by unfold frs;rw[List.flatMap_append];rfl
theorem Zcc {w:World} {A:Option Addr} {l:List (Nat×List UInt8)} (ha:At w A (frs l)) (k:Nat) (h:k<l.length):∃b o,A=some ⟨b,o,none⟩/\b<w.heap.size/\w.cell? ⟨b,o+k*2,none⟩=some (.int .i64 (l[k].1:Int))/\w.cell? ⟨b,o+k*2+1,none⟩=some (.string (bs l[k].2)):=by
 have hp:=ZmL l k h;obtain⟨b,o,hA,ab,c0⟩:=ha.get (k*2) _ hp.1;obtain⟨b',o',nF,_,c1⟩:=ha.get (k*2+1) _ hp.2;rw[hA] at nF;injection nF with nF
 injection nF with h1 h2;subst h1;subst h2;exact⟨b,o,hA,ab,c0,c1⟩
def feV (l:List (Nat×List UInt8)):Value:=match Z0N l with
 |none=>.tuple #[.string ⟨#[]⟩,.int .i64 9]
 |some d=>.tuple #[.string (bs d),.int .i64 0]
theorem ZaQ {w:World} {A:Option Addr} {l:List (Nat×List UInt8)} (ha:At w A (frs l)) (hk:∀p∈l,p.1<16) (hc:∀p∈l,p.2.length<=1000000000) (n cap:Nat) (hn:n=l.length) (bu:n<=1000):
  Calls Tryz.prog 35 #[.slice A n cap] w λx w'=>x=.returned (feV l)/\Below w.heap.size w w':=by
 have Ha:=h_ ha;have Hn:=h_ hn;have Hw:=h_ (λ(k:Nat) (hk:k<16) (c:List UInt8) (hc:c.length<=1000000000) W=>Z83 k hk c hc W);have Hk:=h_ hk;have Hc:=h_ hc
 have HV:Hid (feV l=match Z0N l with
  |none=>.tuple #[.string ⟨#[]⟩,.int .i64 9]
  |some d=>.tuple #[.string (bs d),.int .i64 0]):=h_ rfl
 generalize feV l=FV at*;clear ha hn hk hc;go_enter Tryz.func35,Tryz.ntmps35;go_wp2;go_loopw [4,11] (λs4 kK wr=>∃(i:Nat) (d:List UInt8),i<=n/\kK=.int .i64 (i:Int)/\s4=.string (bs d)/\Hid (Z0N (l.take i)=some d)/\Hid (d.length<=5000*i)/\Hid (Below w.heap.size w wr)) (λ_ kK _=>(n-intOf kK).toNat);case atStart=>exact⟨0,[],Nat.zero_le _,rfl,rfl,h_ (by rw[List.take_zero];rfl),h_ (Nat.zero_le _),h_ (Below.refl _ _)⟩
 case round=>
  obtain⟨i,d,hi,rfl,rfl,hw,fQ,hb⟩:=hrel;by_cases ab:i<n
  ·have bz:i<l.length:=(by rw[<-Hn.o];exact ab);obtain⟨bA,oA,rfl,wC,c0,c1⟩:=Zcc (Ha.o.below hb.o) i bz;have ax:l.take (i+1)=l.take i++[l[i]]:=List.take_succ_eq_append_getElem bz;have wD:=Hk.o l[i] (List.getElem_mem _);have B6:=Hc.o l[i] (List.getElem_mem _)
   have lX:l=l.take i++([l[i]]++l.drop (i+1)):=by
    rw[<-List.append_assoc,<-ax,List.take_append_drop]
   obtain⟨⟨k,c⟩,hp⟩:∃p,l[i]=p:=⟨_,rfl⟩;rw[hp] at c0 c1 ax wD B6 lX;simp only at c0 c1 wD B6;have mJ:=Z75 (l.take i) (k,c);rw[<-ax,hw.o] at mJ;simp only at mJ;have HW:=h_ (Hw.o k wD c B6);unfold frV at HW;have Hb:=h_ (hb.o.alloc hb.o.size (.cells #[.int .i64 (k:Int),.string (bs c)] 36));have ji:(0:Int)<=(i:Int):=(by omega);have ti:(i:Int)<(n:Int):=(by omega);cases hwk:Z0B k c with
   |none=>
    rw[hwk] at HW mJ
    have tT:Z0N l=none:=by
     rw[lX,<-List.append_assoc,<-ax];exact ZdC mJ
    have HR:Hid (FV=.tuple #[.string ⟨#[]⟩,.int .i64 9]):=h_ (by rw[HV.o,tT]);rw[show optV none=.tuple #[.string ⟨#[]⟩,.int .i64 9] from rfl] at HW;generalize bs c=S at*;clear tT mJ lX ax hp bz hwk hw fQ;go_wp2_with fail;refine(HW.o _).mono ?_;rintro x w2 ⟨rfl,a8⟩;have al:=h_ (Hb.o.trans (a8.mono Hb.o.size));clear a8;go_wp2;go_returns;exact⟨by rw[HR.o];rfl,al.o⟩
   |some u=>
    rw[hwk] at HW mJ
    have oZ:u.length<=5000:=by
     have h2:=hwk;unfold Z0B at h2;cases ht:lzE c with
     |none=>rw[ht] at h2;cases h2
     |some t=>
      rw[ht] at h2;injection h2 with h2;have ia:=Z5b ht;rw[<-h2,Z8S];have g1:(Z0T c t).length<=4096:=(by unfold Z0T;split<;>omega);have g2:=Z07 (Z0T c t).length;have g3:=Z15 (Z0T c t).length;omega
    rw[show optV (some u)=.tuple #[.string (bs u),.int .i64 0] from rfl] at HW;have r7:Hid (Z0N (l.take (i+1))=some (d++u)):=h_ (by rw[mJ];rfl);have Jw:Hid ((d++u).length<=5000*(i+1)):=h_ (by rw[List.length_append];have:=fQ.o;omega);have ad:(bs d).size+(bs u).size<=9223372036854775807:=(by rw[Z00,Z00];have:=fQ.o;omega);have gI:=h_ (Z0f d u);generalize bs c=S at*;generalize bs d=D at*;generalize bs u=U at*;clear mJ lX ax hp bz hwk hw fQ oZ;go_wp2_with fail;refine(HW.o _).mono ?_;rintro x w2 ⟨rfl,a8⟩;have al:=h_ (Hb.o.trans (a8.mono Hb.o.size));clear a8;go_wp2;refine⟨⟨i+1,d++u,ab,by go_num,by rw[<-gI.o],r7,Jw,al⟩,?_⟩;simp[intOf]<;>omega
  ·have aX:i=n:=(by omega);subst aX
   have HR:Hid (FV=.tuple #[.string (bs d),.int .i64 0]):=h_ (by
    have h:=hw.o;rw[List.take_of_length_le (by rw[Hn.o];exact Nat.le_refl _)] at h;rw[HV.o,h])
   clear hw fQ;go_wp2;go_returns;exact⟨by rw[HR.o];rfl,hb.o⟩
theorem ZjZ (a c f t:Int) (w:World):
  Calls Tryz.prog 30 #[.agg #[.int .i64 a,.int .i64 c],.int .i64 f,.int .i64 t] w λx w'=>x=.returned (.bool (tyB (a,c)&&itv f t))/\Below w.heap.size w w':=by
 have HT:=h_ (λW=>Zh2 a c W);have HI:Hid (itv f t=(decide (-1<=f)&&decide (f<=t)&&decide (t<=1099511627776))):=h_ rfl;have Hb:=h_ ((Below.refl w.heap.size w).alloc (Nat.le_refl _) (.cells #[.int .i64 a,.int .i64 c] 23));obtain⟨B,hB⟩:∃B,tyB (a,c)=B:=⟨_,rfl⟩;rw[hB] at HT⊢;clear hB;cases B with
 |false=>
  have HR:Hid ((false&&itv f t)=false):=h_ rfl;go_enter Tryz.func30,Tryz.ntmps30;go_wp2_with fail;refine(HT.o _).mono ?_;rintro x w1 ⟨rfl,a7⟩;have an:=h_ (Hb.o.trans (a7.mono Hb.o.size));clear a7;go_wp2;go_returns;exact⟨rfl,an.o⟩
 |true=>
  by_cases h1: -1<=f
  ·by_cases h2:f<=t
   ·by_cases h3:t<=1099511627776
    ·have HR:Hid ((true&&itv f t)=true):=h_ (by rw[HI.o];simp[*]);go_enter Tryz.func30,Tryz.ntmps30;go_wp2_with fail;refine(HT.o _).mono ?_;rintro x w1 ⟨rfl,a7⟩;have an:=h_ (Hb.o.trans (a7.mono Hb.o.size));clear a7;go_wp2;go_returns;exact⟨by first|exact Z03 HR.o.symm|exact Z03 (by rw[HR.o,decide_eq_false (by omega)]),an.o⟩
    ·have HR:Hid ((true&&itv f t)=false):=h_ (by rw[HI.o];simp[*]);go_enter Tryz.func30,Tryz.ntmps30;go_wp2_with fail;refine(HT.o _).mono ?_;rintro x w1 ⟨rfl,a7⟩;have an:=h_ (Hb.o.trans (a7.mono Hb.o.size));clear a7;go_wp2;go_returns;exact⟨by first|exact Z03 HR.o.symm|exact Z03 (by rw[HR.o,decide_eq_false (by omega)]),an.o⟩
   ·have HR:Hid ((true&&itv f t)=false):=h_ (by rw[HI.o];simp[*]);go_enter Tryz.func30,Tryz.ntmps30;go_wp2_with fail;refine(HT.o _).mono ?_;rintro x w1 ⟨rfl,a7⟩;have an:=h_ (Hb.o.trans (a7.mono Hb.o.size));clear a7;go_wp2;go_returns;exact⟨by first|exact Z03 HR.o.symm|exact Z03 (by rw[HR.o,decide_eq_false (by omega)]),an.o⟩
  ·have HR:Hid ((true&&itv f t)=false):=h_ (by rw[HI.o];simp[*]);go_enter Tryz.func30,Tryz.ntmps30;go_wp2_with fail;refine(HT.o _).mono ?_;rintro x w1 ⟨rfl,a7⟩;have an:=h_ (Hb.o.trans (a7.mono Hb.o.size));clear a7;go_wp2;go_returns;exact⟨by first|exact Z03 HR.o.symm|exact Z03 (by rw[HR.o,decide_eq_false (by omega)]),an.o⟩
theorem Z6e {w:World} {A:Option Addr} {l:List (Nat×List UInt8)} (ha:At w A (frs l)) (hk:∀p∈l,p.1<16) (hc:∀p∈l,p.2.length<=1000000000) (n cap:Nat) (hn:n=l.length) (bu:n<=1000):
  Calls Tryz.prog 29 #[.slice A n cap] w λx w'=>x=.returned (.tuple #[.string (bs (strm l).1),.int .i64 ((strm l).2:Int)])/\Below w.heap.size w w':=by
 have HE:=h_ (ZaQ ha hk hc n cap hn bu)
 have HF:Hid (feV l=match Z0N l with
  |none=>.tuple #[.string ⟨#[]⟩,.int .i64 9]
  |some d=>.tuple #[.string (bs d),.int .i64 0]):=h_ rfl
 have HS:Hid (strm l=match Z0N l with
  |none=>([],9)
  |some d=>if 4096<d.length then([],9) else(d,0)):=h_ rfl
 have me:bs ([]:List UInt8)=⟨#[]⟩:=rfl;clear ha hk hc hn;cases hw:Z0N l with
 |none=>
  have h1:=HF.o;have h2:=HS.o;rw[hw] at h1 h2;simp only at h1 h2;rw[h1] at HE;have H2:Hid (Ending.returned (.tuple #[.string (bs (strm l).1),.int .i64 ((strm l).2:Int)])=.returned (.tuple #[.string ⟨#[]⟩,.int .i64 9])):=h_ (by rw[h2];rfl);clear h1 h2 HF HS hw me;go_enter Tryz.func29,Tryz.ntmps29;go_wp2_with fail;refine(HE.o).mono ?_;rintro x w2 ⟨rfl,a8⟩;go_wp2;go_returns;exact⟨by rw[H2.o];rfl,a8⟩
 |some d=>
  have h1:=HF.o;have h2:=HS.o;rw[hw] at h1 h2;simp only at h1 h2;rw[h1] at HE;have ad:(bs d).size=d.length:=Z00 d;by_cases hg:4096<d.length
  ·rw[if_pos hg] at h2;have H2:Hid (Ending.returned (.tuple #[.string (bs (strm l).1),.int .i64 ((strm l).2:Int)])=.returned (.tuple #[.string ⟨#[]⟩,.int .i64 9])):=h_ (by rw[h2];rfl);have Tr:(4096:Int)<((bs d).size:Int):=(by omega);generalize bs d=D at*;clear h1 h2 HF HS hw me hg ad;go_enter Tryz.func29,Tryz.ntmps29;go_wp2_with fail;refine(HE.o).mono ?_;rintro x w2 ⟨rfl,a8⟩;go_wp2;go_returns;exact⟨by rw[H2.o];rfl,a8⟩
  ·rw[if_neg hg] at h2;have H2:Hid (Ending.returned (.tuple #[.string (bs (strm l).1),.int .i64 ((strm l).2:Int)])=.returned (.tuple #[.string (bs d),.int .i64 0])):=h_ (by rw[h2];rfl);have Tr:¬(4096:Int)<((bs d).size:Int):=(by omega);generalize bs d=D at*;clear h1 h2 HF HS hw me hg ad;go_enter Tryz.func29,Tryz.ntmps29;go_wp2_with fail;refine(HE.o).mono ?_;rintro x w2 ⟨rfl,a8⟩;go_wp2;go_returns;exact⟨by rw[H2.o];rfl,a8⟩
end Go.Proofs.YtchokmkfobandaaGreatDoor
namespace Go.Proofs.YtchokmkfobandaaGreatDoor
open Go.RowKit Go.Proofs Wv Wv.Vi Wv.Bc Wv.Sn Wv.Sg Wv.Ru
theorem ZaR:(Tryz.prog.info? 9).map (λi=>(i.zero,i.size,i.bytes))=some (some (.string ByteArray.empty),1,16):=by kernel_rfl
def SvR (w:World) (v:Value) (l:List ByteArray):Prop:=∃A cap,v=.slice A l.length cap/\At w A (svs l)
theorem ZmM {w:World} {base e:Nat} {v:Value} {l:List ByteArray} (h:w.ownsRow base e 1 v l.length (svs l)):SvR w v l:=by
 obtain⟨A,cap,hv,ha⟩:=Z0q h;exact⟨A,cap,hv,ha⟩
theorem Zhq (l:List ByteArray) (s:ByteArray):svs (l++[s])=svs l++[.string s]:=by unfold svs;rw[List.map_append];rfl
theorem Zhr {w:World} {A:Option Addr} {l:List (Int×ByteArray)} (ha:At w A (cv l)) (n cap:Nat) (hn:n=l.length) (bu:n<=1000000):
  Calls Tryz.prog 45 #[.slice A n cap] w λx w'=>∃v,x=.returned v/\SvR w' v (l.map (·.2))/\Below w.heap.size w w':=by
 have Ha:=h_ ha;have Hn:=h_ hn;have jO:Hid (w.ownsRow w.heap.size 9 1 (.slice none 0 0) 0 (svs ((l.take 0).map (·.2)))):=h_ (by rw[List.take_zero];exact Z0p);clear ha hn;go_enter Tryz.func45,Tryz.ntmps45;go_wp2;go_loopw [3,8] (λs3 s8 wr=>∃i:Nat,i<=n/\s8=.int .i64 (i:Int)/\Hid (wr.ownsRow w.heap.size 9 1 s3 i (svs ((l.take i).map (·.2))))/\Hid (Below w.heap.size w wr)) (λ_ s8 _=>(n-intOf s8).toNat);case atStart=>exact⟨0,Nat.zero_le _,rfl,jO,h_ (Below.refl _ _)⟩
 case round=>
  clear jO;obtain⟨i,hi,rfl,aa,hb⟩:=hrel;obtain⟨A5,M5,bk,rfl⟩:=Z0c aa.o;by_cases ab:i<n
  ·have bz:i<l.length:=(by rw[<-Hn.o];exact ab);obtain⟨bA,oA,rfl,wC,c0,c1⟩:=Z1a (Ha.o.below hb.o) i bz;have ax:l.take (i+1)=l.take i++[l[i]]:=List.take_succ_eq_append_getElem bz;obtain⟨⟨T,V⟩,hTV⟩:∃y,l[i]=y:=⟨_,rfl⟩;rw[hTV] at c0 c1 ax;simp only at c0 c1;have a7:=hb.o.alloc hb.o.size (.cells #[.int .i64 T,.string V] 33);have ai:=Z0v aa.o (Fr.of_below (S:=nob) ((Below.refl wr.heap.size wr).alloc (Nat.le_refl _) (.cells #[.int .i64 T,.string V] 33))) (λ_ _ f=>f);obtain⟨v',W',ag,af,aG,_⟩:=Z1X (P:=Tryz.prog) 64 9 _ _ Tryz.underlying64 ZaR rfl ai a7 a7.size (.string V) rfl (by unfold maxLen;omega) (by omega);have mJ:svs ((l.take (i+1)).map (·.2))=svs ((l.take i).map (·.2))++[.string V]:=(by rw[ax,List.map_append,<-Zhq];rfl);rw[<-mJ] at af;rw[World.size_alloc] at ag;have ao:=h_ ag;have az:=h_ af;have cQ:=h_ aG;have ji:(0:Int)<=(i:Int):=(by omega);have ti:(i:Int)<(n:Int):=(by omega);clear ag af aG mJ ax hTV bz a7 ai aa hb
   go_wp2_with (
    at_builtin;refine Z04 (by with_reducible rfl) rfl _ _ _ rfl _ _ (by rfl) (by rfl) ao.o ?_)
   refine⟨⟨i+1,ab,by go_num,az,cQ⟩,?_⟩;simp[intOf]<;>omega
  ·have aX:i=n:=(by omega);subst aX
   have aV:Hid (SvR wr (.slice A5 M5 bk) (l.map (·.2))):=h_ (by
    have h:=aa.o;rw[List.take_of_length_le (by rw[Hn.o];exact Nat.le_refl _)] at h;exact ZmM (by rw[List.length_map,<-Hn.o];exact h))
   clear aa;go_wp2;go_returns;exact⟨_,rfl,aV.o,hb.o⟩
end Go.Proofs.YtchokmkfobandaaGreatDoor
namespace Go.Proofs.YtchokmkfobandaaGreatDoor
open Go.RowKit Go.Proofs Wv Wv.Vi Wv.Bc Wv.Sn Wv.Sg Wv.Fm Wv.Lz
theorem ZkN:(Tryz.prog.info? 36).map (λi=>(i.zero,i.size,i.bytes))=some (some (.agg #[.int .i64 0,.string ByteArray.empty]),2,24):=by kernel_rfl
def FrR (w:World) (v:Value) (l:List (Nat×List UInt8)):Prop:=∃A cap,v=.slice A l.length cap/\At w A (frs l)
def ZoV:Value->Nat
 |.string s=>s.size
 |_=>0
def FdR (w:World) (o:Option (List (Nat×List UInt8))) (x:Ending) (w':World):Prop:=∃v,x=.returned (.tuple #[v,.int .i64 (if o=none then 12 else 0)])/\FrR w' v (o.getD [])/\Below w.heap.size w w'
theorem ZmN {w:World} {base e:Nat} {v:Value} {l:List (Nat×List UInt8)} (h:w.ownsRow base e 2 v l.length (frs l)):FrR w v l:=by
 obtain⟨A,cap,hv,ha⟩:=Z0q h;exact⟨A,cap,hv,ha⟩
theorem Z6f (data:List UInt8) (hd:data.length<=1000000) (w:World):
  Calls Tryz.prog 36 #[.string (bs data)] w λx w'=>FdR w (unws data) x w':=by
 have HU:=h_ (λ(d:List UInt8) (h:d.length<=1000000000) W=>Zdy d h W);have HD:=h_ (λ(o:Option (List (Nat×List UInt8))) x w'=>(Iff.rfl:FdR w o x w'↔FdR w o x w'));obtain⟨O,hO⟩:∃O,unws data=O:=⟨_,rfl⟩;have h0:Hid (O=(unws data).map ([]++·)):=h_ (by rw[hO];cases O<;>simp);have jO:Hid (w.ownsRow w.heap.size 36 2 (.slice none 0 0) 0 (frs [])):=h_ Z0p;rw[hO];clear hO;go_enter Tryz.func36,Tryz.ntmps36;go_wp2;go_loopw [0,4] (λs0 s4 wr=>∃(r:List UInt8) (fr:List (Nat×List UInt8)),s0=.string (bs r)/\r.length<=1000000/\Hid (fr.length+r.length<=1000000)/\Hid (O=(unws r).map (fr++·))/\Hid (wr.ownsRow w.heap.size 36 2 s4 fr.length (frs fr))/\Hid (Below w.heap.size w wr)) (λs0 _ _=>ZoV s0);case atStart=>exact⟨data,[],rfl,hd,h_ (by simpa using hd),h0,jO,h_ (Below.refl _ _)⟩
 case round=>
  clear h0 jO HD;obtain⟨r,fr,rfl,hr,hlen,hO,aa,hb⟩:=hrel;obtain⟨A5,M5,bk,rfl⟩:=Z0c aa.o;have cJ:=Z2i r;by_cases h0:r=[]
  ·subst h0;have wE:Hid (O=some fr):=h_ (by rw[hO.o,Zc9];simp);have HR:Hid (FrR wr (.slice A5 M5 bk) fr):=h_ (ZmN aa.o);rw[show bs ([]:List UInt8)=⟨#[]⟩ from rfl] at cJ⊢;clear hO aa cJ;go_wp2;go_returns;exact⟨_,by rw[wE.o];rfl,by rw[wE.o];exact HR.o,hb.o⟩
  ·rw[decide_eq_false h0] at cJ;have Ed:=h_ (HU.o r (by omega) wr);cases hf:Z1y r with
   |none=>
    have hu:uwV r=.tuple #[.agg #[.int .i64 0,.string ⟨#[]⟩],.int .i64 0,.int .i64 12]:=(by unfold uwV;rw[hf]);rw[hu] at Ed;have wE:Hid (O=none):=h_ (by rw[hO.o,Zhj h0 hf];rfl);generalize bs r=S at*;clear hO aa hu hf h0 HU;go_wp2_with fail;refine(Ed.o).mono ?_;rintro x w2 ⟨rfl,a8⟩;have al:=h_ ((hb.o.trans (a8.mono hb.o.size)).alloc (Nat.le_trans hb.o.size a8.size) (.cells #[.int .i64 0,.string ⟨#[]⟩] 36));clear a8;go_wp2;go_returns;exact⟨_,by rw[wE.o];rfl,by rw[wE.o];exact⟨none,0,rfl,At.nil _ _⟩,al.o⟩
   |some q=>
    obtain⟨k,c,z⟩:=q;have hu:uwV r=.tuple #[.agg #[.int .i64 (k:Int),.string (bs c)],.int .i64 (z:Int),.int .i64 0]:=(by unfold uwV;rw[hf];rfl);rw[hu] at Ed;obtain⟨z1,z2⟩:=Z3x hf;have OO:=Z6d hf
    have wE:Hid (O=(unws (r.drop z)).map ((fr++[(k,c)])++·)):=h_ (by
     rw[hO.o,OO,Option.map_map];congr 1;funext y;simp)
    have ad:(bs r).size=r.length:=Z00 r;have hex:(bs r).extract z (bs r).size=bs (r.drop z):=(by rw[Z3m,Z0d]);have cZ:Hid ((fr++[(k,c)]).length+(r.drop z).length<=1000000):=h_ (by have:=hlen.o;rw[List.length_append,List.length_drop];simp;omega);have bQ:(r.drop z).length<=1000000:=(by rw[List.length_drop];omega);have yj:(bs (r.drop z)).size<(bs r).size:=(by rw[Z00,Z00,List.length_drop];omega);have Vb:(z:Int)<=((bs r).size:Int):=(by omega);have dp:(0:Int)<=(z:Int):=(by omega);have fk:fr.length<=1000000:=(by have:=hlen.o;omega);clear hO hu hf h0 HU OO;go_wp2_with fail;refine(Ed.o).mono ?_;rintro x w2 ⟨rfl,a8⟩;have ae:=(hb.o.trans (a8.mono hb.o.size)).alloc (Nat.le_trans hb.o.size a8.size) (.cells #[.int .i64 (k:Int),.string (bs c)] 36);have dD:=Z0v (Z0v aa.o (Fr.of_below (S:=nob) a8) (λ_ _ f=>f)) (Fr.of_below (S:=nob) ((Below.refl w2.heap.size w2).alloc (Nat.le_refl _) (.cells #[.int .i64 (k:Int),.string (bs c)] 36))) (λ_ _ f=>f)
    obtain⟨v',W',ag,af,aG,_⟩:=Z7r (P:=Tryz.prog) 37 36 _ _ 2 Tryz.underlying37 ZkN rfl (by decide) dD ae ae.size [.int .i64 (k:Int),.string (bs c)] rfl (by
     intro y hy;simp at hy;rcases hy with rfl|rfl<;>rfl) (by unfold maxLen;omega) (by omega)
    have mJ:frs (fr++[(k,c)])=frs fr++[.int .i64 (k:Int),.string (bs c)]:=ZjY fr (k,c);rw[<-mJ] at af;rw[World.size_alloc] at ag;have cj:(fr++[(k,c)]).length=fr.length+1:=(by simp);rw[<-cj] at af;have ao:=h_ ag;have az:=h_ af;have cQ:=h_ aG;clear ag af aG mJ ae dD a8 aa hb cj
    go_wp2_with (
     at_builtin;refine Z04 (by with_reducible rfl) rfl _ _ _ rfl _ _ (by rfl) (by rfl) ao.o ?_)
    rw[<-ad,hex];exact⟨⟨r.drop z,fr++[(k,c)],rfl,bQ,cZ,wE,az,cQ⟩,yj⟩
end Go.Proofs.YtchokmkfobandaaGreatDoor
