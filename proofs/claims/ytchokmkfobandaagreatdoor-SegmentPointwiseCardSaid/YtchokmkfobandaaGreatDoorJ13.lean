import Derived.Test.YtchokmkfobandaaGreatDoorJ11
import Derived.SliceStrings
import Derived.Test.YtchokmkfobandaaGreatDoorLShelf
import Derived.Test.YtchokmkfobandaaGreatDoorJ03
set_option linter.unusedVariables false
set_option linter.unusedSimpArgs false
set_option maxRecDepth 100000
set_option maxHeartbeats 8000000
namespace Wv.Bc
open Wv.Vi Wv.Ru
def Z0z (w:Int) (l:List ByteArray):Bool:=l.all (λv=>vld w (toL v))&&(decide (1<=w)&&decide (w<=128)&&decide (l.length<=4096))
theorem Z0A {w:Int} {l:List ByteArray} :Z0z w l=true↔(∀v∈l,vld w (toL v)=true)/\1<=w/\w<=128/\l.length<=4096:=by
 unfold Z0z;rw[Bool.and_eq_true,Bool.and_eq_true,Bool.and_eq_true,List.all_eq_true,decide_eq_true_iff,decide_eq_true_iff,decide_eq_true_iff,and_assoc]
def dAt (l:List ByteArray) (j:Nat):Option ByteArray:=if(difV (toL (l.getD j default)) (toL (l.getD (j+1) default))).2=true then some (bs (difV (toL (l.getD j default)) (toL (l.getD (j+1) default))).1) else none
def difP (l:List ByteArray) (k:Nat):List ByteArray:=(List.range k).filterMap (dAt l)
def difs (l:List ByteArray):List ByteArray:=difP l (l.length-1)
theorem ZeY (l:List ByteArray) (k:Nat):difP l (k+1)=difP l k++(dAt l k).toList:=by
 unfold difP;rw[List.range_succ,List.filterMap_append];congr 1<;>(cases h:dAt l k<;>simp[h])
theorem ZeZ {l:List ByteArray} {k:Nat} :∀d∈difP l k,knV (toL d)=true:=by
 intro d hd;obtain⟨j,_,hj⟩:=List.mem_filterMap.1 hd;unfold dAt at hj;split at hj
 ·rename_i h;injection hj with hj;subst hj;exact(Z6x (Prod.ext rfl h)).1
 ·cases hj
def Z1i (F:ByteArray->Nat) (p:ByteArray×Nat) (d:ByteArray):ByteArray×Nat:=if p.2<F d then(d,F d) else p
def stepOf (ds:List ByteArray):ByteArray:=(ds.foldl (Z1i (λd=>ds.count d)) (bs [],0)).1
def Z0x (l:List ByteArray):ByteArray:=if l=[]\/Z0z ((l.getD 0 default).size:Int) l=false then bs [] else stepOf (difs l)
theorem Zim (F:ByteArray->Nat) (p:ByteArray×Nat) (d:ByteArray):p.2<=(Z1i F p d).2/\F d<=(Z1i F p d).2:=by
 unfold Z1i;split
 ·exact⟨by simp only;omega,Nat.le_refl _⟩
 ·exact⟨Nat.le_refl _,by omega⟩
theorem Zlp (F:ByteArray->Nat) (ds:List ByteArray):∀p,p.2<=(ds.foldl (Z1i F) p).2/\∀d∈ds,F d<=(ds.foldl (Z1i F) p).2:=by
 induction ds with
 |nil=>intro p;exact⟨Nat.le_refl _,λd hd=>by cases hd⟩
 |cons a r ih=>
  intro p;obtain⟨h1,h2⟩:=Zim F p a;obtain⟨i1,i2⟩:=ih (Z1i F p a);refine⟨Nat.le_trans h1 i1,λd hd=> ?_⟩;rcases List.mem_cons.1 hd with rfl|hd
  ·exact Nat.le_trans h2 i1
  ·exact i2 d hd
theorem Z1R (l:List ByteArray) (x:ByteArray):dict (l++[x])=ZdP (dict l) x:=by unfold dict;rw[List.foldl_append];rfl
theorem Zf0 (F:ByteArray->Nat) (ds:List ByteArray) (p:ByteArray×Nat):(dict ds).foldl (Z1i F) p=ds.foldl (Z1i F) p:=by
 rw[<-List.reverse_reverse ds];induction ds.reverse with
 |nil=>rfl
 |cons a r ih=>
  rw[List.reverse_cons,Z1R,List.foldl_append];unfold ZdP;by_cases h:a∈dict r.reverse
  ·rw[if_pos h,ih];have h2:a∈r.reverse:=(Z1H _ _).1 h;have:=(Zlp F r.reverse p).2 a h2;show _=Z1i F _ a;generalize List.foldl (Z1i F) p r.reverse=q at*;unfold Z1i;rw[if_neg (by omega)]
  ·rw[if_neg h,List.foldl_append,ih]
theorem Zin (F:ByteArray->Nat) (ds:List ByteArray):∀p,p.2=F p.1->(ds.foldl (Z1i F) p).2=F (ds.foldl (Z1i F) p).1:=by
 induction ds with
 |nil=>intro p h;exact h
 |cons a r ih=>
  intro p h;apply ih;unfold Z1i;split
  ·rfl
  ·exact h
def okA (l:List ByteArray) (st:ByteArray) (j:Nat):Bool:=decide (addV (toL (l.getD j default)) (toL st)=(toL (l.getD (j+1) default),true))
def exP (l:List ByteArray) (st:ByteArray) (k:Nat):List Int:=((List.range k).filter (λj=> !okA l st j)).map (λ(j:Nat)=>(j:Int)+1)
def exI (l:List ByteArray) (st:ByteArray):List Int:=exP l st (l.length-1)
theorem Zio (l:List ByteArray) (st:ByteArray) (k:Nat):exP l st (k+1)=if okA l st k=true then exP l st k else exP l st k++[(k:Int)+1]:=by
 unfold exP;rw[List.range_succ,List.filter_append,List.map_append];cases h:okA l st k<;>simp[h]
theorem Z9X (l:List ByteArray) (st:ByteArray) (k:Nat):(exP l st k).length<=k:=by
 unfold exP;rw[List.length_map];have:=List.length_filter_le (λj=> !okA l st j) (List.range k);rw[List.length_range] at this;exact this
theorem Zf1 {l:List ByteArray} {st:ByteArray} {k:Nat} :∀x∈exP l st k,1<=x/\x<=(k:Int):=by
 intro x hx;obtain⟨j,hj,rfl⟩:=List.mem_map.1 hx;have:=List.mem_range.1 (List.mem_filter.1 hj).1;omega
theorem Zcy (l:List ByteArray) (st:ByteArray) (k:Nat):(exP l st k).Pairwise (· <·):=by
 unfold exP;rw[List.pairwise_map];exact(List.pairwise_lt_range.sublist List.filter_sublist).imp (λh=>by omega)
def atI (l:List ByteArray) (x:List Int):List ByteArray:=x.map (λi=>l.getD i.toNat default)
def Z0F (l:List ByteArray):List ByteArray:=l.map (λv=>bs (shr (toL v)))
def extL (w:Int):List ByteArray->Option (List ByteArray)
 |[]=>some []
 |s::r=>if(ext w (toL s)).2=0 then(extL w r).map (bs (ext w (toL s)).1::·) else none
def mixL (last:ByteArray):List ByteArray->List ByteArray
 |[]=>[]
 |v::r=>bs (mixV (toL v) (toL last)).1::mixL v r
def Z14 (last:ByteArray):List ByteArray->List ByteArray
 |[]=>[]
 |v::r=>bs (mixV (toL v) (toL last)).1::Z14 (bs (mixV (toL v) (toL last)).1) r
theorem Z4z {w:Int} {l:List ByteArray} (h:∀v∈l,vld w (toL v)=true):extL w (Z0F l)=some l:=by
 induction l with
 |nil=>rfl
 |cons v r ih=>
  have hv:=Z0L.1 (h v List.mem_cons_self);have he:=Z9R hv.1;rw[hv.2] at he;show(if(ext w (toL (bs (shr (toL v))))).2=0 then(extL w (Z0F r)).map (bs (ext w (toL (bs (shr (toL v))))).1::·) else none)=_;rw[Z0d,he,if_pos rfl,ih (λx hx=>h x (List.mem_cons_of_mem _ hx))];rfl
theorem Z4A {w:Int} {l r:List ByteArray} (h:extL w l=some r):(∀v∈r,vld w (toL v)=true)/\r.length=l.length:=by
 induction l generalizing r with
 |nil=>injection h with h;subst h;exact⟨λv hv=>(by cases hv),rfl⟩
 |cons s t ih=>
  unfold extL at h;split at h
  ·rename_i he;match hq:extL w t,h with
   |none,h=>cases h
   |some q,h=>
    injection h with h;subst h;obtain⟨i1,i2⟩:=ih hq;refine⟨λv hv=> ?_,by simp[i2]⟩;rcases List.mem_cons.1 hv with rfl|hv
    ·rw[Z0d];exact Zep (Prod.ext rfl he)
    ·exact i1 v hv
  ·cases h
theorem Z47 (l:List ByteArray):∀last,(mixL last l).length=l.length:=by
 induction l with
 |nil=>intro _;rfl
 |cons v r ih=>intro last;simp[mixL,ih]
theorem Zlq {w:Int} {a b:List UInt8} (ha:vld w a=true) (hb:vld w b=true):vld w (mixV a b).1=true/\mixV (mixV a b).1 b=(a,0):=by
 obtain⟨a1,a2⟩:=Z0L.1 ha;obtain⟨b1,b2⟩:=Z0L.1 hb;obtain⟨m,h1,h2,h3,h4⟩:=Zi9 a1 b1 (by omega);rw[h1];exact⟨Z0L.2 ⟨h2,by show(m.length:Int)=w;omega⟩,h4⟩
theorem Zcz {w:Int} {l:List ByteArray} :∀ {last:ByteArray},vld w (toL last)=true->(∀v∈l,vld w (toL v)=true)->(∀v∈mixL last l,vld w (toL v)=true)/\Z14 last (mixL last l)=l:=by
 induction l with
 |nil=>intro last _ _;exact⟨λv hv=>(by cases hv),rfl⟩
 |cons v r ih=>
  intro last hl h;have hv:=h v List.mem_cons_self;obtain⟨m1,m2⟩:=Zlq hv hl;obtain⟨i1,i2⟩:=ih (last:=v) hv (λx hx=>h x (List.mem_cons_of_mem _ hx));refine⟨λx hx=> ?_,?_⟩
  ·rcases List.mem_cons.1 hx with rfl|hx
   ·rw[Z0d];exact m1
   ·exact i1 x hx
  ·show bs (mixV (toL (bs (mixV (toL v) (toL last)).1)) (toL last)).1::Z14 (bs (mixV (toL (bs (mixV (toL v) (toL last)).1)) (toL last)).1) (mixL v r)=_;rw[Z0d,m2];simp only[Z09];rw[i2]
theorem Zf2 {w:Int} (h1:1<=w) (h2:w<=128):vld w (allV w 48)=true:=by
 unfold allV;rw[if_neg (by simp[isC,cd];omega)];refine Z0L.2 ⟨Z0t.2 ⟨λc hc=> ?_,λh=> ?_,by rw[List.length_replicate];omega⟩,by rw[List.length_replicate];omega⟩
 ·rw[List.eq_of_mem_replicate hc];decide
 ·have:=congrArg List.length h;rw[List.length_replicate] at this;simp at this;omega
end Wv.Bc
namespace Wv
open Go Go.RowKit Go.Deep Go.ChangeShapes Go.WideShapes
theorem Zip {w:World} {p:Addr} {v:Value} (h:w.cell? p=some v):p.block<w.heap.size:=by
 rcases Nat.lt_or_ge p.block w.heap.size with h1|h1
 ·exact h1
 ·have h2:w.heap[p.block]? =none:=Array.getElem?_eq_none h1;simp[World.cell?,h2] at h
section
variable {H:Type} {enc:TypeId×Value->H} {P:Program} {w:World} {base:Nat} {spare:Nat->Bool} {held:Bool}
def I64 (n:Int):Prop:= -9223372036854775808<=n/\n<=9223372036854775807
theorem Z2W {n:Int} (h:(Lit.int .i64 n).wf=true):I64 n:=bounds_i64 h
def pv (l:List (Int×Int)):List Value:=l.flatMap λx=>[iv x.1,iv x.2]
theorem Z5D (l:List (Int×Int)):(pv l).length=l.length*2:=by
 induction l with
 |nil=>rfl
 |cons c D ih=>rw[show pv (c::D)=[iv c.1,iv c.2]++pv D from rfl,List.length_append,ih,List.length_cons];simp;omega
theorem Z7A (l:List (Int×Int)) (x:Int×Int):pv (l++[x])=pv l++[iv x.1,iv x.2]:=by simp[pv]
theorem Zbo (D:List (Int×Int)):∀(i:Nat) (h:i<D.length),(pv D)[i*2]? =some (iv D[i].1)/\(pv D)[i*2+1]? =some (iv D[i].2):=by
 induction D with
 |nil=>intro i h;simp at h
 |cons c D ih=>
  intro i h;have e:pv (c::D)=[iv c.1,iv c.2]++pv D:=rfl;match i,h with
  |0,_=>exact⟨rfl,rfl⟩
  |i+1,h=>
   have h2:i<D.length:=(by simpa using h);rw[e,List.getElem?_append_right (by simp;omega),List.getElem?_append_right (by simp;omega)];have:=ih i h2;rw[show(i+1)*2-[iv c.1,iv c.2].length=i*2 from by simp;omega,show(i+1)*2+1-[iv c.1,iv c.2].length=i*2+1 from by simp;omega];exact this
end
end Wv
namespace Wv.Bit
open Go.Lib (trailingZeros8)
def nrd (s:ByteArray):Option Nat:=
 if s.size=0 then none
 else if s.data.toList.getD (s.size-1) 0=0 then none
 else if 65536<8*s.size-1-trailingZeros8 (s.data.toList.getD (s.size-1) 0).toNat then none
 else some (8*s.size-1-trailingZeros8 (s.data.toList.getD (s.size-1) 0).toNat)
def Z5E (s:ByteArray) (n:Nat):Prop:=n<8*s.size/\rbit s n=true/\∀i,n<i->i<8*s.size->rbit s i=false
theorem Z5E.unique {s:ByteArray} {n m:Nat} (h:Z5E s n) (k:Z5E s m):n=m:=by
 rcases Nat.lt_trichotomy n m with c|c|c
 ·have:=h.2.2 m c k.1;rw[k.2.1] at this;cases this
 ·exact c
 ·have:=k.2.2 n c h.1;rw[h.2.1] at this;cases this
theorem Zbp:∀x:Fin 256,x.val≠0->trailingZeros8 x.val<8/\x.val.testBit (trailingZeros8 x.val)=true/\∀j:Fin 8,j.val<trailingZeros8 x.val->x.val.testBit j.val=false:=by decide+kernel
theorem Zf3 (s:ByteArray) (h0:s.size≠0) (hl:s.data.toList.getD (s.size-1) 0≠0):Z5E s (8*s.size-1-trailingZeros8 (s.data.toList.getD (s.size-1) 0).toNat):=by
 obtain⟨x,hx⟩:∃x,s.data.toList.getD (s.size-1) 0=x:=⟨_,rfl⟩;rw[hx] at hl⊢
 have ud:x.toNat≠0:=λh=>hl (by
  have:=congrArg UInt8.ofNat h;simpa using this)
 obtain⟨h1,h2,h3⟩:=Zbp ⟨x.toNat,UInt8.toNat_lt x⟩ ud;simp only at h1 h2 h3;generalize trailingZeros8 x.toNat=t at*
 have hr:∀i,8*(s.size-1)<=i->i<8*s.size->rbit s i=x.toNat.testBit (7-i % 8):=by
  intro i a b;rw[rbit,show i/8=s.size-1 from by omega,hx]
 refine⟨by omega,?_,λi a b=> ?_⟩
 ·rw[hr _ (by omega) (by omega),show 7-(8*s.size-1-t) % 8=t from by omega,h2]
 ·rw[hr i (by omega) b];exact h3 ⟨7-i % 8,by omega⟩ (by simp only;omega)
theorem nrd_le {s:ByteArray} {n:Nat} (h:nrd s=some n):n<=65536/\Z5E s n/\s.size<=8193:=by
 unfold nrd at h;split at h
 ·cases h
 ·rename_i h0;split at h
  ·cases h
  ·rename_i h1;split at h
   ·cases h
   ·rename_i h2;injection h with h;have:=Zf3 s h0 h1;rw[h] at this h2;refine⟨by omega,this,?_⟩;have h8:trailingZeros8 (s.data.toList.getD (s.size-1) 0).toNat<=8:=Go.Lib.trailingZeros8_le8 ⟨_,UInt8.toNat_lt _⟩;omega
theorem ZnB {s:ByteArray} {n:Nat} (h:Z5E s n) (h0:s.size≠0) (hl:s.data.toList.getD (s.size-1) 0≠0):nrd s=if 65536<n then none else some n:=by
 have:=(Zf3 s h0 hl).unique h;unfold nrd;rw[if_neg h0,if_neg hl,this]
theorem Zf4 {s:ByteArray} (h:s.size=0):nrd s=none:=by unfold nrd;rw[if_pos h]
theorem Zf5 {s:ByteArray} (h:s.data.toList.getD (s.size-1) 0=0):nrd s=none:=by
 unfold nrd;by_cases h0:s.size=0
 ·rw[if_pos h0]
 ·rw[if_neg h0,if_pos h]
def bstr (l:List Bool):ByteArray:=⟨(pack (l++[true])).toArray⟩
theorem bstr_size (l:List Bool):(bstr l).size=l.length/8+1:=by
 show(pack (l++[true])).toArray.size=_;simp[pack_length];omega
theorem Zf6 (l:List Bool) (i:Nat) (h:i<8*(pack l).length):rbit ⟨(pack l).toArray⟩ i=l.getD i false:=by
 have h1:(pack l).toArray.toList.getD (i/8) 0=UInt8.ofNat (Z0V l (i/8)):=by
  simp only[List.getD,List.getElem?_eq_getElem (show i/8<(pack l).length by omega),Z2d];rfl
 have h2:(UInt8.ofNat (Z0V l (i/8))).toNat=Z0V l (i/8):=by
  have:=Z1U l (i/8);simp[Nat.mod_eq_of_lt this]
 unfold rbit;show((pack l).toArray.toList.getD (i/8) 0).toNat.testBit _=_;rw[h1,h2]
 have h3:Z0V l (i/8)/2 ^ (7-i % 8) % 2=bt l i:=by
  have e:∀k,bt l k<=1:=Zov l;rw[Z1n];have hm:i % 8<8:=Nat.mod_lt _ (by omega);have hi:i=8*(i/8)+i % 8:=(Nat.div_add_mod i 8).symm;generalize i/8=q at*;generalize i % 8=m at*;subst hi;have e0:=e (8*q);have e1:=e (8*q+1);have e2:=e (8*q+2);have e3:=e (8*q+3);have e4:=e (8*q+4);have e5:=e (8*q+5);have e6:=e (8*q+6);have e7:=e (8*q+7);have:m=0\/m=1\/m=2\/m=3\/m=4\/m=5\/m=6\/m=7:=(by omega);rcases this with rfl|rfl|rfl|rfl|rfl|rfl|rfl|rfl<;>simp<;>omega
 rw[Nat.testBit_eq_decide_div_mod_eq,h3,bt];cases l.getD i false<;>simp
theorem nrd_bstr (l:List Bool) (h:l.length<=65536):nrd (bstr l)=some l.length/\rbits (bstr l) l.length=l:=by
 have hs:=bstr_size l;have eS:(pack (l++[true])).length=l.length/8+1:=(by rw[pack_length,List.length_append,List.length_singleton];omega);have hr:∀i,i<8*(l.length/8+1)->rbit (bstr l) i=(l++[true]).getD i false:=λi hi=>Zf6 (l++[true]) i (by rw[eS];exact hi)
 have sO:Z5E (bstr l) l.length:=by
  refine⟨by rw[hs];omega,?_,λi a b=> ?_⟩
  ·rw[hr _ (by omega)];simp
  ·rw[hr _ (by rw[hs] at b;exact b)];simp[List.getD,List.getElem?_append,List.getElem?_eq_none (show([true]:List Bool).length<=i-l.length by simp;omega),show ¬i<l.length by omega]
 constructor
 ·rw[ZnB sO (by omega) ?_,if_neg (by omega)];intro hz;have h1:=sO.2.1;unfold rbit at h1;rw[show l.length/8=(bstr l).size-1 from by omega,hz] at h1;simp at h1
 ·apply List.ext_getElem
  ·rw[rbits_length]
  ·intro i h1 h2;have:=Z8l (bstr l) l.length i h2;rw[hr i (by omega)] at this;simp only[List.getD,List.getElem?_eq_getElem h1,Option.getD_some] at this;rw[this,List.getElem?_append_left h2,List.getElem?_eq_getElem h2];rfl
end Wv.Bit
namespace Go.Proofs.YtchokmkfobandaaGreatDoor.Bio
open Go.RowKit Go.Proofs Wv Wv.Bit
theorem Z7B {j k:IntKind} {a b a' b':Int} (h:a=a') (h2:b=b'):Ending.returned (.tuple #[.int j a,.int k b])=.returned (.tuple #[.int j a',.int k b']):=by rw[h,h2]
theorem Z5c {k:IntKind} {a b:Int} (h:a=b):Ending.returned (.int k a)=.returned (.int k b):=by rw[h]
theorem ZnC {b x n:Nat} {s:ByteArray} {w:World} (h:RdAt w b s x n) (p:Int) (h0:0<=p) (h1:p<=62):
  Calls Tryz.prog 277 #[.pointer (some ⟨b,0,none⟩),.int .i64 p] w λe w'=>∃(v:Int) (er y:Nat),e=.returned (.tuple #[.int .i64 v,.int .i64 er])/\RdAt w' b s y n/\Fr (only b) w w'/\Z6g 0 p.toNat ((rbits s n).drop x) x v er y:=by
 have hx:=h.2.1;have hlen:((rbits s n).drop x).length=n-x:=(by rw[List.length_drop,rbits_length]);have cB:rd 0 p.toNat ((rbits s n).drop x)=if n-x<p.toNat then(0,0,12) else(val (((rbits s n).drop x).take p.toNat),p.toNat,0):=by rw[<-hlen];rfl
 by_cases hc:n-x<p.toNat
 ·rw[if_pos hc] at cB;have H:=h_ (Zl9 h p (by omega));have Hr:=h_ (show ∀v y,Z6g 0 p.toNat ((rbits s n).drop x) x v 12 y from λv y=>⟨λ_=>by rw[cB],λh=>by rw[cB] at h;simp at h,λh=>by rw[cB] at h;simp at h⟩);clear cB;go_enter Tryz.func277,Tryz.ntmps277;go_wp2_with (go_at_call 278;refine(H.o).mono ?_;rintro e w1 ⟨rfl,q,rfl⟩);go_ret2;exact⟨_,12,x,rfl,h,(Fr.refl _ _).drewN _,Hr.o _ _⟩
 ·rw[if_neg hc] at cB;have Ht:=Zi3 h p.toNat (by omega) (by omega);rw[Int.toNat_of_nonneg h0] at Ht;have H:=h_ Ht
  have Hr:=h_ (show Z6g 0 p.toNat ((rbits s n).drop x) x (val (((rbits s n).drop x).take p.toNat):Nat) 0 (x+p.toNat) from⟨λh=>by rw[cB] at h;simp at h,λ_ _=>by rw[cB];exact⟨rfl,rfl,rfl⟩,λ_ h=>by
   have:=Z3Z ((rbits s n).drop x) p.toNat (by omega);rw[cB] at h;simp only at h;omega⟩)
  clear cB Ht;go_enter Tryz.func277,Tryz.ntmps277;go_wp2_with (go_at_call 278;refine(H.o).mono ?_;rintro e w1 ⟨rfl,cA,aB⟩);go_ret2;exact⟨_,0,_,rfl,cA,aB,Hr.o⟩
theorem Ziq {b:Nat} {d0 d1 d2:Value} {w w1 w2:World} (f1:Fr (foot b d0) w w1) (o1:Z0k w d0 d1) (f2:Fr (foot b d1) w1 w2) (o2:Z0k w1 d1 d2):
  Fr (foot b d0) w w2/\Z0k w d0 d2:=by
 refine⟨f1.trans' f2 (λi hi hf=> ?_),?_⟩
 ·rcases hf with h|h
  ·exact .inl h
  ·rcases o1 with h1|h1
   ·exact .inr (h1▸h)
   ·have:=h1 i h;omega
 ·rcases o2 with h|h
  ·rcases o1 with h1|h1
   ·exact .inl (h.trans h1)
   ·exact .inr (λg hg=>h1 g (h▸hg))
  ·exact .inr (λg hg=>Nat.le_trans f1.size (h g hg))
theorem ZnD {a b:Bool} (h:a=b):Ending.returned (.bool a)=.returned (.bool b):=by rw[h]
theorem Z8H {v:Int} (h:0<=v) (p:Nat):(v/2 ^ p==0)=decide (v<2 ^ p):=by
 obtain⟨n,rfl⟩:=Int.eq_ofNat_of_zero_le h;rw[Z7g,<-Int.natCast_ediv];have h1:=Nat.two_pow_pos p;have h2:n/2 ^ p=0↔n<2 ^ p:=(by rw[Nat.div_eq_zero_iff];omega);rw[Bool.eq_iff_iff,beq_iff_eq,decide_eq_true_eq];omega
theorem Zlr (p v:Int) (h0:0<=p) (h1:p<=62) (aW: -9223372036854775808<=v) (bj:v<=9223372036854775807) (w:World):
  Calls Tryz.prog 274 #[.int .i64 p,.int .i64 v] w λe w'=>e=.returned (.bool (vld 0 p v))/\∃q,w'=w.drewN q:=by
 have hp:par 0 p=true:=(by simp[par];omega);by_cases hv:0<=v
 ·have hr:vld 0 p v=decide (v<2 ^ p.toNat):=(by simp[vld,hp,hv]);have Hr:=h_ hr;have Hz:=h_ (Z8H hv p.toNat);clear hr hp
  skip
  go_enter Tryz.func274,Tryz.ntmps274;go_wp2;go_ret;exact⟨ZnD (Hz.o.trans Hr.o.symm),0,rfl⟩
 ·have hr:vld 0 p v=false:=(by simp[vld,hp,hv]);have Hr:=h_ hr;clear hr hp;go_enter Tryz.func274,Tryz.ntmps274;go_wp2;go_ret;exact⟨ZnD Hr.o.symm,0,rfl⟩
theorem ZnE (p v:Int) (h:vld 0 p v=true) (w:World):
  Calls Tryz.prog 275 #[.int .i64 p,.int .i64 v] w λe w'=>e=.returned (.int .i64 ((Z3J 0 p.toNat v.toNat).length:Nat))/\∃q,w'=w.drewN q:=by
 have hc:=Z5u h;have hl:=h_ (show(Z3J 0 p.toNat v.toNat).length=p.toNat from by simp[Z3J,Z07]);have h0:0<=p:=(by omega);clear hc h;go_enter Tryz.func275,Tryz.ntmps275;go_wp2;go_ret;exact⟨Z5c (by rw[hl.o];omega),0,rfl⟩
theorem Zls {b:Nat} {dv:Value} {l:List Bool} {w:World} (hw:WrAt w b dv l) (p v:Int) (h:vld 0 p v=true) (hl:l.length<=65536):
  Calls Tryz.prog 276 #[.pointer (some ⟨b,0,none⟩),.int .i64 p,.int .i64 v] w λe w'=>e=.returned (.tuple #[])/\∃cD,WrAt w' b cD (l++Z3J 0 p.toNat v.toNat)/\Fr (foot b dv) w w'/\Z0k w dv cD:=by
 have hc:=Z5u h;obtain⟨ml,hc⟩:=hc;obtain⟨h0,h1,h2⟩:0<=p/\p<=62/\v<2 ^ p.toNat:=(by omega);have h3:=Zow p.toNat (by omega);have h4:=Z7g p.toNat;have H:=h_ (Ze3 hw p v h0 (by omega) ml (by omega) (by omega));clear hc h h2 h3 h4;go_enter Tryz.func276,Tryz.ntmps276;go_wp2_with (go_at_call 209;refine(H.o).mono ?_;rintro e w1 ⟨rfl,d1,eI,aB,gd⟩);go_end0;exact⟨rfl,d1,eI,aB,gd⟩
end Go.Proofs.YtchokmkfobandaaGreatDoor.Bio
