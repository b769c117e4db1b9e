import Derived.Test.YtchokmkfobandaaGreatDoorM10
import Derived.SliceStrings
import Derived.Test.YtchokmkfobandaaGreatDoorMShelf
import Derived.Test.YtchokmkfobandaaGreatDoorM03
set_option linter.unusedVariables false
set_option linter.unusedSimpArgs false
set_option maxRecDepth 100000
set_option maxHeartbeats 8000000
namespace Wv.Bc
open Wv.Vi Wv.Ru
def Zy (w:Int) (l:List ByteArray):Bool:=l.all (λv=>vld w (toL v))&&(decide (1<=w)&&decide (w<=128)&&decide (l.length<=4096))
theorem Zz {w:Int} {l:List ByteArray} :Zy w l=true↔(∀v∈l,vld w (toL v)=true)/\1<=w/\w<=128/\l.length<=4096:=by
 unfold Zy;rw[Va0,Va0,Va0,Vbp,Vaq,Vaq,Vaq,and_assoc]
def dAt (l:List ByteArray) (j:Nat):Option ByteArray:=if(difV (toL (l.getD j default)) (toL (l.getD (j+1) default))).2=true then some (bs (difV (toL (l.getD j default)) (toL (l.getD (j+1) default))).1) else none
def difP (l:List ByteArray) (k:Nat):List ByteArray:=(List.range k).filterMap (dAt l)
def difs (l:List ByteArray):List ByteArray:=difP l (l.length-1)
theorem Zb5 (l:List ByteArray) (k:Nat):difP l (k+1)=difP l k++(dAt l k).toList:=by
 unfold difP;rw[Vcp,List.filterMap_append];congr 1<;>(cases h:dAt l k<;>simp[h])
theorem Zb6 {l:List ByteArray} {k:Nat} :∀d∈difP l k,knV (toL d)=true:=by
 intro d hd;obtain⟨j,_,hj⟩:=List.mem_filterMap.1 hd;unfold dAt at hj;split at hj
 ·rename_i h;injection hj with hj;subst hj;exact(Z2K (Prod.ext rfl h)).1
 ·cases hj
def Yk (F:ByteArray->Nat) (p:ByteArray×Nat) (d:ByteArray):ByteArray×Nat:=if p.2<F d then(d,F d) else p
def stepOf (ds:List ByteArray):ByteArray:=(ds.foldl (Yk (λd=>ds.count d)) (bs [],0)).1
def Zw (l:List ByteArray):ByteArray:=if l=[]\/Zy ((l.getD 0 default).size:Int) l=false then bs [] else stepOf (difs l)
theorem ZeI (F:ByteArray->Nat) (p:ByteArray×Nat) (d:ByteArray):p.2<=(Yk F p d).2/\F d<=(Yk F p d).2:=by
 unfold Yk;split
 ·exact⟨by simp only;omega,UZz⟩
 ·exact⟨UZz,by omega⟩
theorem ZhU (F:ByteArray->Nat) (ds:List ByteArray):∀p,p.2<=(ds.foldl (Yk F) p).2/\∀d∈ds,F d<=(ds.foldl (Yk F) p).2:=by
 induction ds with
 |nil=>intro p;exact⟨UZz,λd hd=>by cases hd⟩
 |cons a r ih=>
  intro p;obtain⟨h1,h2⟩:=ZeI F p a;obtain⟨i1,i2⟩:=ih (Yk F p a);refine⟨Vas h1 i1,λd hd=> ?_⟩;rcases Va9.1 hd with rfl|hd
  ·exact Vas h2 i1
  ·exact i2 d hd
theorem YW (l:List ByteArray) (x:ByteArray):dict (l++[x])=Z9W (dict l) x:=by unfold dict;rw[Vbr];rfl
theorem Zb7 (F:ByteArray->Nat) (ds:List ByteArray) (p:ByteArray×Nat):(dict ds).foldl (Yk F) p=ds.foldl (Yk F) p:=by
 rw[<-List.reverse_reverse ds];induction ds.reverse with
 |nil=>rfl
 |cons a r ih=>
  rw[List.reverse_cons,YW,Vbr];unfold Z9W;by_cases h:a∈dict r.reverse
  ·rw[Vaf h,ih];have h2:a∈r.reverse:=(YL _ _).1 h;have:=(ZhU F r.reverse p).2 a h2;show _=Yk F _ a;generalize List.foldl (Yk F) p r.reverse=q at*;unfold Yk;rw[Vad (by omega)]
  ·rw[Vad h,Vbr,ih]
theorem ZeJ (F:ByteArray->Nat) (ds:List ByteArray):∀p,p.2=F p.1->(ds.foldl (Yk F) p).2=F (ds.foldl (Yk F) p).1:=by
 induction ds with
 |nil=>intro p h;exact h
 |cons a r ih=>
  intro p h;apply ih;unfold Yk;split
  ·rfl
  ·exact h
def okA (l:List ByteArray) (st:ByteArray) (j:Nat):Bool:=decide (addV (toL (l.getD j default)) (toL st)=(toL (l.getD (j+1) default),true))
def exP (l:List ByteArray) (st:ByteArray) (k:Nat):List Int:=((List.range k).filter (λj=> !okA l st j)).map (λ(j:Nat)=>(j:Int)+1)
def exI (l:List ByteArray) (st:ByteArray):List Int:=exP l st (l.length-1)
theorem ZeK (l:List ByteArray) (st:ByteArray) (k:Nat):exP l st (k+1)=if okA l st k=true then exP l st k else exP l st k++[(k:Int)+1]:=by
 unfold exP;rw[Vcp,List.filter_append,Vbk];cases h:okA l st k<;>simp[h]
theorem Z65 (l:List ByteArray) (st:ByteArray) (k:Nat):(exP l st k).length<=k:=by
 unfold exP;rw[Vag];have:=List.length_filter_le (λj=> !okA l st j) (List.range k);rw[Vbv] at this;exact this
theorem Zb8 {l:List ByteArray} {st:ByteArray} {k:Nat} :∀x∈exP l st k,1<=x/\x<=(k:Int):=by
 intro x hx;obtain⟨j,hj,rfl⟩:=Va6.1 hx;have:=List.mem_range.1 (List.mem_filter.1 hj).1;omega
theorem Z8G (l:List ByteArray) (st:ByteArray) (k:Nat):(exP l st k).Pairwise (· <·):=by
 unfold exP;rw[List.pairwise_map];exact(List.pairwise_lt_range.sublist List.filter_sublist).imp (λh=>by omega)
def atI (l:List ByteArray) (x:List Int):List ByteArray:=x.map (λi=>l.getD i.toNat default)
def ZE (l:List ByteArray):List ByteArray:=l.map (λv=>bs (shr (toL v)))
def extL (w:Int):List ByteArray->Option (List ByteArray)
 |[]=>some []
 |s::r=>if(ext w (toL s)).2=0 then(extL w r).map (bs (ext w (toL s)).1::·) else none
def mixL (last:ByteArray):List ByteArray->List ByteArray
 |[]=>[]
 |v::r=>bs (mixV (toL v) (toL last)).1::mixL v r
def Y8 (last:ByteArray):List ByteArray->List ByteArray
 |[]=>[]
 |v::r=>bs (mixV (toL v) (toL last)).1::Y8 (bs (mixV (toL v) (toL last)).1) r
theorem Z0B {w:Int} {l:List ByteArray} (h:∀v∈l,vld w (toL v)=true):extL w (ZE l)=some l:=by
 induction l with
 |nil=>rfl
 |cons v r ih=>
  have hv:=ZL.1 (h v Vap);have he:=Z5Z hv.1;rw[hv.2] at he;show(if(ext w (toL (bs (shr (toL v))))).2=0 then(extL w (ZE r)).map (bs (ext w (toL (bs (shr (toL v))))).1::·) else none)=_;rw[Zd,he,Vaf rfl,ih (λx hx=>h x (Vat _ hx))];rfl
theorem Z0C {w:Int} {l r:List ByteArray} (h:extL w l=some r):(∀v∈r,vld w (toL v)=true)/\r.length=l.length:=by
 induction l generalizing r with
 |nil=>injection h with h;subst h;exact⟨λv hv=>(by cases hv),rfl⟩
 |cons s t ih=>
  unfold extL at h;split at h
  ·rename_i he;match hq:extL w t,h with
   |none,h=>cases h
   |some q,h=>
    injection h with h;subst h;obtain⟨i1,i2⟩:=ih hq;refine⟨λv hv=> ?_,by simp[i2]⟩;rcases Va9.1 hv with rfl|hv
    ·rw[Zd];exact Zaw (Prod.ext rfl he)
    ·exact i1 v hv
  ·cases h
theorem Z0b (l:List ByteArray):∀last,(mixL last l).length=l.length:=by
 induction l with
 |nil=>intro _;rfl
 |cons v r ih=>intro last;simp[mixL,ih]
theorem ZhV {w:Int} {a b:List UInt8} (ha:vld w a=true) (hb:vld w b=true):vld w (mixV a b).1=true/\mixV (mixV a b).1 b=(a,0):=by
 obtain⟨a1,a2⟩:=ZL.1 ha;obtain⟨b1,b2⟩:=ZL.1 hb;obtain⟨m,h1,h2,h3,h4⟩:=Zev a1 b1 (by omega);rw[h1];exact⟨ZL.2 ⟨h2,by show(m.length:Int)=w;omega⟩,h4⟩
theorem Z8H {w:Int} {l:List ByteArray} :∀ {last:ByteArray},vld w (toL last)=true->(∀v∈l,vld w (toL v)=true)->(∀v∈mixL last l,vld w (toL v)=true)/\Y8 last (mixL last l)=l:=by
 induction l with
 |nil=>intro last _ _;exact⟨λv hv=>(by cases hv),rfl⟩
 |cons v r ih=>
  intro last hl h;have hv:=h v Vap;obtain⟨m1,m2⟩:=ZhV hv hl;obtain⟨i1,i2⟩:=ih (last:=v) hv (λx hx=>h x (Vat _ hx));refine⟨λx hx=> ?_,?_⟩
  ·rcases Va9.1 hx with rfl|hx
   ·rw[Zd];exact m1
   ·exact i1 x hx
  ·show bs (mixV (toL (bs (mixV (toL v) (toL last)).1)) (toL last)).1::Y8 (bs (mixV (toL (bs (mixV (toL v) (toL last)).1)) (toL last)).1) (mixL v r)=_;rw[Zd,m2];simp only[Za];rw[i2]
theorem Zb9 {w:Int} (h1:1<=w) (h2:w<=128):vld w (allV w 48)=true:=by
 unfold allV;rw[Vad (by simp[isC,cd];omega)];refine ZL.2 ⟨Zv.2 ⟨λc hc=> ?_,λh=> ?_,by rw[Vaw];omega⟩,by rw[Vaw];omega⟩
 ·rw[List.eq_of_mem_replicate hc];decide
 ·have:=congrArg List.length h;rw[Vaw] at this;simp at this;omega
end Wv.Bc
namespace Wv
open Go Go.RowKit Go.Deep Go.ChangeShapes Go.WideShapes
theorem ZeL {w:World} {p:Addr} {v:Value} (h:w.cell? p=some v):p.block<w.heap.size:=by
 rcases Nat.lt_or_ge p.block w.heap.size with h1|h1
 ·exact h1
 ·have h2:w.heap[p.block]? =none:=Array.getElem?_eq_none h1;simp[World.cell?,h2] at h
section
variable {H:Type} {enc:TypeId×Value->H} {P:Program} {w:World} {base:Nat} {spare:Nat->Bool} {held:Bool}
def I64 (n:Int):Prop:= -9223372036854775808<=n/\n<=9223372036854775807
theorem QG {n:Int} (h:(Lit.int .i64 n).wf=true):I64 n:=bounds_i64 h
def pv (l:List (Int×Int)):List Value:=l.flatMap λx=>[iv x.1,iv x.2]
theorem Z1M (l:List (Int×Int)):(pv l).length=l.length*2:=by
 induction l with
 |nil=>rfl
 |cons c D ih=>rw[show pv (c::D)=[iv c.1,iv c.2]++pv D from rfl,Vab,ih,Vaz];simp;omega
theorem Z3J (l:List (Int×Int)) (x:Int×Int):pv (l++[x])=pv l++[iv x.1,iv x.2]:=by simp[pv]
theorem Z7s (D:List (Int×Int)):∀(i:Nat) (h:i<D.length),(pv D)[i*2]? =some (iv D[i].1)/\(pv D)[i*2+1]? =some (iv D[i].2):=by
 induction D with
 |nil=>intro i h;simp at h
 |cons c D ih=>
  intro i h;have e:pv (c::D)=[iv c.1,iv c.2]++pv D:=rfl;match i,h with
  |0,_=>exact⟨rfl,rfl⟩
  |i+1,h=>
   have h2:i<D.length:=(by simpa using h);rw[e,Vbd (by simp;omega),Vbd (by simp;omega)];have:=ih i h2;rw[show(i+1)*2-[iv c.1,iv c.2].length=i*2 from by simp;omega,show(i+1)*2+1-[iv c.1,iv c.2].length=i*2+1 from by simp;omega];exact this
end
end Wv
namespace Wv.Bit
open Go.Lib (trailingZeros8)
def nrd (s:ByteArray):Option Nat:=
 if s.size=0 then none
 else if s.data.toList.getD (s.size-1) 0=0 then none
 else if 65536<8*s.size-1-trailingZeros8 (s.data.toList.getD (s.size-1) 0).toNat then none
 else some (8*s.size-1-trailingZeros8 (s.data.toList.getD (s.size-1) 0).toNat)
def Z1N (s:ByteArray) (n:Nat):Prop:=n<8*s.size/\rbit s n=true/\∀i,n<i->i<8*s.size->rbit s i=false
theorem Z1N.unique {s:ByteArray} {n m:Nat} (h:Z1N s n) (k:Z1N s m):n=m:=by
 rcases Nat.lt_trichotomy n m with c|c|c
 ·have:=h.2.2 m c k.1;rw[k.2.1] at this;cases this
 ·exact c
 ·have:=k.2.2 n c h.1;rw[h.2.1] at this;cases this
theorem Z7t:∀x:Fin 256,x.val≠0->trailingZeros8 x.val<8/\x.val.testBit (trailingZeros8 x.val)=true/\∀j:Fin 8,j.val<trailingZeros8 x.val->x.val.testBit j.val=false:=by decide+kernel
theorem Zba (s:ByteArray) (h0:s.size≠0) (hl:s.data.toList.getD (s.size-1) 0≠0):Z1N s (8*s.size-1-trailingZeros8 (s.data.toList.getD (s.size-1) 0).toNat):=by
 obtain⟨x,hx⟩:∃x,s.data.toList.getD (s.size-1) 0=x:=⟨_,rfl⟩;rw[hx] at hl⊢
 have uQ:x.toNat≠0:=λh=>hl (by
  have:=congrArg UInt8.ofNat h;simpa using this)
 obtain⟨h1,h2,h3⟩:=Z7t ⟨x.toNat,Vbi x⟩ uQ;simp only at h1 h2 h3;generalize trailingZeros8 x.toNat=t at*
 have hr:∀i,8*(s.size-1)<=i->i<8*s.size->rbit s i=x.toNat.testBit (7-i % 8):=by
  intro i a b;rw[rbit,show i/8=s.size-1 from by omega,hx]
 refine⟨by omega,?_,λi a b=> ?_⟩
 ·rw[hr _ (by omega) (by omega),show 7-(8*s.size-1-t) % 8=t from by omega,h2]
 ·rw[hr i (by omega) b];exact h3 ⟨7-i % 8,by omega⟩ (by simp only;omega)
theorem nrd_le {s:ByteArray} {n:Nat} (h:nrd s=some n):n<=65536/\Z1N s n/\s.size<=8193:=by
 unfold nrd at h;split at h
 ·cases h
 ·rename_i h0;split at h
  ·cases h
  ·rename_i h1;split at h
   ·cases h
   ·rename_i h2;injection h with h;have:=Zba s h0 h1;rw[h] at this h2;refine⟨by omega,this,?_⟩;have h8:trailingZeros8 (s.data.toList.getD (s.size-1) 0).toNat<=8:=Go.Lib.trailingZeros8_le8 ⟨_,Vbi _⟩;omega
theorem Zk9 {s:ByteArray} {n:Nat} (h:Z1N s n) (h0:s.size≠0) (hl:s.data.toList.getD (s.size-1) 0≠0):nrd s=if 65536<n then none else some n:=by
 have:=(Zba s h0 hl).unique h;unfold nrd;rw[Vad h0,Vad hl,this]
theorem Zbb {s:ByteArray} (h:s.size=0):nrd s=none:=by unfold nrd;rw[Vaf h]
theorem Zbc {s:ByteArray} (h:s.data.toList.getD (s.size-1) 0=0):nrd s=none:=by
 unfold nrd;by_cases h0:s.size=0
 ·rw[Vaf h0]
 ·rw[Vad h0,Vaf h]
def bstr (l:List Bool):ByteArray:=⟨(pack (l++[true])).toArray⟩
theorem bstr_size (l:List Bool):(bstr l).size=l.length/8+1:=by
 show(pack (l++[true])).toArray.size=_;simp[pack_length];omega
theorem Zbd (l:List Bool) (i:Nat) (h:i<8*(pack l).length):rbit ⟨(pack l).toArray⟩ i=l.getD i false:=by
 have h1:(pack l).toArray.toList.getD (i/8) 0=UInt8.ofNat (ZW l (i/8)):=by
  simp only[List.getD,Vao (show i/8<(pack l).length by omega),Xf];rfl
 have h2:(UInt8.ofNat (ZW l (i/8))).toNat=ZW l (i/8):=by
  have:=YZ l (i/8);simp[Nat.mod_eq_of_lt this]
 unfold rbit;show((pack l).toArray.toList.getD (i/8) 0).toNat.testBit _=_;rw[h1,h2]
 have h3:ZW l (i/8)/2 ^ (7-i % 8) % 2=bt l i:=by
  have e:∀k,bt l k<=1:=ZkY l;rw[Yp];have hm:i % 8<8:=Vdf _ (by omega);have hi:i=8*(i/8)+i % 8:=(Nat.div_add_mod i 8).symm;generalize i/8=q at*;generalize i % 8=m at*;subst hi;have e0:=e (8*q);have e1:=e (8*q+1);have e2:=e (8*q+2);have e3:=e (8*q+3);have e4:=e (8*q+4);have e5:=e (8*q+5);have e6:=e (8*q+6);have e7:=e (8*q+7);have:m=0\/m=1\/m=2\/m=3\/m=4\/m=5\/m=6\/m=7:=(by omega);rcases this with rfl|rfl|rfl|rfl|rfl|rfl|rfl|rfl<;>simp<;>omega
 rw[Nat.testBit_eq_decide_div_mod_eq,h3,bt];cases l.getD i false<;>simp
theorem nrd_bstr (l:List Bool) (h:l.length<=65536):nrd (bstr l)=some l.length/\rbits (bstr l) l.length=l:=by
 have hs:=bstr_size l;have fi:(pack (l++[true])).length=l.length/8+1:=(by rw[pack_length,Vab,Vbe];omega);have hr:∀i,i<8*(l.length/8+1)->rbit (bstr l) i=(l++[true]).getD i false:=λi hi=>Zbd (l++[true]) i (by rw[fi];exact hi)
 have tF:Z1N (bstr l) l.length:=by
  refine⟨by rw[hs];omega,?_,λi a b=> ?_⟩
  ·rw[hr _ (by omega)];simp
  ·rw[hr _ (by rw[hs] at b;exact b)];simp[List.getD,List.getElem?_append,Vcb (show([true]:List Bool).length<=i-l.length by simp;omega),show ¬i<l.length by omega]
 constructor
 ·rw[Zk9 tF (by omega) ?_,Vad (by omega)];intro hz;have h1:=tF.2.1;unfold rbit at h1;rw[show l.length/8=(bstr l).size-1 from by omega,hz] at h1;simp at h1
 ·apply Vcz
  ·rw[rbits_length]
  ·intro i h1 h2;have:=Z4q (bstr l) l.length i h2;rw[hr i (by omega)] at this;simp only[List.getD,Vao h1,Option.getD_some] at this;rw[this,List.getElem?_append_left h2,Vao h2];rfl
end Wv.Bit
namespace Go.Proofs.YtchokmkfobandaaGreatDoor.Bio
open Go.RowKit Go.Proofs Wv Wv.Bit
theorem Z3K {j k:IntKind} {a b a' b':Int} (h:a=a') (h2:b=b'):Ending.returned (.tuple #[.int j a,.int k b])=.returned (.tuple #[.int j a',.int k b']):=by rw[h,h2]
theorem Z1k {k:IntKind} {a b:Int} (h:a=b):Ending.returned (.int k a)=.returned (.int k b):=by rw[h]
theorem Zka {b x n:Nat} {s:ByteArray} {w:World} (h:RdAt w b s x n) (p:Int) (h0:0<=p) (h1:p<=62):
  Calls Tryz.prog 277 #[.pointer (some ⟨b,0,none⟩),.int .i64 p] w λe w'=>∃(v:Int) (er y:Nat),e=.returned (.tuple #[.int .i64 v,.int .i64 er])/\RdAt w' b s y n/\Fr (only b) w w'/\Z2s 0 p.toNat ((rbits s n).drop x) x v er y:=by
 have hx:=h.2.1;have hlen:((rbits s n).drop x).length=n-x:=(by rw[Va2,rbits_length]);have cJ:rd 0 p.toNat ((rbits s n).drop x)=if n-x<p.toNat then(0,0,12) else(val (((rbits s n).drop x).take p.toNat),p.toNat,0):=by rw[<-hlen];rfl
 by_cases hc:n-x<p.toNat
 ·rw[Vaf hc] at cJ;have H:=h_ (ZhE h p (by omega));have Hr:=h_ (show ∀v y,Z2s 0 p.toNat ((rbits s n).drop x) x v 12 y from λv y=>⟨λ_=>by rw[cJ],λh=>by rw[cJ] at h;simp at h,λh=>by rw[cJ] at h;simp at h⟩);clear cJ;go_enter Tryz.func277,Tryz.ntmps277;go_wp2_with (go_at_call 278;refine(H.o).mono ?_;rintro e w1 ⟨rfl,q,rfl⟩);go_ret2;exact⟨_,12,x,rfl,h,(Fr.refl _ _).drewN _,Hr.o _ _⟩
 ·rw[Vad hc] at cJ;have Ht:=Zep h p.toNat (by omega) (by omega);rw[Int.toNat_of_nonneg h0] at Ht;have H:=h_ Ht
  have Hr:=h_ (show Z2s 0 p.toNat ((rbits s n).drop x) x (val (((rbits s n).drop x).take p.toNat):Nat) 0 (x+p.toNat) from⟨λh=>by rw[cJ] at h;simp at h,λ_ _=>by rw[cJ];exact⟨rfl,rfl,rfl⟩,λ_ h=>by
   have:=Z03 ((rbits s n).drop x) p.toNat (by omega);rw[cJ] at h;simp only at h;omega⟩)
  clear cJ Ht;go_enter Tryz.func277,Tryz.ntmps277;go_wp2_with (go_at_call 278;refine(H.o).mono ?_;rintro e w1 ⟨rfl,cI,aC⟩);go_ret2;exact⟨_,0,_,rfl,cI,aC,Hr.o⟩
theorem ZeM {b:Nat} {d0 d1 d2:Value} {w w1 w2:World} (f1:Fr (foot b d0) w w1) (o1:Zo w d0 d1) (f2:Fr (foot b d1) w1 w2) (o2:Zo w1 d1 d2):
  Fr (foot b d0) w w2/\Zo w d0 d2:=by
 refine⟨f1.trans' f2 (λi hi hf=> ?_),?_⟩
 ·rcases hf with h|h
  ·exact .inl h
  ·rcases o1 with h1|h1
   ·exact .inr (h1▸h)
   ·have:=h1 i h;omega
 ·rcases o2 with h|h
  ·rcases o1 with h1|h1
   ·exact .inl (h.trans h1)
   ·exact .inr (λg hg=>h1 g (h▸hg))
  ·exact .inr (λg hg=>Vas f1.size (h g hg))
theorem Zkb {a b:Bool} (h:a=b):Ending.returned (.bool a)=.returned (.bool b):=by rw[h]
theorem Z4M {v:Int} (h:0<=v) (p:Nat):(v/2 ^ p==0)=decide (v<2 ^ p):=by
 obtain⟨n,rfl⟩:=Int.eq_ofNat_of_zero_le h;rw[Z3q,<-Int.natCast_ediv];have h1:=Nat.two_pow_pos p;have h2:n/2 ^ p=0↔n<2 ^ p:=(by rw[Nat.div_eq_zero_iff];omega);rw[Vbl,beq_iff_eq,decide_eq_true_eq];omega
theorem ZhW (p v:Int) (h0:0<=p) (h1:p<=62) (bq: -9223372036854775808<=v) (bm:v<=9223372036854775807) (w:World):
  Calls Tryz.prog 274 #[.int .i64 p,.int .i64 v] w λe w'=>e=.returned (.bool (vld 0 p v))/\∃q,w'=w.drewN q:=by
 have hp:par 0 p=true:=(by simp[par];omega);by_cases hv:0<=v
 ·have hr:vld 0 p v=decide (v<2 ^ p.toNat):=(by simp[vld,hp,hv]);have Hr:=h_ hr;have Hz:=h_ (Z4M hv p.toNat);clear hr hp
  skip
  go_enter Tryz.func274,Tryz.ntmps274;go_wp2;go_ret;exact⟨Zkb (Hz.o.trans Hr.o.symm),0,rfl⟩
 ·have hr:vld 0 p v=false:=(by simp[vld,hp,hv]);have Hr:=h_ hr;clear hr hp;go_enter Tryz.func274,Tryz.ntmps274;go_wp2;go_ret;exact⟨Zkb Hr.o.symm,0,rfl⟩
theorem Zkc (p v:Int) (h:vld 0 p v=true) (w:World):
  Calls Tryz.prog 275 #[.int .i64 p,.int .i64 v] w λe w'=>e=.returned (.int .i64 ((QM 0 p.toNat v.toNat).length:Nat))/\∃q,w'=w.drewN q:=by
 have hc:=Z1C h;have hl:=h_ (show(QM 0 p.toNat v.toNat).length=p.toNat from by simp[QM,Z8]);have h0:0<=p:=(by omega);clear hc h;go_enter Tryz.func275,Tryz.ntmps275;go_wp2;go_ret;exact⟨Z1k (by rw[hl.o];omega),0,rfl⟩
theorem ZhX {b:Nat} {dv:Value} {l:List Bool} {w:World} (hw:WrAt w b dv l) (p v:Int) (h:vld 0 p v=true) (hl:l.length<=65536):
  Calls Tryz.prog 276 #[.pointer (some ⟨b,0,none⟩),.int .i64 p,.int .i64 v] w λe w'=>e=.returned (.tuple #[])/\∃cO,WrAt w' b cO (l++QM 0 p.toNat v.toNat)/\Fr (foot b dv) w w'/\Zo w dv cO:=by
 have hc:=Z1C h;obtain⟨qZ,hc⟩:=hc;obtain⟨h0,h1,h2⟩:0<=p/\p<=62/\v<2 ^ p.toNat:=(by omega);have h3:=ZkZ p.toNat (by omega);have h4:=Z3q p.toNat;have H:=h_ (Zaa hw p v h0 (by omega) qZ (by omega) (by omega));clear hc h h2 h3 h4;go_enter Tryz.func276,Tryz.ntmps276;go_wp2_with (go_at_call 209;refine(H.o).mono ?_;rintro e w1 ⟨rfl,d1,eU,aC,gz⟩);go_end0;exact⟨rfl,d1,eU,aC,gz⟩
end Go.Proofs.YtchokmkfobandaaGreatDoor.Bio
