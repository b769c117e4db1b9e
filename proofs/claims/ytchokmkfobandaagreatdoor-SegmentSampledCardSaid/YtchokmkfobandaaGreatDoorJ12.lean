import Derived.Test.YtchokmkfobandaaGreatDoorJ10
import Derived.SliceStrings
import Derived.Test.YtchokmkfobandaaGreatDoorLShelf
import Derived.Test.YtchokmkfobandaaGreatDoorJ03
set_option linter.unusedVariables false
set_option linter.unusedSimpArgs false
set_option maxRecDepth 100000
set_option maxHeartbeats 8000000
namespace Wv.Bc
open Wv.Vi Wv.Ru
def Zz (w:Int) (l:List ByteArray):Bool:=l.all (λv=>vld w (toL v))&&(decide (1<=w)&&decide (w<=128)&&decide (l.length<=4096))
theorem ZA {w:Int} {l:List ByteArray} :Zz w l=true↔(∀v∈l,vld w (toL v)=true)/\1<=w/\w<=128/\l.length<=4096:=by
 unfold Zz;rw[Va1,Va1,Va1,Vbv,Vas,Vas,Vas,and_assoc]
def dAt (l:List ByteArray) (j:Nat):Option ByteArray:=if(difV (toL (l.getD j default)) (toL (l.getD (j+1) default))).2=true then some (bs (difV (toL (l.getD j default)) (toL (l.getD (j+1) default))).1) else none
def difP (l:List ByteArray) (k:Nat):List ByteArray:=(List.range k).filterMap (dAt l)
def difs (l:List ByteArray):List ByteArray:=difP l (l.length-1)
theorem Zb4 (l:List ByteArray) (k:Nat):difP l (k+1)=difP l k++(dAt l k).toList:=by
 unfold difP;rw[Vcr,List.filterMap_append];congr 1<;>(cases h:dAt l k<;>simp[h])
theorem Zb5 {l:List ByteArray} {k:Nat} :∀d∈difP l k,knV (toL d)=true:=by
 intro d hd;obtain⟨j,_,hj⟩:=List.mem_filterMap.1 hd;unfold dAt at hj;split at hj
 ·rename_i h;injection hj with hj;subst hj;exact(Z2C (Prod.ext rfl h)).1
 ·cases hj
def Yi (F:ByteArray->Nat) (p:ByteArray×Nat) (d:ByteArray):ByteArray×Nat:=if p.2<F d then(d,F d) else p
def stepOf (ds:List ByteArray):ByteArray:=(ds.foldl (Yi (λd=>ds.count d)) (bs [],0)).1
def Zx (l:List ByteArray):ByteArray:=if l=[]\/Zz ((l.getD 0 default).size:Int) l=false then bs [] else stepOf (difs l)
theorem ZeD (F:ByteArray->Nat) (p:ByteArray×Nat) (d:ByteArray):p.2<=(Yi F p d).2/\F d<=(Yi F p d).2:=by
 unfold Yi;split
 ·exact⟨by simp only;omega,UZz⟩
 ·exact⟨UZz,by omega⟩
theorem ZhP (F:ByteArray->Nat) (ds:List ByteArray):∀p,p.2<=(ds.foldl (Yi F) p).2/\∀d∈ds,F d<=(ds.foldl (Yi F) p).2:=by
 induction ds with
 |nil=>intro p;exact⟨UZz,λd hd=>by cases hd⟩
 |cons a r ih=>
  intro p;obtain⟨h1,h2⟩:=ZeD F p a;obtain⟨i1,i2⟩:=ih (Yi F p a);refine⟨Vaq h1 i1,λd hd=> ?_⟩;rcases Vba.1 hd with rfl|hd
  ·exact Vaq h2 i1
  ·exact i2 d hd
theorem YW (l:List ByteArray) (x:ByteArray):dict (l++[x])=Z9V (dict l) x:=by unfold dict;rw[Vbq];rfl
theorem Zb6 (F:ByteArray->Nat) (ds:List ByteArray) (p:ByteArray×Nat):(dict ds).foldl (Yi F) p=ds.foldl (Yi F) p:=by
 rw[<-List.reverse_reverse ds];induction ds.reverse with
 |nil=>rfl
 |cons a r ih=>
  rw[List.reverse_cons,YW,Vbq];unfold Z9V;by_cases h:a∈dict r.reverse
  ·rw[Vaf h,ih];have h2:a∈r.reverse:=(YM _ _).1 h;have:=(ZhP F r.reverse p).2 a h2;show _=Yi F _ a;generalize List.foldl (Yi F) p r.reverse=q at*;unfold Yi;rw[Vad (by omega)]
  ·rw[Vad h,Vbq,ih]
theorem ZeE (F:ByteArray->Nat) (ds:List ByteArray):∀p,p.2=F p.1->(ds.foldl (Yi F) p).2=F (ds.foldl (Yi F) p).1:=by
 induction ds with
 |nil=>intro p h;exact h
 |cons a r ih=>
  intro p h;apply ih;unfold Yi;split
  ·rfl
  ·exact h
def okA (l:List ByteArray) (st:ByteArray) (j:Nat):Bool:=decide (addV (toL (l.getD j default)) (toL st)=(toL (l.getD (j+1) default),true))
def exP (l:List ByteArray) (st:ByteArray) (k:Nat):List Int:=((List.range k).filter (λj=> !okA l st j)).map (λ(j:Nat)=>(j:Int)+1)
def exI (l:List ByteArray) (st:ByteArray):List Int:=exP l st (l.length-1)
theorem ZeF (l:List ByteArray) (st:ByteArray) (k:Nat):exP l st (k+1)=if okA l st k=true then exP l st k else exP l st k++[(k:Int)+1]:=by
 unfold exP;rw[Vcr,List.filter_append,Vbk];cases h:okA l st k<;>simp[h]
theorem Z61 (l:List ByteArray) (st:ByteArray) (k:Nat):(exP l st k).length<=k:=by
 unfold exP;rw[Vag];have:=List.length_filter_le (λj=> !okA l st j) (List.range k);rw[Vbu] at this;exact this
theorem Zb7 {l:List ByteArray} {st:ByteArray} {k:Nat} :∀x∈exP l st k,1<=x/\x<=(k:Int):=by
 intro x hx;obtain⟨j,hj,rfl⟩:=Va6.1 hx;have:=List.mem_range.1 (List.mem_filter.1 hj).1;omega
theorem Z8F (l:List ByteArray) (st:ByteArray) (k:Nat):(exP l st k).Pairwise (· <·):=by
 unfold exP;rw[List.pairwise_map];exact(List.pairwise_lt_range.sublist List.filter_sublist).imp (λh=>by omega)
def atI (l:List ByteArray) (x:List Int):List ByteArray:=x.map (λi=>l.getD i.toNat default)
def ZF (l:List ByteArray):List ByteArray:=l.map (λv=>bs (shr (toL v)))
def extL (w:Int):List ByteArray->Option (List ByteArray)
 |[]=>some []
 |s::r=>if(ext w (toL s)).2=0 then(extL w r).map (bs (ext w (toL s)).1::·) else none
def mixL (last:ByteArray):List ByteArray->List ByteArray
 |[]=>[]
 |v::r=>bs (mixV (toL v) (toL last)).1::mixL v r
def Y4 (last:ByteArray):List ByteArray->List ByteArray
 |[]=>[]
 |v::r=>bs (mixV (toL v) (toL last)).1::Y4 (bs (mixV (toL v) (toL last)).1) r
theorem Z0z {w:Int} {l:List ByteArray} (h:∀v∈l,vld w (toL v)=true):extL w (ZF l)=some l:=by
 induction l with
 |nil=>rfl
 |cons v r ih=>
  have hv:=ZM.1 (h v Vap);have he:=Z5V hv.1;rw[hv.2] at he;show(if(ext w (toL (bs (shr (toL v))))).2=0 then(extL w (ZF r)).map (bs (ext w (toL (bs (shr (toL v))))).1::·) else none)=_;rw[Ze,he,Vaf rfl,ih (λx hx=>h x (Var _ hx))];rfl
theorem Z0A {w:Int} {l r:List ByteArray} (h:extL w l=some r):(∀v∈r,vld w (toL v)=true)/\r.length=l.length:=by
 induction l generalizing r with
 |nil=>injection h with h;subst h;exact⟨λv hv=>(by cases hv),rfl⟩
 |cons s t ih=>
  unfold extL at h;split at h
  ·rename_i he;match hq:extL w t,h with
   |none,h=>cases h
   |some q,h=>
    injection h with h;subst h;obtain⟨i1,i2⟩:=ih hq;refine⟨λv hv=> ?_,by simp[i2]⟩;rcases Vba.1 hv with rfl|hv
    ·rw[Ze];exact Zav (Prod.ext rfl he)
    ·exact i1 v hv
  ·cases h
theorem Z08 (l:List ByteArray):∀last,(mixL last l).length=l.length:=by
 induction l with
 |nil=>intro _;rfl
 |cons v r ih=>intro last;simp[mixL,ih]
theorem ZhQ {w:Int} {a b:List UInt8} (ha:vld w a=true) (hb:vld w b=true):vld w (mixV a b).1=true/\mixV (mixV a b).1 b=(a,0):=by
 obtain⟨a1,a2⟩:=ZM.1 ha;obtain⟨b1,b2⟩:=ZM.1 hb;obtain⟨m,h1,h2,h3,h4⟩:=Zeq a1 b1 (by omega);rw[h1];exact⟨ZM.2 ⟨h2,by show(m.length:Int)=w;omega⟩,h4⟩
theorem Z8G {w:Int} {l:List ByteArray} :∀ {last:ByteArray},vld w (toL last)=true->(∀v∈l,vld w (toL v)=true)->(∀v∈mixL last l,vld w (toL v)=true)/\Y4 last (mixL last l)=l:=by
 induction l with
 |nil=>intro last _ _;exact⟨λv hv=>(by cases hv),rfl⟩
 |cons v r ih=>
  intro last hl h;have hv:=h v Vap;obtain⟨m1,m2⟩:=ZhQ hv hl;obtain⟨i1,i2⟩:=ih (last:=v) hv (λx hx=>h x (Var _ hx));refine⟨λx hx=> ?_,?_⟩
  ·rcases Vba.1 hx with rfl|hx
   ·rw[Ze];exact m1
   ·exact i1 x hx
  ·show bs (mixV (toL (bs (mixV (toL v) (toL last)).1)) (toL last)).1::Y4 (bs (mixV (toL (bs (mixV (toL v) (toL last)).1)) (toL last)).1) (mixL v r)=_;rw[Ze,m2];simp only[Zc];rw[i2]
theorem Zb8 {w:Int} (h1:1<=w) (h2:w<=128):vld w (allV w 48)=true:=by
 unfold allV;rw[Vad (by simp[isC,cd];omega)];refine ZM.2 ⟨Zv.2 ⟨λc hc=> ?_,λh=> ?_,by rw[Vaw];omega⟩,by rw[Vaw];omega⟩
 ·rw[List.eq_of_mem_replicate hc];decide
 ·have:=congrArg List.length h;rw[Vaw] at this;simp at this;omega
end Wv.Bc
namespace Wv
open Go Go.RowKit Go.Deep Go.ChangeShapes Go.WideShapes
theorem ZeG {w:World} {p:Addr} {v:Value} (h:w.cell? p=some v):p.block<w.heap.size:=by
 rcases Nat.lt_or_ge p.block w.heap.size with h1|h1
 ·exact h1
 ·have h2:w.heap[p.block]? =none:=Array.getElem?_eq_none h1;simp[World.cell?,h2] at h
section
variable {H:Type} {enc:TypeId×Value->H} {P:Program} {w:World} {base:Nat} {spare:Nat->Bool} {held:Bool}
def I64 (n:Int):Prop:= -9223372036854775808<=n/\n<=9223372036854775807
theorem Z2E {n:Int} (h:(Lit.int .i64 n).wf=true):I64 n:=bounds_i64 h
def pv (l:List (Int×Int)):List Value:=l.flatMap λx=>[iv x.1,iv x.2]
theorem Z1G (l:List (Int×Int)):(pv l).length=l.length*2:=by
 induction l with
 |nil=>rfl
 |cons c D ih=>rw[show pv (c::D)=[iv c.1,iv c.2]++pv D from rfl,Vab,ih,Vaz];simp;omega
theorem Z3C (l:List (Int×Int)) (x:Int×Int):pv (l++[x])=pv l++[iv x.1,iv x.2]:=by simp[pv]
theorem Z7s (D:List (Int×Int)):∀(i:Nat) (h:i<D.length),(pv D)[i*2]? =some (iv D[i].1)/\(pv D)[i*2+1]? =some (iv D[i].2):=by
 induction D with
 |nil=>intro i h;simp at h
 |cons c D ih=>
  intro i h;have e:pv (c::D)=[iv c.1,iv c.2]++pv D:=rfl;match i,h with
  |0,_=>exact⟨rfl,rfl⟩
  |i+1,h=>
   have h2:i<D.length:=(by simpa using h);rw[e,Vbc (by simp;omega),Vbc (by simp;omega)];have:=ih i h2;rw[show(i+1)*2-[iv c.1,iv c.2].length=i*2 from by simp;omega,show(i+1)*2+1-[iv c.1,iv c.2].length=i*2+1 from by simp;omega];exact this
end
end Wv
namespace Wv.Bit
open Go.Lib (trailingZeros8)
def nrd (s:ByteArray):Option Nat:=
 if s.size=0 then none
 else if s.data.toList.getD (s.size-1) 0=0 then none
 else if 65536<8*s.size-1-trailingZeros8 (s.data.toList.getD (s.size-1) 0).toNat then none
 else some (8*s.size-1-trailingZeros8 (s.data.toList.getD (s.size-1) 0).toNat)
def Z1H (s:ByteArray) (n:Nat):Prop:=n<8*s.size/\rbit s n=true/\∀i,n<i->i<8*s.size->rbit s i=false
theorem Z1H.unique {s:ByteArray} {n m:Nat} (h:Z1H s n) (k:Z1H s m):n=m:=by
 rcases Nat.lt_trichotomy n m with c|c|c
 ·have:=h.2.2 m c k.1;rw[k.2.1] at this;cases this
 ·exact c
 ·have:=k.2.2 n c h.1;rw[h.2.1] at this;cases this
theorem Z7t:∀x:Fin 256,x.val≠0->trailingZeros8 x.val<8/\x.val.testBit (trailingZeros8 x.val)=true/\∀j:Fin 8,j.val<trailingZeros8 x.val->x.val.testBit j.val=false:=by decide+kernel
theorem Zb9 (s:ByteArray) (h0:s.size≠0) (hl:s.data.toList.getD (s.size-1) 0≠0):Z1H s (8*s.size-1-trailingZeros8 (s.data.toList.getD (s.size-1) 0).toNat):=by
 obtain⟨x,hx⟩:∃x,s.data.toList.getD (s.size-1) 0=x:=⟨_,rfl⟩;rw[hx] at hl⊢
 have uQ:x.toNat≠0:=λh=>hl (by
  have:=congrArg UInt8.ofNat h;simpa using this)
 obtain⟨h1,h2,h3⟩:=Z7t ⟨x.toNat,Vbi x⟩ uQ;simp only at h1 h2 h3;generalize trailingZeros8 x.toNat=t at*
 have hr:∀i,8*(s.size-1)<=i->i<8*s.size->rbit s i=x.toNat.testBit (7-i % 8):=by
  intro i a b;rw[rbit,show i/8=s.size-1 from by omega,hx]
 refine⟨by omega,?_,λi a b=> ?_⟩
 ·rw[hr _ (by omega) (by omega),show 7-(8*s.size-1-t) % 8=t from by omega,h2]
 ·rw[hr i (by omega) b];exact h3 ⟨7-i % 8,by omega⟩ (by simp only;omega)
theorem nrd_le {s:ByteArray} {n:Nat} (h:nrd s=some n):n<=65536/\Z1H s n/\s.size<=8193:=by
 unfold nrd at h;split at h
 ·cases h
 ·rename_i h0;split at h
  ·cases h
  ·rename_i h1;split at h
   ·cases h
   ·rename_i h2;injection h with h;have:=Zb9 s h0 h1;rw[h] at this h2;refine⟨by omega,this,?_⟩;have h8:trailingZeros8 (s.data.toList.getD (s.size-1) 0).toNat<=8:=Go.Lib.trailingZeros8_le8 ⟨_,Vbi _⟩;omega
theorem Zk5 {s:ByteArray} {n:Nat} (h:Z1H s n) (h0:s.size≠0) (hl:s.data.toList.getD (s.size-1) 0≠0):nrd s=if 65536<n then none else some n:=by
 have:=(Zb9 s h0 hl).unique h;unfold nrd;rw[Vad h0,Vad hl,this]
theorem Zba {s:ByteArray} (h:s.size=0):nrd s=none:=by unfold nrd;rw[Vaf h]
theorem Zbb {s:ByteArray} (h:s.data.toList.getD (s.size-1) 0=0):nrd s=none:=by
 unfold nrd;by_cases h0:s.size=0
 ·rw[Vaf h0]
 ·rw[Vad h0,Vaf h]
def bstr (l:List Bool):ByteArray:=⟨(pack (l++[true])).toArray⟩
theorem bstr_size (l:List Bool):(bstr l).size=l.length/8+1:=by
 show(pack (l++[true])).toArray.size=_;simp[pack_length];omega
theorem Zbc (l:List Bool) (i:Nat) (h:i<8*(pack l).length):rbit ⟨(pack l).toArray⟩ i=l.getD i false:=by
 have h1:(pack l).toArray.toList.getD (i/8) 0=UInt8.ofNat (ZU l (i/8)):=by
  simp only[List.getD,Van (show i/8<(pack l).length by omega),Xg];rfl
 have h2:(UInt8.ofNat (ZU l (i/8))).toNat=ZU l (i/8):=by
  have:=YZ l (i/8);simp[Nat.mod_eq_of_lt this]
 unfold rbit;show((pack l).toArray.toList.getD (i/8) 0).toNat.testBit _=_;rw[h1,h2]
 have h3:ZU l (i/8)/2 ^ (7-i % 8) % 2=bt l i:=by
  have e:∀k,bt l k<=1:=ZkV l;rw[Yo];have hm:i % 8<8:=Vdd _ (by omega);have hi:i=8*(i/8)+i % 8:=(Nat.div_add_mod i 8).symm;generalize i/8=q at*;generalize i % 8=m at*;subst hi;have e0:=e (8*q);have e1:=e (8*q+1);have e2:=e (8*q+2);have e3:=e (8*q+3);have e4:=e (8*q+4);have e5:=e (8*q+5);have e6:=e (8*q+6);have e7:=e (8*q+7);have:m=0\/m=1\/m=2\/m=3\/m=4\/m=5\/m=6\/m=7:=(by omega);rcases this with rfl|rfl|rfl|rfl|rfl|rfl|rfl|rfl<;>simp<;>omega
 rw[Nat.testBit_eq_decide_div_mod_eq,h3,bt];cases l.getD i false<;>simp
theorem nrd_bstr (l:List Bool) (h:l.length<=65536):nrd (bstr l)=some l.length/\rbits (bstr l) l.length=l:=by
 have hs:=bstr_size l;have fh:(pack (l++[true])).length=l.length/8+1:=(by rw[pack_length,Vab,Vbd];omega);have hr:∀i,i<8*(l.length/8+1)->rbit (bstr l) i=(l++[true]).getD i false:=λi hi=>Zbc (l++[true]) i (by rw[fh];exact hi)
 have tE:Z1H (bstr l) l.length:=by
  refine⟨by rw[hs];omega,?_,λi a b=> ?_⟩
  ·rw[hr _ (by omega)];simp
  ·rw[hr _ (by rw[hs] at b;exact b)];simp[List.getD,List.getElem?_append,Vca (show([true]:List Bool).length<=i-l.length by simp;omega),show ¬i<l.length by omega]
 constructor
 ·rw[Zk5 tE (by omega) ?_,Vad (by omega)];intro hz;have h1:=tE.2.1;unfold rbit at h1;rw[show l.length/8=(bstr l).size-1 from by omega,hz] at h1;simp at h1
 ·apply Vc0
  ·rw[rbits_length]
  ·intro i h1 h2;have:=Z4l (bstr l) l.length i h2;rw[hr i (by omega)] at this;simp only[List.getD,Van h1,Option.getD_some] at this;rw[this,List.getElem?_append_left h2,Van h2];rfl
end Wv.Bit
namespace Go.Proofs.YtchokmkfobandaaGreatDoor.Bio
open Go.RowKit Go.Proofs Wv Wv.Bit
theorem Z3D {j k:IntKind} {a b a' b':Int} (h:a=a') (h2:b=b'):Ending.returned (.tuple #[.int j a,.int k b])=.returned (.tuple #[.int j a',.int k b']):=by rw[h,h2]
theorem Z1f {k:IntKind} {a b:Int} (h:a=b):Ending.returned (.int k a)=.returned (.int k b):=by rw[h]
theorem Zk6 {b x n:Nat} {s:ByteArray} {w:World} (h:RdAt w b s x n) (p:Int) (h0:0<=p) (h1:p<=62):
  Calls Tryz.prog 277 #[.pointer (some ⟨b,0,none⟩),.int .i64 p] w λe w'=>∃(v:Int) (er y:Nat),e=.returned (.tuple #[.int .i64 v,.int .i64 er])/\RdAt w' b s y n/\Fr (only b) w w'/\Z2l 0 p.toNat ((rbits s n).drop x) x v er y:=by
 have hx:=h.2.1;have hlen:((rbits s n).drop x).length=n-x:=(by rw[Va2,rbits_length]);have cG:rd 0 p.toNat ((rbits s n).drop x)=if n-x<p.toNat then(0,0,12) else(val (((rbits s n).drop x).take p.toNat),p.toNat,0):=by rw[<-hlen];rfl
 by_cases hc:n-x<p.toNat
 ·rw[Vaf hc] at cG;have H:=h_ (Zhz h p (by omega));have Hr:=h_ (show ∀v y,Z2l 0 p.toNat ((rbits s n).drop x) x v 12 y from λv y=>⟨λ_=>by rw[cG],λh=>by rw[cG] at h;simp at h,λh=>by rw[cG] at h;simp at h⟩);clear cG;go_enter Tryz.func277,Tryz.ntmps277;go_wp2_with (go_at_call 278;refine(H.o).mono ?_;rintro e w1 ⟨rfl,q,rfl⟩);go_ret2;exact⟨_,12,x,rfl,h,(Fr.refl _ _).drewN _,Hr.o _ _⟩
 ·rw[Vad hc] at cG;have Ht:=Zek h p.toNat (by omega) (by omega);rw[Int.toNat_of_nonneg h0] at Ht;have H:=h_ Ht
  have Hr:=h_ (show Z2l 0 p.toNat ((rbits s n).drop x) x (val (((rbits s n).drop x).take p.toNat):Nat) 0 (x+p.toNat) from⟨λh=>by rw[cG] at h;simp at h,λ_ _=>by rw[cG];exact⟨rfl,rfl,rfl⟩,λ_ h=>by
   have:=Z00 ((rbits s n).drop x) p.toNat (by omega);rw[cG] at h;simp only at h;omega⟩)
  clear cG Ht;go_enter Tryz.func277,Tryz.ntmps277;go_wp2_with (go_at_call 278;refine(H.o).mono ?_;rintro e w1 ⟨rfl,cF,aC⟩);go_ret2;exact⟨_,0,_,rfl,cF,aC,Hr.o⟩
theorem ZeH {b:Nat} {d0 d1 d2:Value} {w w1 w2:World} (f1:Fr (foot b d0) w w1) (o1:Zo w d0 d1) (f2:Fr (foot b d1) w1 w2) (o2:Zo w1 d1 d2):
  Fr (foot b d0) w w2/\Zo w d0 d2:=by
 refine⟨f1.trans' f2 (λi hi hf=> ?_),?_⟩
 ·rcases hf with h|h
  ·exact .inl h
  ·rcases o1 with h1|h1
   ·exact .inr (h1▸h)
   ·have:=h1 i h;omega
 ·rcases o2 with h|h
  ·rcases o1 with h1|h1
   ·exact .inl (h.trans h1)
   ·exact .inr (λg hg=>h1 g (h▸hg))
  ·exact .inr (λg hg=>Vaq f1.size (h g hg))
theorem Zk7 {a b:Bool} (h:a=b):Ending.returned (.bool a)=.returned (.bool b):=by rw[h]
theorem Z4H {v:Int} (h:0<=v) (p:Nat):(v/2 ^ p==0)=decide (v<2 ^ p):=by
 obtain⟨n,rfl⟩:=Int.eq_ofNat_of_zero_le h;rw[Z3i,<-Int.natCast_ediv];have h1:=Nat.two_pow_pos p;have h2:n/2 ^ p=0↔n<2 ^ p:=(by rw[Nat.div_eq_zero_iff];omega);rw[Vbl,beq_iff_eq,decide_eq_true_eq];omega
theorem ZhR (p v:Int) (h0:0<=p) (h1:p<=62) (bk: -9223372036854775808<=v) (bj:v<=9223372036854775807) (w:World):
  Calls Tryz.prog 274 #[.int .i64 p,.int .i64 v] w λe w'=>e=.returned (.bool (vld 0 p v))/\∃q,w'=w.drewN q:=by
 have hp:par 0 p=true:=(by simp[par];omega);by_cases hv:0<=v
 ·have hr:vld 0 p v=decide (v<2 ^ p.toNat):=(by simp[vld,hp,hv]);have Hr:=h_ hr;have Hz:=h_ (Z4H hv p.toNat);clear hr hp
  skip
  go_enter Tryz.func274,Tryz.ntmps274;go_wp2;go_ret;exact⟨Zk7 (Hz.o.trans Hr.o.symm),0,rfl⟩
 ·have hr:vld 0 p v=false:=(by simp[vld,hp,hv]);have Hr:=h_ hr;clear hr hp;go_enter Tryz.func274,Tryz.ntmps274;go_wp2;go_ret;exact⟨Zk7 Hr.o.symm,0,rfl⟩
theorem Zk8 (p v:Int) (h:vld 0 p v=true) (w:World):
  Calls Tryz.prog 275 #[.int .i64 p,.int .i64 v] w λe w'=>e=.returned (.int .i64 ((QK 0 p.toNat v.toNat).length:Nat))/\∃q,w'=w.drewN q:=by
 have hc:=Z1x h;have hl:=h_ (show(QK 0 p.toNat v.toNat).length=p.toNat from by simp[QK,Z7]);have h0:0<=p:=(by omega);clear hc h;go_enter Tryz.func275,Tryz.ntmps275;go_wp2;go_ret;exact⟨Z1f (by rw[hl.o];omega),0,rfl⟩
theorem ZhS {b:Nat} {dv:Value} {l:List Bool} {w:World} (hw:WrAt w b dv l) (p v:Int) (h:vld 0 p v=true) (hl:l.length<=65536):
  Calls Tryz.prog 276 #[.pointer (some ⟨b,0,none⟩),.int .i64 p,.int .i64 v] w λe w'=>e=.returned (.tuple #[])/\∃cK,WrAt w' b cK (l++QK 0 p.toNat v.toNat)/\Fr (foot b dv) w w'/\Zo w dv cK:=by
 have hc:=Z1x h;obtain⟨qV,hc⟩:=hc;obtain⟨h0,h1,h2⟩:0<=p/\p<=62/\v<2 ^ p.toNat:=(by omega);have h3:=ZkW p.toNat (by omega);have h4:=Z3i p.toNat;have H:=h_ (Za9 hw p v h0 (by omega) qV (by omega) (by omega));clear hc h h2 h3 h4;go_enter Tryz.func276,Tryz.ntmps276;go_wp2_with (go_at_call 209;refine(H.o).mono ?_;rintro e w1 ⟨rfl,d1,eS,aC,gy⟩);go_end0;exact⟨rfl,d1,eS,aC,gy⟩
end Go.Proofs.YtchokmkfobandaaGreatDoor.Bio
