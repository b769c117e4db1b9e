import Derived.Test.YtchokmkfobandaaGreatDoorJ00
import Derived.Handy
import Derived.IntWalk
import Derived.Laws.BitsAllLaws
import Derived.Lib.BitFns
set_option linter.unusedVariables false
set_option linter.unusedSimpArgs false
set_option maxRecDepth 100000
set_option maxHeartbeats 8000000
namespace Wv
def toL (s:ByteArray):List UInt8:=s.data.toList
def bs (l:List UInt8):ByteArray:=⟨l.toArray⟩
theorem Zc (s:ByteArray):bs (toL s)=s:=rfl
theorem Ze (l:List UInt8):toL (bs l)=l:=rfl
theorem Z1 (s:ByteArray):(toL s).length=s.size:=rfl
theorem Z0 (l:List UInt8):(bs l).size=l.length:=rfl
theorem Zg (a b:List UInt8):bs a++bs b=bs (a++b):=by
 apply Vck;simp[bs,ByteArray.data_append]
theorem Zhl {a b:ByteArray} :toL a=toL b↔a=b:=⟨λh=>by rw[<-Zc a,<-Zc b,h],λh=>by rw[h]⟩
end Wv
namespace Wv.Vi
def bnd:Nat->Nat
 |0=>0
 |k+1=>bnd k+2 ^ (7*(k+1))
def kof (n:Nat):Nat:=
 if n<128 then 0 else if n<16512 then 1 else if n<2113664 then 2 else if n<270549120 then 3 else if n<34630287488 then 4
 else if n<4432676798592 then 5 else if n<567382630219904 then 6 else if n<72624976668147840 then 7 else 8
def be:Nat->Nat->List UInt8
 |0,_=>[]
 |k+1,r=>UInt8.ofNat (r/256 ^ k)::be k r
def num (n:Nat):List UInt8:=UInt8.ofNat (256-2 ^ (8-kof n)+(n-bnd (kof n))/256 ^ kof n)::be (kof n) (n-bnd (kof n))
def lead (c:Nat):Nat:=if c<128 then 0 else if c<192 then 1 else if c<224 then 2 else if c<240 then 3 else if c<248 then 4 else if c<252 then 5 else if c<254 then 6 else if c<255 then 7 else 8
def vl (a:Nat) (l:List UInt8):Nat:=l.foldl (λa b=>256*a+b.toNat) a
def rd:List UInt8->Option (Nat×Nat)
 |[]=>none
 |c::t=>if t.length<lead c.toNat then none else
  if 9223372036854775807<vl (c.toNat-(256-2 ^ (8-lead c.toNat))) (t.take (lead c.toNat))+bnd (lead c.toNat) then none
  else some (vl (c.toNat-(256-2 ^ (8-lead c.toNat))) (t.take (lead c.toNat))+bnd (lead c.toNat),lead c.toNat+1)
theorem Z5J (c:UInt8) (t:List UInt8):rd (c::t)=if t.length<lead c.toNat then none else
  if 9223372036854775807<vl (c.toNat-(256-2 ^ (8-lead c.toNat))) (t.take (lead c.toNat))+bnd (lead c.toNat) then none
  else some (vl (c.toNat-(256-2 ^ (8-lead c.toNat))) (t.take (lead c.toNat))+bnd (lead c.toNat),lead c.toNat+1):=rfl
theorem Z17 (n:Nat):(kof n=0/\0<=n/\n<128)\/(kof n=1/\128<=n/\n<16512)\/(kof n=2/\16512<=n/\n<2113664)\/(kof n=3/\2113664<=n/\n<270549120)\/(kof n=4/\270549120<=n/\n<34630287488)\/(kof n=5/\34630287488<=n/\n<4432676798592)\/(kof n=6/\4432676798592<=n/\n<567382630219904)\/(kof n=7/\567382630219904<=n/\n<72624976668147840)\/(kof n=8/\72624976668147840<=n):=by
 by_cases c0:n<128
 ·exact .inl ⟨by unfold kof;simp only[c0,if_true],by omega,c0⟩
 by_cases c1:n<16512
 ·exact .inr (.inl ⟨by unfold kof;simp only[c0,c1,if_true,if_false],by omega,c1⟩)
 by_cases c2:n<2113664
 ·exact .inr (.inr (.inl ⟨by unfold kof;simp only[c0,c1,c2,if_true,if_false],by omega,c2⟩))
 by_cases c3:n<270549120
 ·exact .inr (.inr (.inr (.inl ⟨by unfold kof;simp only[c0,c1,c2,c3,if_true,if_false],by omega,c3⟩)))
 by_cases c4:n<34630287488
 ·exact .inr (.inr (.inr (.inr (.inl ⟨by unfold kof;simp only[c0,c1,c2,c3,c4,if_true,if_false],by omega,c4⟩))))
 by_cases c5:n<4432676798592
 ·exact .inr (.inr (.inr (.inr (.inr (.inl ⟨by unfold kof;simp only[c0,c1,c2,c3,c4,c5,if_true,if_false],by omega,c5⟩)))))
 by_cases c6:n<567382630219904
 ·exact .inr (.inr (.inr (.inr (.inr (.inr (.inl ⟨by unfold kof;simp only[c0,c1,c2,c3,c4,c5,c6,if_true,if_false],by omega,c6⟩))))))
 by_cases c7:n<72624976668147840
 ·exact .inr (.inr (.inr (.inr (.inr (.inr (.inr (.inl ⟨by unfold kof;simp only[c0,c1,c2,c3,c4,c5,c6,c7,if_true,if_false],by omega,c7⟩)))))))
 exact .inr (.inr (.inr (.inr (.inr (.inr (.inr (.inr (⟨by unfold kof;simp only[c0,c1,c2,c3,c4,c5,c6,c7,if_false],by omega⟩))))))))
theorem Y5 (n:Nat):kof n<=8:=by have:=Z17 n;omega
theorem QU:bnd 0=0/\bnd 1=128/\bnd 2=16512/\bnd 3=2113664/\bnd 4=270549120/\bnd 5=34630287488/\bnd 6=4432676798592/\bnd 7=567382630219904/\bnd 8=72624976668147840:=by decide
theorem nine (k:Nat) (h:k<=8):k=0\/k=1\/k=2\/k=3\/k=4\/k=5\/k=6\/k=7\/k=8:=by omega
theorem ZgC (k:Nat) (h:k<=8):bnd k<=72624976668147840:=by
 have:=QU;rcases nine k h with rfl|rfl|rfl|rfl|rfl|rfl|rfl|rfl|rfl<;>omega
theorem Ze0 (n k:Nat) (h:k<8) (hk:k<=kof n):bnd (k+1)<=n↔k<kof n:=by
 have h1:=Z17 n;have h2:=QU;rcases nine k (by omega) with rfl|rfl|rfl|rfl|rfl|rfl|rfl|rfl|rfl<;>simp only[Vbo,Nat.reduceAdd]<;>omega
theorem Z9Q (n:Nat):bnd (kof n)<=n:=by
 have h1:=Z17 n;have h2:=QU;rcases nine (kof n) (Y5 n) with h|h|h|h|h|h|h|h|h<;>rw[h] at h1⊢<;>omega
theorem Z9R (n:Nat) (hn:n<9223372036854775808):(n-bnd (kof n))/256 ^ kof n<2 ^ (7-kof n)/\(kof n=8->(n-bnd (kof n))/256 ^ kof n=0):=by
 have h1:=Z17 n;have h2:=QU;rcases nine (kof n) (Y5 n) with h|h|h|h|h|h|h|h|h<;>rw[h] at h1⊢<;>simp only[Nat.reducePow,Nat.reduceSub]<;>omega
theorem Y6 (k r:Nat):(be k r).length=k:=by
 induction k with
 |zero=>rfl
 |succ k ih=>simp[be,ih]
theorem Z7 (n:Nat):(num n).length=kof n+1:=by simp[num,Y6]
theorem Zhm (k:Nat):∀a r,vl a (be k r)=a*256 ^ k+r % 256 ^ k:=by
 induction k with
 |zero=>intro a r;simp[vl,be,Nat.mod_one]
 |succ k ih=>
  intro a r;have e:vl a (be (k+1) r)=vl (256*a+(UInt8.ofNat (r/256 ^ k)).toNat) (be k r):=rfl;rw[e,ih];have h1:(UInt8.ofNat (r/256 ^ k)).toNat=r/256 ^ k % 256:=(by simp);rw[h1,Vbr,Nat.mod_mul];rw[Vc7,Vbt (r/256 ^ k % 256)];have:256*a*256 ^ k=a*(256 ^ k*256):=(by rw[Vbt 256 a,Vb4,Vbt 256]);omega
theorem Z1m (c:Nat):(lead c=0/\0<=c/\c<128)\/(lead c=1/\128<=c/\c<192)\/(lead c=2/\192<=c/\c<224)\/(lead c=3/\224<=c/\c<240)\/(lead c=4/\240<=c/\c<248)\/(lead c=5/\248<=c/\c<252)\/(lead c=6/\252<=c/\c<254)\/(lead c=7/\254<=c/\c<255)\/(lead c=8/\255<=c):=by
 by_cases c0:c<128
 ·exact .inl ⟨by unfold lead;simp only[c0,if_true],by omega,c0⟩
 by_cases c1:c<192
 ·exact .inr (.inl ⟨by unfold lead;simp only[c0,c1,if_true,if_false],by omega,c1⟩)
 by_cases c2:c<224
 ·exact .inr (.inr (.inl ⟨by unfold lead;simp only[c0,c1,c2,if_true,if_false],by omega,c2⟩))
 by_cases c3:c<240
 ·exact .inr (.inr (.inr (.inl ⟨by unfold lead;simp only[c0,c1,c2,c3,if_true,if_false],by omega,c3⟩)))
 by_cases c4:c<248
 ·exact .inr (.inr (.inr (.inr (.inl ⟨by unfold lead;simp only[c0,c1,c2,c3,c4,if_true,if_false],by omega,c4⟩))))
 by_cases c5:c<252
 ·exact .inr (.inr (.inr (.inr (.inr (.inl ⟨by unfold lead;simp only[c0,c1,c2,c3,c4,c5,if_true,if_false],by omega,c5⟩)))))
 by_cases c6:c<254
 ·exact .inr (.inr (.inr (.inr (.inr (.inr (.inl ⟨by unfold lead;simp only[c0,c1,c2,c3,c4,c5,c6,if_true,if_false],by omega,c6⟩))))))
 by_cases c7:c<255
 ·exact .inr (.inr (.inr (.inr (.inr (.inr (.inr (.inl ⟨by unfold lead;simp only[c0,c1,c2,c3,c4,c5,c6,c7,if_true,if_false],by omega,c7⟩)))))))
 exact .inr (.inr (.inr (.inr (.inr (.inr (.inr (.inr (⟨by unfold lead;simp only[c0,c1,c2,c3,c4,c5,c6,c7,if_false],by omega⟩))))))))
theorem Z5K (c:Nat):lead c<=8:=by have:=Z1m c;omega
theorem Z2v (k m:Nat) (hk:k<=8) (hm:m<2 ^ (7-k)) (h8:k=8->m=0):256-2 ^ (8-k)+m<256/\lead (256-2 ^ (8-k)+m)=k:=by
 have h1:=Z1m (256-2 ^ (8-k)+m);rcases nine k hk with rfl|rfl|rfl|rfl|rfl|rfl|rfl|rfl|rfl<;>simp only[Nat.reducePow,Nat.reduceSub] at h1 hm⊢<;>omega
theorem ZgD (n:Nat) (hn:n<9223372036854775808) (r:List UInt8):rd (num n++r)=some (n,kof n+1):=by
 obtain⟨h1,h2⟩:=Z9R n hn;obtain⟨h3,h4⟩:=Z2v (kof n) _ (Y5 n) h1 h2;have h5:(UInt8.ofNat (256-2 ^ (8-kof n)+(n-bnd (kof n))/256 ^ kof n)).toNat=256-2 ^ (8-kof n)+(n-bnd (kof n))/256 ^ kof n:=(by simp[Nat.mod_eq_of_lt h3])
 have h6:(be (kof n) (n-bnd (kof n))++r).take (kof n)=be (kof n) (n-bnd (kof n)):=by
  rw[List.take_append_of_le_length (by rw[Y6];exact UZz),Vah (by rw[Y6];exact UZz)]
 have h7:vl (256-2 ^ (8-kof n)+(n-bnd (kof n))/256 ^ kof n-(256-2 ^ (8-kof n))) (be (kof n) (n-bnd (kof n)))=n-bnd (kof n):=by
  rw[Zhm,Nat.add_sub_cancel_left,Nat.div_add_mod']
 have h8:=Z9Q n;show rd (UInt8.ofNat _::(be _ _++r))=_;rw[Z5J,h5,h4,h6,h7,Vad (by rw[Vab,Y6];omega),Vad (by omega)];congr 2;omega
theorem ZkS {s:List UInt8} {n z:Nat} (h:rd s=some (n,z)):n<=9223372036854775807/\1<=z/\z<=s.length/\z<=9:=by
 match s with
 |[]=>simp[rd] at h
 |c::t=>
  rw[Z5J] at h;have:=Z5K c.toNat;split at h
  ·cases h
  ·split at h
   ·cases h
   ·injection h with h;injection h with h1 h2;subst h1 h2;simp only[Vaz];omega
end Wv.Vi
namespace Wv.Rc
open Wv.Vi
structure En where
 out:List UInt8
 low:Nat
 size:Nat
structure De where
 rest:List UInt8
 code:Nat
 size:Nat
 miss:Bool
 full:Bool
def inc:List UInt8->List UInt8
 |[]=>[]
 |b::t=>if b=255 then 0::inc t else(b+1)::t
def XD (l:List UInt8):List UInt8:=(inc l.reverse).reverse
def YU (e:En):En:=⟨e.out++[UInt8.ofNat (e.low/16777216)],e.low*256 % 4294967296,e.size*256⟩
def Q0:Nat->En->En
 |0,e=>e
 |k+1,e=>if e.size<16777216 then Q0 k (YU e) else e
def Yz (p b:Nat) (e:En):En:=
 if b=0 then⟨e.out,e.low,e.size/2048*p⟩
 else if 4294967296<=e.low+e.size/2048*p then⟨XD e.out,e.low+e.size/2048*p-4294967296,e.size-e.size/2048*p⟩
 else⟨e.out,e.low+e.size/2048*p,e.size-e.size/2048*p⟩
def ebit (p b:Nat) (e:En):En:=Q0 2 (Yz p b e)
def e0:En:=⟨[],0,4294967295⟩
def efin (e:En):List UInt8:=e.out++be 4 e.low
def X9 (d:De):De:=
 match d.rest with
 |[]=>⟨[],d.code*256 % 4294967296,d.size,true,d.full⟩
 |c::t=>⟨t,d.code*256 % 4294967296+c.toNat,d.size,d.miss,d.full⟩
def QV (d:De):De:= { X9 d with size:=d.size*256 }
def Z11:Nat->De->De
 |0,d=>d
 |k+1,d=>if d.size<16777216 then Z11 k (QV d) else d
def Z1n (p:Nat) (d:De):De:=
 if d.code<d.size/2048*p then { d with size:=d.size/2048*p } else { d with code:=d.code-d.size/2048*p,size:=d.size-d.size/2048*p }
def dbt (p:Nat) (d:De):Nat:=if d.code<d.size/2048*p then 0 else 1
def dbit (p:Nat) (d:De):De:=Z11 2 (Z1n p d)
def dpre (s:List UInt8):De:=X9 (X9 (X9 (X9 ⟨s,0,4294967295,false,false⟩)))
def d0 (s:List UInt8):De:= { dpre s with full:=decide ((dpre s).code=(dpre s).size) }
def dend (d:De):Bool:= !d.miss&& !d.full&&d.rest.isEmpty&&d.code==0
def edir:Nat->Nat->En->En
 |0,_,e=>e
 |n+1,v,e=>edir n v (ebit 1024 (v/2 ^ n % 2) e)
def ddir:Nat->Nat->De->Nat×De
 |0,a,d=>(a,d)
 |n+1,a,d=>ddir n (2*a+dbt 1024 d) (dbit 1024 d)
theorem Z1o (a:Nat) (l:List UInt8) (b:UInt8):vl a (l++[b])=256*vl a l+b.toNat:=by simp[vl,Vbq]
theorem YI {α:Type} {P:List α->Prop} (h0:P []) (h1:∀l a,P l->P (l++[a])) (l:List α):P l:=by
 rw[<-List.reverse_reverse l];induction l.reverse with
 |nil=>exact h0
 |cons a l ih=>rw[List.reverse_cons];exact h1 _ _ ih
theorem Z0s (l:List UInt8):XD (l++[255])=XD l++[0]:=by simp[XD,inc]
theorem Z0t (l:List UInt8) (b:UInt8) (h:b≠255):XD (l++[b])=l++[b+1]:=by simp[XD,inc,h]
theorem Yd (l:List UInt8):(XD l).length=l.length:=by
 induction l using YI with
 |h0=>rfl
 |h1 l b ih=>
  by_cases h:b=255
  ·subst h;rw[Z0s];simp[ih]
  ·rw[Z0t _ _ h];simp
theorem Z76 (l:List UInt8) (h:vl 0 l+1<256 ^ l.length):vl 0 (XD l)=vl 0 l+1:=by
 induction l using YI with
 |h0=>simp[vl] at h
 |h1 l b ih=>
  rw[Z1o] at h⊢;by_cases hb:b=255
  ·subst hb;rw[Z0s,Z1o];have e:(255:UInt8).toNat=255:=rfl;rw[e] at h⊢;rw[Vab,Vbd,Vbr] at h;rw[ih (by omega)];have:(0:UInt8).toNat=0:=rfl;omega
  ·rw[Z0t _ _ hb,Z1o];have h1:b.toNat≠255:=λe=>hb (UInt8.toNat_inj.1 e);have h2:=Vbi b
   have:(b+1).toNat=b.toNat+1:=by
    rw[UInt8.toNat_add];have:(1:UInt8).toNat=1:=rfl;omega
   omega
def N (e:En):Nat:=vl 0 e.out*4294967296+e.low
def Szk (k:Nat) (n:Nat):Prop:=16777216<=n*256 ^ k/\n<4294967296
structure Val (k:Nat) (e:En):Prop where
 sz:Szk k e.size
 low:e.low<4294967296
 top:N e+e.size<=4294967295*256 ^ e.out.length
theorem Z4f:Val 0 e0:=⟨⟨by decide,by decide⟩,by decide,by decide⟩
theorem Z4g {e:En} (h:Val 0 e):16777216<=e.size/\e.size<4294967296:=by have:=h.sz;unfold Szk at this;omega
theorem QW (s p:Nat) (h1:16777216<=s) (dB:1<=p) (eA:p<=2047):8192<=s/2048*p/\s/2048*p+8192<=s:=by
 have a1:s/2048*1<=s/2048*p:=Vct _ dB;have a2:s/2048*p<=s/2048*2047:=Vct _ eA;omega
theorem Q4 {e:En} (h:Val 0 e) {p b:Nat} (dB:1<=p) (eA:p<=2047):Val 2 (Yz p b e)/\N e<=N (Yz p b e)/\N (Yz p b e)+(Yz p b e).size<=N e+e.size/\(Yz p b e).out.length=e.out.length:=by
 obtain⟨h1,h2⟩:=Z4g h;obtain⟨b1,b2⟩:=QW e.size p h1 dB eA;have h3:=h.low;have h4:=h.top;clear h;have hN:∀o l s,N ⟨o,l,s⟩=vl 0 o*4294967296+l:=λ_ _ _=>rfl;have rH:N e=vl 0 e.out*4294967296+e.low:=rfl
 have key:∀x:En,8192<=x.size->x.size<=e.size->x.low<4294967296->N x+x.size<=N e+e.size->N e<=N x->x.out.length=e.out.length->Val 2 x/\N e<=N x/\N x+x.size<=N e+e.size/\x.out.length=e.out.length:=by
  intro x a1 a2 a3 a4 a5 a6;refine⟨⟨⟨by omega,by omega⟩,a3,?_⟩,a5,a4,a6⟩;rw[a6];exact Vaq a4 h4
 unfold Yz;generalize e.size/2048*p=B at*;split
 ·exact key _ b1 (by show B<=_;omega) h3 (by rw[hN,<-rH];show _+B<=_;omega) (by rw[hN,<-rH];exact UZz) rfl
 ·split
  ·rename_i _ dE
   have hc:vl 0 e.out+1<256 ^ e.out.length:=by
    rw[rH] at h4;generalize 256 ^ e.out.length=M at*;omega
   have hv:=Z76 e.out hc;clear h4;exact key _ (by show _<=e.size-B;omega) (by show e.size-B<=_;omega) (by show e.low+B-_<_;omega) (by rw[hN,hv,rH];show _+(e.size-B)<=_;omega) (by rw[hN (XD e.out),hv,rH];omega) (Yd _)
  ·clear h4;exact key _ (by show _<=e.size-B;omega) (by show e.size-B<=_;omega) (by show e.low+B<_;omega) (by rw[hN,rH];show _+(e.size-B)<=_;omega) (by rw[hN e.out (e.low+B),rH];omega) rfl
theorem Z3d (e:En) (h:e.low<4294967296):N (YU e)=256*N e:=by
 unfold N YU;rw[Z1o];have:(UInt8.ofNat (e.low/16777216)).toNat=e.low/16777216:=(by simp;omega);simp only[this];omega
theorem Qk {k:Nat} {e:En} (h:Val (k+1) e) (hs:e.size<16777216):Val k (YU e):=by
 have h1:=h.sz;have h3:=h.low;have h4:=h.top;refine⟨⟨?_,?_⟩,?_,?_⟩
 ·have:=h1.1;rw[Vbr,<-Vb4] at this;show _<=e.size*256*256 ^ k;rw[Nat.mul_right_comm];exact this
 ·show e.size*256<_;omega
 ·show e.low*256 % 4294967296<4294967296;omega
 ·rw[Z3d e h3];show 256*N e+e.size*256<=4294967295*256 ^ (e.out++[_]).length;rw[Vab,Vbd,Vbr,<-Vb4];omega
theorem Z9S (k:Nat):∀ {e:En},Val k e->Val 0 (Q0 k e):=by
 induction k with
 |zero=>intro e h;exact h
 |succ k ih=>
  intro e h;rw[Q0];split
  ·exact ih (Qk h (by assumption))
  ·refine⟨⟨?_,h.sz.2⟩,h.low,h.top⟩;simp;omega
theorem Xe {e:En} (h:Val 0 e) {p b:Nat} (dB:1<=p) (eA:p<=2047):Val 0 (ebit p b e):=Z9S 2 (Q4 h dB eA).1
section
variable (F:List UInt8)
def P (k:Nat):Nat:=vl 0 (F.take k)
theorem ZgE (k:Nat) (h:k<F.length):P F (k+1)=256*P F k+(F[k]).toNat:=by
 unfold P;rw[Vac h,Z1o]
structure Wi (e:En):Prop where
 len:e.out.length+4<=F.length
 lo:N e<=P F (e.out.length+4)
 hi:P F (e.out.length+4)<N e+e.size
structure Sy (e:En) (d:De):Prop where
 wi:Wi F e
 size:d.size=e.size
 code:d.code=P F (e.out.length+4)-N e
 rest:d.rest=F.drop (e.out.length+4)
 miss:d.miss=false
 full:d.full=false
variable {F}
theorem YR (e:En):(YU e).out.length=e.out.length+1:=by simp[YU]
theorem Ze1 {e:En} (hl:e.low<4294967296) (h:Wi F (YU e)):Wi F e:=by
 obtain⟨h1,h2,h3⟩:=h;rw[YR] at h1 h2 h3;rw[Z3d e hl] at h2 h3;have e1:e.out.length+1+4=(e.out.length+4)+1:=(by omega);rw[e1,ZgE F _ (by omega)] at h2 h3;have h4:(YU e).size=e.size*256:=rfl;rw[h4] at h3;have:=Vbi (F[e.out.length+4]'(by omega));exact⟨by omega,by omega,by omega⟩
theorem Z5L (k:Nat):∀ {e:En},Val k e->Wi F (Q0 k e)->Wi F e:=by
 induction k with
 |zero=>intro e _ h;exact h
 |succ k ih=>
  intro e hv h;rw[Q0] at h;split at h
  ·exact Ze1 hv.low (ih (Qk hv (by assumption)) h)
  ·exact h
theorem ZgF {e:En} (h:Val 0 e) {p b:Nat} (dB:1<=p) (eA:p<=2047) (hw:Wi F (ebit p b e)):Wi F e:=by
 obtain⟨h1,h2,h3,h4⟩:=Q4 h (b:=b) dB eA;obtain⟨k1,k2,k3⟩:=Z5L 2 h1 hw;rw[h4] at k1 k2 k3;exact⟨k1,by omega,by omega⟩
theorem Ze2 {e:En} {d:De} (hl:e.low<4294967296) (hs:e.size<16777216) (h:Sy F e d) (hw:Wi F (YU e)):Sy F (YU e) (QV d):=by
 obtain⟨⟨g1,g2,g3⟩,h1,h2,h3,h4,h5⟩:=h;have hlen:=hw.len;rw[YR] at hlen;have hr:d.rest=F[e.out.length+4]::F.drop (e.out.length+5):=(by rw[h3,Va4 (by omega)])
 have hn:QV d=⟨F.drop (e.out.length+5),d.code*256 % 4294967296+(F[e.out.length+4]).toNat,d.size*256,d.miss,d.full⟩:=by
  unfold QV X9;rw[hr]
 refine⟨hw,by rw[hn];show d.size*256=e.size*256;rw[h1],?_,by rw[hn,YR],by rw[hn];exact h4,by rw[hn];exact h5⟩;rw[hn,YR,Z3d e hl,show e.out.length+1+4=(e.out.length+4)+1 from by omega,ZgE F _ (by omega)];show d.code*256 % 4294967296+_=_;rw[h2];omega
theorem Zhn (k:Nat):∀ {e:En} {d:De},Val k e->Sy F e d->Wi F (Q0 k e)->Sy F (Q0 k e) (Z11 k d):=by
 induction k with
 |zero=>intro e d _ h _;exact h
 |succ k ih=>
  intro e d hv h hw;rw[Q0] at hw⊢;rw[Z11,h.size];split
  ·rename_i hs;rw[Vaf hs] at hw;have oH:=Qk hv hs;exact ih oH (Ze2 hv.low hs h (Z5L k oH hw)) hw
  ·exact h
theorem ZgG {e:En} {d:De} (hv:Val 0 e) {p b:Nat} (hb:b<2) (dB:1<=p) (eA:p<=2047) (h:Sy F e d) (hw:Wi F (ebit p b e)):dbt p d=b/\Sy F (ebit p b e) (dbit p d):=by
 obtain⟨h1,h2,h3,h4⟩:=Q4 hv (b:=b) dB eA;have k:=Z5L 2 h1 hw;obtain⟨u1,u2⟩:=Z4g hv;obtain⟨b1,b2⟩:=QW e.size p u1 dB eA
 have key:dbt p d=b/\Sy F (Yz p b e) (Z1n p d):=by
  obtain⟨⟨g1,g2,g3⟩,i1,i2,i3,i4,i5⟩:=h;have k2:=k.lo;have k3:=k.hi;rw[h4] at k2 k3;have hz:b=0\/b=1:=(by omega);rcases hz with rfl|rfl
  ·have e1:Yz p 0 e=⟨e.out,e.low,e.size/2048*p⟩:=(by simp[Yz]);have hN:N (Yz p 0 e)=N e:=(by rw[e1];rfl);have hS:(Yz p 0 e).size=e.size/2048*p:=(by rw[e1]);have hc:d.code<d.size/2048*p:=(by rw[i1,i2];omega);have hd:Z1n p d= { d with size:=d.size/2048*p } :=(by unfold Z1n;rw[Vaf hc]);rw[hd];exact⟨by simp[dbt,hc],k,by rw[hS,<-i1],by rw[h4,hN];exact i2,by rw[h4];exact i3,i4,i5⟩
  ·have hN:N (Yz p 1 e)=N e+e.size/2048*p:=by
    unfold Yz;rw[Vad (by omega)];split
    ·rename_i dE;have h5:=hv.top
     have hc:vl 0 e.out+1<256 ^ e.out.length:=by
      simp only[N] at h5;generalize 256 ^ e.out.length=M at*;generalize e.size/2048*p=B at*;have:=hv.low;omega
     simp only[N,Z76 e.out hc];omega
    ·simp only[N];omega
   have hS:(Yz p 1 e).size=e.size-e.size/2048*p:=by
    unfold Yz;rw[Vad (by omega)];split<;>rfl
   have hc:¬d.code<d.size/2048*p:=(by rw[i1,i2];omega);have hd:Z1n p d= { d with code:=d.code-d.size/2048*p,size:=d.size-d.size/2048*p } :=(by unfold Z1n;rw[Vad hc]);rw[hd];exact⟨by simp[dbt,hc],k,by rw[hS,<-i1],by rw[h4,hN];show d.code-d.size/2048*p=_;rw[i1,i2];omega,by rw[h4];exact i3,i4,i5⟩
 exact⟨key.1,Zhn 2 h1 key.2 hw⟩
theorem Z9T (n v:Nat):∀ {e:En},Val 0 e->Wi F (edir n v e)->Wi F e/\Val 0 (edir n v e):=by
 induction n with
 |zero=>intro e h k;exact⟨k,h⟩
 |succ n ih=>
  intro e h k;obtain⟨a,b⟩:=ih (Xe h (p:=1024) (by omega) (by omega)) k;exact⟨ZgF h (by omega) (by omega) a,b⟩
theorem Z77 (n v:Nat):∀ {e:En},Val 0 e->Val 0 (edir n v e):=by
 induction n with
 |zero=>intro e h;exact h
 |succ n ih=>intro e h;exact ih (Xe h (p:=1024) (by omega) (by omega))
theorem ZgH (n v:Nat):∀(a:Nat) {e:En} {d:De},Val 0 e->Sy F e d->Wi F (edir n v e)->(ddir n a d).1=a*2 ^ n+v % 2 ^ n/\Sy F (edir n v e) (ddir n a d).2:=by
 induction n with
 |zero=>intro a e d _ h _;exact⟨by simp[ddir,Nat.mod_one],h⟩
 |succ n ih=>
  intro a e d hv h hw;have oH:=Xe hv (p:=1024) (b:=v/2 ^ n % 2) (by omega) (by omega);have xL:=(Z9T n v oH hw).1;obtain⟨h1,h2⟩:=ZgG hv (by omega) (by omega) (by omega) h xL;obtain⟨h3,h4⟩:=ih (2*a+v/2 ^ n % 2) oH h2 hw;rw[ddir,h1];refine⟨?_,h4⟩;rw[h3,Vbr,Nat.mod_mul,Vc7,Vbt (v/2 ^ n % 2)];have:2*a*2 ^ n=a*(2 ^ n*2):=(by rw[Vbt 2 a,Vb4,Vbt 2]);omega
theorem ZgI {e:En} (h:Val 0 e):Wi (efin e) e:=by
 have hl:(efin e).length=e.out.length+4:=by simp[efin,Y6]
 have hp:P (efin e) (e.out.length+4)=N e:=by
  unfold P;rw[Vah (by omega)];unfold efin N;have h3:=h.low;have:vl 0 (e.out++be 4 e.low)=vl (vl 0 e.out) (be 4 e.low):=(by simp[vl,Vbq]);rw[this,Zhm];omega
 have:=Z4g h;exact⟨by omega,by omega,by omega⟩
theorem ZjE {e:En} {d:De} (h:Val 0 e) (hs:Sy (efin e) e d):dend d=true:=by
 have hl:(efin e).length=e.out.length+4:=by simp[efin,Y6]
 have hp:P (efin e) (e.out.length+4)=N e:=by
  unfold P;rw[Vah (by omega)];unfold efin N;have h3:=h.low;have:vl 0 (e.out++be 4 e.low)=vl (vl 0 e.out) (be 4 e.low):=(by simp[vl,Vbq]);rw[this,Zhm];omega
 have h1:=hs.code;have h2:=hs.rest;rw[hp] at h1;rw[List.drop_of_length_le (by omega)] at h2;simp[dend,hs.miss,hs.full,h1,h2]
end
theorem four {F:List UInt8} (h:4<=F.length):∃a b c d t,F=a::b::c::d::t:=by
 rcases F with _|⟨a,_|⟨b,_|⟨c,_|⟨d,t⟩⟩⟩⟩
 ·simp at h
 ·simp at h
 ·simp at h
 ·simp at h
 ·exact⟨a,b,c,d,t,rfl⟩
theorem Z9U (a b c d:UInt8) (t:List UInt8):dpre (a::b::c::d::t)=⟨t,((a.toNat*256+b.toNat)*256+c.toNat)*256+d.toNat,4294967295,false,false⟩:=by
 have ha:=Vbi a;have hb:=Vbi b;have hc:=Vbi c;have hd:=Vbi d;simp only[dpre,X9];have:(((0*256 % 4294967296+a.toNat)*256 % 4294967296+b.toNat)*256 % 4294967296+c.toNat)*256 % 4294967296+d.toNat=((a.toNat*256+b.toNat)*256+c.toNat)*256+d.toNat:=(by omega);rw[this]
theorem Z78 {F:List UInt8} (h:Wi F e0):Sy F e0 (d0 F):=by
 obtain⟨a,b,c,d,t,rfl⟩:=four (show 4<=F.length from h.len);have h2:=h.hi
 have h3:P (a::b::c::d::t) (e0.out.length+4)=((a.toNat*256+b.toNat)*256+c.toNat)*256+d.toNat:=by
  show vl 0 [a,b,c,d]=_;simp[vl];omega
 have h4:N e0=0:=rfl;have h5:e0.size=4294967295:=rfl;rw[h3,h4,h5] at h2;have hd:=Z9U a b c d t;refine⟨h,?_,?_,?_,?_,?_⟩
 ·show(dpre _).size=_;rw[hd,h5]
 ·show(dpre _).code=_;rw[hd,h3,h4];rfl
 ·show(dpre _).rest=_;rw[hd];rfl
 ·show(dpre _).miss=_;rw[hd]
 ·show decide ((dpre _).code=(dpre _).size)=false;rw[hd,Vbp];exact Nat.ne_of_lt (by simpa using h2)
end Wv.Rc
namespace Wv.Mo
open Wv.Vi Wv.Rc
def Y3 (z b:Nat):Nat:=if b=0 then z+(2048-z)/32 else z-z/32
def tenc:Nat->Nat->Nat->List Nat->En->List Nat×En
 |0,_,_,t,e=>(t,e)
 |n+1,v,m,t,e=>tenc n v (2*m+v/2 ^ n % 2) (t.set m (Y3 (t.getD m 0) (v/2 ^ n % 2))) (ebit (t.getD m 0) (v/2 ^ n % 2) e)
def tdec:Nat->Nat->List Nat->De->Nat×List Nat×De
 |0,m,t,d=>(m,t,d)
 |n+1,m,t,d=>tdec n (2*m+dbt (t.getD m 0) d) (t.set m (Y3 (t.getD m 0) (dbt (t.getD m 0) d))) (dbit (t.getD m 0) d)
def blen (n:Nat):Nat:=if n=0 then 0 else n.log2+1
def nenc (v:Nat) (x:List Nat×En):List Nat×En:=
 ((tenc 6 (blen v) 1 x.1 x.2).1,if 2<=blen v then edir (blen v-1) v (tenc 6 (blen v) 1 x.1 x.2).2 else(tenc 6 (blen v) 1 x.1 x.2).2)
def nval (n:Nat) (d:De):Int:=if n<2 then(n:Int) else if n=63 then-1 else((2 ^ (n-1)+(ddir (n-1) 0 d).1:Nat):Int)
def ndec (t:List Nat) (d:De):Int×List Nat×De:=
 (nval ((tdec 6 1 t d).1-64) (tdec 6 1 t d).2.2,(tdec 6 1 t d).2.1,
  if(tdec 6 1 t d).1-64<2 then(tdec 6 1 t d).2.2 else if(tdec 6 1 t d).1-64=63 then(tdec 6 1 t d).2.2 else(ddir ((tdec 6 1 t d).1-64-1) 0 (tdec 6 1 t d).2.2).2)
def t0:List Nat:=List.replicate 64 1024
def Xs:List Nat->List Nat×En->List Nat×En
 |[],x=>x
 |v::l,x=>Xs l (nenc v x)
def Z1p:Nat->List Nat->De->List Int×De
 |0,_,d=>([],d)
 |n+1,t,d=>((ndec t d).1::(Z1p n (ndec t d).2.1 (ndec t d).2.2).1,(Z1p n (ndec t d).2.1 (ndec t d).2.2).2)
def encn (l:List Nat):List UInt8:=num l.length++if l=[] then[] else efin (Xs l (t0,e0)).2
def decn (s:List UInt8) (most:Int):List Int×Nat:=
 match rd s with
 |none=>([],12)
 |some (n,z)=>
  if 4096<n then([],12) else if most<(n:Int) then([],2) else if n=0 then([],if z<s.length then 12 else 0)
  else if dend (Z1p n t0 (d0 (s.drop z))).2=true/\∀v∈(Z1p n t0 (d0 (s.drop z))).1,0<=v then((Z1p n t0 (d0 (s.drop z))).1,0) else([],12)
def TOk (t:List Nat):Prop:=∀x∈t,1<=x/\x<=2047
theorem YL {z b:Nat} (h:1<=z/\z<=2047):1<=Y3 z b/\Y3 z b<=2047:=by unfold Y3;split<;>omega
theorem XE {t:List Nat} (h:TOk t) {m:Nat} (hm:m<t.length):1<=t.getD m 0/\t.getD m 0<=2047:=by
 have e:t.getD m 0=t[m]:=(by simp[List.getD,hm]);rw[e];exact h _ (Vak _)
theorem XF {t:List Nat} (h:TOk t) (m:Nat) {z:Nat} (hz:1<=z/\z<=2047):TOk (t.set m z):=by
 intro x hx;rcases List.mem_or_eq_of_mem_set hx with h1|h1
 ·exact h x h1
 ·exact h1▸hz
theorem ZkT:TOk t0:=by
 intro x hx;rw[t0,Vcp] at hx;omega
theorem YV {m n L:Nat} (h:(m+1)*2 ^ (n+1)<=2*L):m<L:=by
 have:2<=2 ^ (n+1):=(by have:=Nat.one_le_two_pow (n:=n);rw[Vbr];omega);have h2:(m+1)*2<=(m+1)*2 ^ (n+1):=Vct _ this;omega
theorem ZT {m n L b:Nat} (hb:b<2) (h:(m+1)*2 ^ (n+1)<=2*L):(2*m+b+1)*2 ^ n<=2*L:=by
 refine Vaq ?_ h;rw[Vbr,Vbt _ 2,<-Vb4];exact Vb2 _ (by omega)
theorem Ql (n:Nat):∀(v m:Nat) {t:List Nat} {e:En},TOk t->(m+1)*2 ^ n<=2*t.length->Val 0 e->
  TOk (tenc n v m t e).1/\(tenc n v m t e).1.length=t.length/\Val 0 (tenc n v m t e).2:=by
 induction n with
 |zero=>intro v m t e h1 _ h3;exact⟨h1,rfl,h3⟩
 |succ n ih=>
  intro v m t e h1 h2 h3;have hp:=XE h1 (YV h2);have hb:v/2 ^ n % 2<2:=(by omega);obtain⟨a,b,c⟩:=ih v (2*m+v/2 ^ n % 2) (XF h1 m (YL (b:=v/2 ^ n % 2) hp)) (by rw[Vbh];exact ZT hb h2) (Xe h3 (b:=v/2 ^ n % 2) hp.1 hp.2);exact⟨a,by rw[tenc,b,Vbh],c⟩
section
variable {F:List UInt8}
theorem Z3e (n:Nat):∀(v m:Nat) {t:List Nat} {e:En},TOk t->(m+1)*2 ^ n<=2*t.length->Val 0 e->Wi F (tenc n v m t e).2->Wi F e:=by
 induction n with
 |zero=>intro v m t e _ _ _ h;exact h
 |succ n ih=>
  intro v m t e h1 h2 h3 h;have hp:=XE h1 (YV h2);have hb:v/2 ^ n % 2<2:=(by omega);have:=ih v (2*m+v/2 ^ n % 2) (XF h1 m (YL (b:=v/2 ^ n % 2) hp)) (by rw[Vbh];exact ZT hb h2) (Xe h3 (b:=v/2 ^ n % 2) hp.1 hp.2) h;exact ZgF h3 hp.1 hp.2 this
theorem Z5M (n:Nat):∀(v m:Nat) {t:List Nat} {e:En} {d:De},TOk t->(m+1)*2 ^ n<=2*t.length->Val 0 e->Sy F e d->Wi F (tenc n v m t e).2->
  (tdec n m t d).1=m*2 ^ n+v % 2 ^ n/\(tdec n m t d).2.1=(tenc n v m t e).1/\Sy F (tenc n v m t e).2 (tdec n m t d).2.2:=by
 induction n with
 |zero=>intro v m t e d _ _ _ h _;exact⟨by simp[tdec,Nat.mod_one],rfl,h⟩
 |succ n ih=>
  intro v m t e d h1 h2 h3 h hw;have hp:=XE h1 (YV h2);have hb:v/2 ^ n % 2<2:=(by omega);have k1:=XF h1 m (YL (b:=v/2 ^ n % 2) hp);have k2:(2*m+v/2 ^ n % 2+1)*2 ^ n<=2*(t.set m (Y3 (t.getD m 0) (v/2 ^ n % 2))).length:=(by rw[Vbh];exact ZT hb h2);have k3:=Xe h3 (b:=v/2 ^ n % 2) hp.1 hp.2;have xL:=Z3e n v _ k1 k2 k3 hw;obtain⟨a1,a2⟩:=ZgG h3 hb hp.1 hp.2 h xL;obtain⟨b1,b2,b3⟩:=ih v (2*m+v/2 ^ n % 2) k1 k2 k3 a2 hw;rw[tdec,a1];refine⟨?_,b2,b3⟩;rw[b1,Vbr,Nat.mod_mul,Vc7,Vbt (v/2 ^ n % 2)];have:2*m*2 ^ n=m*(2 ^ n*2):=(by rw[Vbt 2 m,Vb4,Vbt 2]);omega
end
def TNum (t:List Nat):Prop:=TOk t/\t.length=64
theorem Z1q:TNum t0:=⟨ZkT,by simp[t0]⟩
theorem Z0u {v:Nat} (h:v<4611686018427387904):blen v<=62:=by
 unfold blen;split
 ·omega
 ·have:=(Nat.log2_lt (n:=v) (k:=62) (by omega)).2 (by omega);omega
theorem Z2w {v:Nat} (h:0<v):2 ^ (blen v-1)+v % 2 ^ (blen v-1)=v:=by
 unfold blen;rw[Vad (by omega),Vb7];have h1:=Nat.log2_self_le (n:=v) (by omega);have h2:v<2 ^ (v.log2+1):=(Nat.log2_lt (n:=v) (k:=v.log2+1) (by omega)).1 (by omega);rw[Vbr] at h2;rw[Nat.mod_eq_sub_mod h1,Nat.mod_eq_of_lt (by omega)];omega
theorem Ze3 {v:Nat} (h:blen v<2):v=blen v:=by
 rcases Vbm v with rfl|hv
 ·rfl
 ·have:=Z2w hv;have h1:blen v=1:=(by unfold blen at*;rw[Vad (by omega)] at*;omega);rw[h1] at this⊢;simp[Nat.mod_one] at this;omega
theorem QX {v:Nat} {x:List Nat×En} (ht:TNum x.1) (he:Val 0 x.2):TNum (nenc v x).1/\Val 0 (nenc v x).2:=by
 obtain⟨a,b,c⟩:=Ql 6 (blen v) 1 ht.1 (by rw[ht.2];decide) he;refine⟨⟨a,b.trans ht.2⟩,?_⟩;unfold nenc;simp only;split
 ·exact Z77 _ _ c
 ·exact c
section
variable {F:List UInt8}
theorem Z1r {v:Nat} {x:List Nat×En} (ht:TNum x.1) (he:Val 0 x.2) (hw:Wi F (nenc v x).2):Wi F x.2:=by
 obtain⟨a,b,c⟩:=Ql 6 (blen v) 1 ht.1 (by rw[ht.2];decide) he;refine Z3e 6 (blen v) 1 ht.1 (by rw[ht.2];decide) he ?_;unfold nenc at hw;simp only at hw;split at hw
 ·exact(Z9T _ _ c hw).1
 ·exact hw
theorem Z5N {v:Nat} {x:List Nat×En} {d:De} (ht:TNum x.1) (he:Val 0 x.2) (hv:v<4611686018427387904) (h:Sy F x.2 d) (hw:Wi F (nenc v x).2):
  (ndec x.1 d).1=v/\(ndec x.1 d).2.1=(nenc v x).1/\Sy F (nenc v x).2 (ndec x.1 d).2.2:=by
 obtain⟨a,b,c⟩:=Ql 6 (blen v) 1 ht.1 (by rw[ht.2];decide) he;have hb:=Z0u hv
 have PF:Wi F (tenc 6 (blen v) 1 x.1 x.2).2:=by
  unfold nenc at hw;simp only at hw;split at hw
  ·exact(Z9T _ _ c hw).1
  ·exact hw
 obtain⟨p,q,r⟩:=Z5M 6 (blen v) 1 ht.1 (by rw[ht.2];decide) he h PF
 have hm:(tdec 6 1 x.1 d).1-64=blen v:=by
  rw[p];have:blen v % 2 ^ 6=blen v:=Nat.mod_eq_of_lt (by omega);omega
 refine⟨?_,q,?_⟩
 ·show nval ((tdec 6 1 x.1 d).1-64) _=_;rw[hm];unfold nval;split
  ·rename_i h1;have:=Ze3 h1;omega
  ·rename_i h1;rw[Vad (by omega)]
   have gH:Wi F (edir (blen v-1) v (tenc 6 (blen v) 1 x.1 x.2).2):=by
    unfold nenc at hw;simp only at hw;rw[Vaf (by omega)] at hw;exact hw
   have h3:=(ZgH (blen v-1) v 0 c r gH).1;rw[h3]
   have hp:0<v:=by
    rcases Vbm v with rfl|h4
    ·exfalso;apply h1;decide
    ·exact h4
   have:=Z2w hp;omega
 ·show Sy F _ (if(tdec 6 1 x.1 d).1-64<2 then _ else _);rw[hm];unfold nenc at hw⊢;simp only at hw⊢;by_cases h2:blen v<2
  ·rw[Vaf h2,Vad (by omega)];exact r
  ·rw[Vaf (by omega)] at hw⊢;rw[Vad h2,Vad (by omega)];exact(ZgH (blen v-1) v 0 c r hw).2
theorem Z79 (l:List Nat):∀ {x:List Nat×En},TNum x.1->Val 0 x.2->Wi F (Xs l x).2->Wi F x.2:=by
 induction l with
 |nil=>intro x _ _ h;exact h
 |cons v l ih=>
  intro x h1 h2 h;obtain⟨k1,k2⟩:=QX (v:=v) h1 h2;exact Z1r h1 h2 (ih k1 k2 h)
theorem Ze4 (l:List Nat):∀ {x:List Nat×En} {d:De},TNum x.1->Val 0 x.2->(∀v∈l,v<4611686018427387904)->Sy F x.2 d->Wi F (Xs l x).2->
  (Z1p l.length x.1 d).1=l.map Int.ofNat/\Sy F (Xs l x).2 (Z1p l.length x.1 d).2:=by
 induction l with
 |nil=>intro x d _ _ _ h _;exact⟨rfl,h⟩
 |cons v l ih=>
  intro x d h1 h2 h3 h hw;obtain⟨k1,k2⟩:=QX (v:=v) h1 h2;obtain⟨a1,a2,a3⟩:=Z5N h1 h2 (h3 v Vap) h (Z79 l k1 k2 hw);obtain⟨b1,b2⟩:=ih k1 k2 (λu hu=>h3 u (Var _ hu)) a3 hw;rw[Vaz,Z1p,a1,a2];exact⟨by rw[b1];rfl,b2⟩
end
theorem Z4h (l:List Nat):∀ {x:List Nat×En},TNum x.1->Val 0 x.2->TNum (Xs l x).1/\Val 0 (Xs l x).2:=by
 induction l with
 |nil=>intro x h1 h2;exact⟨h1,h2⟩
 |cons v l ih=>
  intro x h1 h2;obtain⟨k1,k2⟩:=QX (v:=v) h1 h2;exact ih k1 k2
theorem Z4i (l:List Nat) (most:Int) (hl:l.length<=4096) (hm:(l.length:Int)<=most) (hv:∀v∈l,v<4611686018427387904):decn (encn l) most=(l.map Int.ofNat,0):=by
 have h1:=ZgD l.length (by omega) (if l=[] then[] else efin (Xs l (t0,e0)).2);unfold decn;have h2:rd (encn l)=some (l.length,kof l.length+1):=h1;rw[h2];simp only;rw[Vad (by omega),Vad (by omega)];have hlen:=Z7 l.length;by_cases h0:l=[]
 ·subst h0;rfl
 ·have az:l.length≠0:=λe=>h0 (Vaj e)
  have hd:(encn l).drop (kof l.length+1)=efin (Xs l (t0,e0)).2:=by
   unfold encn;rw[Vad h0,<-hlen,Vcn]
  obtain⟨k1,k2⟩:=Z4h l (x:=(t0,e0)) Z1q Z4f;have hw:=ZgI k2;have hs:=Z78 (Z79 l (x:=(t0,e0)) Z1q Z4f hw);obtain⟨a1,a2⟩:=Ze4 l (x:=(t0,e0)) Z1q Z4f hv hs hw;have a3:=ZjE k2 a2
  have ar:∀v∈l.map Int.ofNat,0<=v:=by
   intro v oH;obtain⟨u,_,rfl⟩:=Va6.1 oH;exact Int.natCast_nonneg _
  rw[Vad az,hd,a1,a3,Vaf ⟨rfl,ar⟩]
end Wv.Mo
namespace Wv.Ru
set_option linter.unusedSectionVars false
open Wv.Vi Wv.Rc Wv.Mo
section
variable {α:Type} [DecidableEq α]
def ix:List α->α->Nat
 |[],_=>0
 |a::t,s=>if a=s then 0 else ix t s+1
def Z9V (acc:List α) (s:α):List α:=if s∈acc then acc else acc++[s]
def dict (l:List α):List α:=l.foldl Z9V []
def bump (l:List (Nat×Nat)):List (Nat×Nat):=
 match l.getLast? with
 |none=>[]
 |some x=>l.dropLast++[(x.1,x.2+1)]
def Ze5 (d:List α) (x:List (Nat×Nat)×Option α) (s:α):List (Nat×Nat)×Option α:=(if x.2=some s then bump x.1 else x.1++[(ix d s,1)],some s)
def runs (d l:List α):List (Nat×Nat):=(l.foldl (Ze5 d) ([],none)).1
def ZD [Inhabited α] (d:List α):List (Int×Int)->List α->List α×Nat
 |[],acc=>(acc,0)
 |x::t,acc=>if x.1<0\/(d.length:Int)<=x.1\/x.2<1 then([],2) else if 4096-(acc.length:Int)<x.2 then([],9)
  else ZD d t (acc++List.replicate x.2.toNat (d.getD x.1.toNat default))
theorem ZkU (l:List α) (s:α):ix l s<=l.length:=by
 induction l with
 |nil=>exact UZz
 |cons a t ih=>unfold ix;split<;>simp<;>omega
theorem Z5O {l:List α} {s:α} :ix l s<l.length↔s∈l:=by
 induction l with
 |nil=>simp[ix]
 |cons a t ih=>
  unfold ix;split
  ·rename_i h;simp[h]
  ·rename_i h;rw[Vaz,Nat.add_lt_add_iff_right,ih,Vba];exact⟨.inr,λh1=>h1.resolve_left (λe=>h e.symm)⟩
theorem ix_get? {l:List α} {s:α} (h:s∈l):l[ix l s]? =some s:=by
 induction l with
 |nil=>simp at h
 |cons a t ih=>
  unfold ix;split
  ·rename_i h1;simp[h1]
  ·rename_i h1;rw[List.getElem?_cons_succ];exact ih ((Vba.1 h).resolve_left (λe=>h1 e.symm))
theorem Zho [Inhabited α] {l:List α} {s:α} (h:s∈l):l.getD (ix l s) default=s:=by simp[List.getD,ix_get? h]
theorem Z9W {l:List α} {s:α} :∀j,j<ix l s->l[j]? ≠some s:=by
 induction l with
 |nil=>intro j h;simp[ix] at h
 |cons a t ih=>
  intro j h;unfold ix at h;split at h
  ·omega
  ·rename_i h1;match j with
   |0=>simpa using h1
   |j+1=>rw[List.getElem?_cons_succ];exact ih j (by omega)
theorem YW (l:List α) (s:α):dict (l++[s])=if s∈dict l then dict l else dict l++[s]:=by unfold dict;rw[Vbq];rfl
theorem YM (l:List α) (s:α):s∈dict l↔s∈l:=by
 induction l using YI with
 |h0=>simp[dict]
 |h1 l a ih=>
  rw[YW];split
  ·rename_i h;rw[ih,Va9];refine⟨.inl,λh1=>h1.elim id λh2=> ?_⟩;rw[Vax] at h2;subst h2;exact ih.1 h
  ·rw[Va9,Va9,ih]
theorem Yl (l:List α):(dict l).length<=l.length:=by
 induction l using YI with
 |h0=>simp[dict]
 |h1 l a ih=>rw[YW];split<;>simp<;>omega
theorem Z9X (d l:List α):(l.foldl (Ze5 d) ([],none)).2=l.getLast? :=by
 induction l using YI with
 |h0=>rfl
 |h1 l a ih=>rw[Vbq];simp[Ze5]
theorem YA (d l:List α) (s:α):runs d (l++[s])=if l.getLast? =some s then bump (runs d l) else runs d l++[(ix d s,1)]:=by
 rw[<-Z9X d l];simp[runs,Ze5,Vbq]
theorem Z1s (l:List (Nat×Nat)) (x:Nat×Nat):bump (l++[x])=l++[(x.1,x.2+1)]:=by simp[bump]
theorem Z9Y (d l:List α) (s:α):∃xs c,runs d (l++[s])=xs++[(ix d s,c)]/\1<=c:=by
 induction l using YI generalizing s with
 |h0=>exact⟨[],1,by rw[YA];simp[runs],by omega⟩
 |h1 l a ih=>
  rw[YA];split
  ·rename_i h;have:a=s:=(by simpa using h);subst this;obtain⟨xs,c,h1,h2⟩:=ih a;exact⟨xs,c+1,by rw[h1,Z1s],by omega⟩
  ·exact⟨_,1,rfl,by omega⟩
theorem Ym (d l:List α):(runs d l).length<=l.length:=by
 induction l using YI with
 |h0=>simp[runs]
 |h1 l a ih=>
  rw[YA];split
  ·unfold bump;split
   ·simp
   ·simp;omega
  ·simp;omega
def Yf (l:List (Nat×Nat)):List (Int×Int):=l.map λx=>((x.1:Int),(x.2:Int))
section
variable [Inhabited α]
theorem Z1t (d:List α) (x:Int×Int):∀(l:List (Int×Int)) (acc a:List α),ZD d l acc=(a,0)->ZD d (l++[x]) acc=ZD d [x] a:=by
 intro l;induction l with
 |nil=>intro acc a h;injection h with h;subst h;rfl
 |cons y t ih=>
  intro acc a h;rw[Vbs,ZD];rw[ZD] at h;split at h
  ·injection h with _ h;cases h
  ·rename_i h1;rw[Vad h1];split at h
   ·injection h with _ h;cases h
   ·rename_i h2;rw[Vad h2];exact ih _ _ h
theorem Z2x (d:List α) {s:α} (hs:s∈d) (c:Nat) (a:List α) (hc:1<=c) (hl:a.length+c<=4096):ZD d [((ix d s:Nat),(c:Nat))] a=(a++List.replicate c s,0):=by
 have:=Z5O.2 hs;rw[ZD];simp only;rw[Vad (by omega),Vad (by omega),Vav,Vav,Zho hs];rfl
theorem Q5 (d:List α):∀l:List α,(∀s∈l,s∈d)->l.length<=4096->
  l=[]\/∃xs a s c,runs d l=xs++[(ix d s,c)]/\l.getLast? =some s/\ZD d (Yf xs) []=(a,0)/\l=a++List.replicate c s/\1<=c:=by
 intro l;induction l using YI with
 |h0=>intro _ _;exact .inl rfl
 |h1 l t ih=>
  intro hm hl;rw[Vab,Vbd] at hl;refine .inr ?_;have ih:=ih (λs hs=>hm s (List.mem_append_left _ hs)) (by omega);rcases ih with rfl|⟨xs,a,s,c,h1,h2,h3,h4,h5⟩
  ·exact⟨[],[],t,1,by rw[YA,Vad (by simp)];rfl,by simp,rfl,by simp,by omega⟩
  ·rw[YA,h2];by_cases aQ:s=t
   ·subst aQ;rw[Vaf rfl,h1,Z1s];exact⟨xs,a,s,c+1,rfl,by simp,h3,by rw[h4,Vay,List.replicate_succ'],by omega⟩
   ·rw[Vad (by simpa using aQ),h1]
    have hlen:a.length+c<=4096:=by
     have:=congrArg List.length h4;rw[Vab,Vaw] at this;omega
    have hs:s∈d:=hm s (List.mem_append_left _ (by rw[h4];exact List.mem_append_right _ (Vcp.2 ⟨by omega,rfl⟩)));refine⟨xs++[(ix d s,c)],l,t,1,rfl,by simp,?_,rfl,by omega⟩;unfold Yf;rw[Vbk];have:=Z1t d (((ix d s:Nat):Int),((c:Nat):Int)) (Yf xs) [] a h3;refine Eq.trans this ?_;rw[Z2x d hs c a h5 hlen,<-h4]
theorem Z5P (l:List α) (hl:l.length<=4096):ZD (dict l) (Yf (runs (dict l) l)) []=(l,0):=by
 rcases Q5 (dict l) l (λs hs=>(YM l s).2 hs) hl with rfl|⟨xs,a,s,c,h1,h2,h3,h4,h5⟩
 ·rfl
 ·have hs:s∈dict l:=(YM l s).2 (by rw[h4];exact List.mem_append_right _ (Vcp.2 ⟨by omega,rfl⟩))
  have hlen:a.length+c<=4096:=by
   have:=congrArg List.length h4;rw[Vab,Vaw] at this;omega
  rw[h1];unfold Yf;rw[Vbk];refine Eq.trans (Z1t (dict l) (((ix (dict l) s:Nat):Int),((c:Nat):Int)) (Yf xs) [] a h3) ?_;rw[Z2x _ hs c a h5 hlen,<-h4]
end
theorem Qm (d l:List α):∀x∈runs d l,x.1<=d.length/\1<=x.2/\x.2<=l.length:=by
 induction l using YI with
 |h0=>intro x h;simp[runs] at h
 |h1 l s ih=>
  intro x hx;rw[YA] at hx;rw[Vab,Vbd];split at hx
  ·unfold bump at hx;split at hx
   ·simp at hx
   ·rename_i y hy;rcases Va9.1 hx with h1|h1
    ·have:=ih x (List.dropLast_subset _ h1);omega
    ·rw[Vax] at h1;have:=ih y (List.mem_of_getLast? hy);subst h1;simp only;omega
  ·rcases Va9.1 hx with h1|h1
   ·have:=ih x h1;omega
   ·rw[Vax] at h1;subst h1;have:=ZkU d s;simp only;omega
end
def Xa (r:List Nat) (p:Nat):List Nat:=r.getD p 0::r.eraseIdx p
def Y7:List Nat->List Nat->List Nat
 |_,[]=>[]
 |r,n::t=>ix r n::Y7 (Xa r (ix r n)) t
def ZY:List Nat->List Nat->List Nat
 |_,[]=>[]
 |r,n::t=>r.getD n 0::ZY (Xa r n) t
def chkn (l:List Int):Nat:=if 4096<l.length then 9 else if ∀n∈l,0<=n/\n<4096 then 0 else 2
def r0:List Nat:=List.range 4096
def front (l:List Int):List Nat×Nat:=if chkn l=0 then(Y7 r0 (l.map Int.toNat),0) else([],chkn l)
def ZL (l:List Int):List Nat×Nat:=if chkn l=0 then(ZY r0 (l.map Int.toNat),0) else([],chkn l)
theorem Xf {r:List Nat} {p:Nat} (h:p<r.length):(Xa r p).length=r.length:=by
 simp[Xa,List.length_eraseIdx,h];omega
theorem QY {r:List Nat} {p n:Nat} (h:p<r.length) (hn:n∈r):n∈Xa r p:=by
 unfold Xa;by_cases e:r.getD p 0=n
 ·rw[e];exact Vap
 ·refine Var _ ?_;rw[List.mem_eraseIdx_iff_getElem?];obtain⟨i,hi⟩:=List.getElem?_of_mem hn;refine⟨i,?_,hi⟩;rintro rfl;exact e (by simp[List.getD,hi])
theorem YN (l:List Nat):∀r,(Y7 r l).length=l.length:=by
 induction l with
 |nil=>intro r;rfl
 |cons n t ih=>intro r;simp[Y7,ih]
theorem Z4j (l:List Nat):∀r,(∀n∈l,n∈r)->∀p∈Y7 r l,p<r.length:=by
 induction l with
 |nil=>intro r _ p hp;simp[Y7] at hp
 |cons n t ih=>
  intro r h p hp;have h1:=Z5O.2 (h n Vap);rw[Y7] at hp;rcases Vba.1 hp with h2|h2
  ·rw[h2];exact h1
  ·have:=ih _ (λm hm=>QY h1 (h m (Var _ hm))) p h2
   rwa [Xf h1] at this
theorem Z3f (l:List Nat):∀r,(∀n∈l,n∈r)->ZY r (Y7 r l)=l:=by
 induction l with
 |nil=>intro r _;rfl
 |cons n t ih=>
  intro r h;have hn:=h n Vap;have h1:=Z5O.2 hn;rw[Y7,ZY,ih _ (λm hm=>QY h1 (h m (Var _ hm)))];have:r.getD (ix r n) 0=n:=(by simp[List.getD,ix_get? hn]);rw[this]
theorem YX (l:List Nat):∀r,(ZY r l).length=l.length:=by
 induction l with
 |nil=>intro r;rfl
 |cons n t ih=>intro r;simp[ZY,ih]
theorem Z18 {l:List Int} (h:chkn l=0):l.length<=4096/\∀n∈l,0<=n/\n<4096:=by
 unfold chkn at h;split at h
 ·cases h
 ·split at h
  ·rename_i h1 h2;exact⟨by omega,h2⟩
  ·cases h
theorem Z1u {l:List Int} (h1:l.length<=4096) (h2:∀n∈l,0<=n/\n<4096):chkn l=0:=by
 unfold chkn;rw[Vad (by omega),Vaf h2]
theorem ZgJ {l:List Int} (h:∀n∈l,0<=n/\n<4096):∀n∈l.map Int.toNat,n∈r0:=by
 intro n hn;obtain⟨m,hm,rfl⟩:=Va6.1 hn;have:=h m hm;rw[r0,List.mem_range];omega
theorem Z9Z {l:List Int} (h:chkn l=0):chkn ((front l).1.map Int.ofNat)=0:=by
 obtain⟨h1,h2⟩:=Z18 h;unfold front;rw[Vaf h];refine Z1u (by simp[YN];omega) ?_;intro n hn;obtain⟨m,hm,rfl⟩:=Va6.1 hn;have:=Z4j _ _ (ZgJ h2) m hm;rw[r0,Vbu] at this;exact⟨Int.natCast_nonneg _,by show(m:Int)<4096;omega⟩
theorem YY (l:List Nat):(l.map Int.ofNat).map Int.toNat=l:=by
 rw[Vb8];exact List.map_id'' (λ_=>rfl) l
theorem Z12 {l:List Int} (h:chkn l=0):ZL ((front l).1.map Int.ofNat)=(l.map Int.toNat,0):=by
 unfold ZL;rw[Vaf (Z9Z h),YY];unfold front;rw[Vaf h];rw[Z3f _ _ (ZgJ (Z18 h).2)]
def text (s:ByteArray):List UInt8:=num s.size++toL s
def idxs (l:List ByteArray):List Nat:=(runs (dict l) l).map (·.1)
def cnts (l:List ByteArray):List Nat:=(runs (dict l) l).map (λx=>x.2-1)
def encA (c:Nat) (l:List ByteArray):List UInt8:=encn (if c=1 then Y7 r0 (idxs l) else idxs l)
def encB (c:Nat) (l:List ByteArray):List UInt8:=
 num c++num (dict l).length++(dict l).flatMap text++(num (encA c l).length++encA c l)++encn (cnts l)
def Zhp (c:Int) (l:List ByteArray):List UInt8×Nat:=
 if c≠0/\c≠1 then([],1) else if 4096<l.length\/∃s∈l,128<s.size then([],9) else(encB c.toNat l,0)
def enc (l:List ByteArray):List UInt8×Nat:=
 if 4096<l.length\/∃s∈l,128<s.size then([],9) else if(encB 1 l).length<(encB 0 l).length then(encB 1 l,0) else(encB 0 l,0)
def rnum (s:List UInt8) (most:Nat):Option (Nat×List UInt8):=
 match rd s with
 |none=>none
 |some (n,z)=>if most<n then none else some (n,s.drop z)
def ZH (s:List UInt8) (most:Nat):Option (List UInt8×List UInt8):=
 match rnum s most with
 |none=>none
 |some (n,t)=>if t.length<n then none else some (t.take n,t.drop n)
def Y8:Nat->List UInt8->Option (List ByteArray×List UInt8)
 |0,s=>some ([],s)
 |n+1,s=>
  match ZH s 128 with
  |none=>none
  |some (a,t)=>
   match Y8 n t with
   |none=>none
   |some (l,u)=>some (bs a::l,u)
def fin (c:Nat) (ws:List ByteArray) (A B:List Int×Nat):Option (List ByteArray):=
 if A.2≠0\/B.2≠0\/A.1.length≠B.1.length then none
 else if c=1/\(ZL A.1).2≠0 then none
 else if ∃v∈B.1,4096<=v then none
 else if(ZD ws ((if c=1 then(ZL A.1).1.map Int.ofNat else A.1).zip (B.1.map (· +1))) []).2=0
  then some (ZD ws ((if c=1 then(ZL A.1).1.map Int.ofNat else A.1).zip (B.1.map (· +1))) []).1 else none
def YO (data:List UInt8):Option (List ByteArray):=
 match rnum data 1 with
 |none=>none
 |some (c,s1)=>
  match rnum s1 4096 with
  |none=>none
  |some (n,s2)=>
   match Y8 n s2 with
   |none=>none
   |some (ws,s3)=>
    match ZH s3 data.length with
    |none=>none
    |some (a,s4)=>fin c ws (decn a 4096) (decn s4 4096)
def dec (data:List UInt8) (most:Int):List ByteArray×Nat:=
 match YO data with
 |none=>([],12)
 |some l=>if(enc l).2≠0\/(enc l).1≠data then([],12) else if most<(l.length:Int) then([],2) else(l,0)
theorem ZZ (n most:Nat) (h:n<=most) (hn:n<9223372036854775808) (r:List UInt8):rnum (num n++r) most=some (n,r):=by
 unfold rnum;rw[ZgD n hn r];simp only;rw[Vad (by omega),<-Z7,Vcn]
theorem Yn (t:List UInt8) (most:Nat) (h:t.length<=most) (hn:t.length<9223372036854775808) (r:List UInt8):ZH (num t.length++(t++r)) most=some (t,r):=by
 unfold ZH;rw[ZZ _ _ h hn];simp only;rw[Vad (by rw[Vab];omega),Vcy,Vcn]
theorem Z4k (l:List ByteArray) (h:∀s∈l,s.size<=128) (r:List UInt8):Y8 l.length (l.flatMap text++r)=some (l,r):=by
 induction l with
 |nil=>rfl
 |cons s l ih=>
  have hs:=h s Vap
  have e:(s::l).flatMap text++r=num (toL s).length++(toL s++(l.flatMap text++r)):=by
   rw[Vb0];simp only[text,Z1,Vay]
  rw[e,Vaz,Y8,Yn _ _ (by rw[Z1];exact hs) (by rw[Z1];omega)];simp only;rw[ih (λu hu=>h u (Var _ hu))];rfl
theorem Z1v {l:List ByteArray} {b:Nat} (h:∀s∈l,s.size<=b):∀s∈dict l,s.size<=b:=λs hs=>h s ((YM l s).1 hs)
theorem Z3g (l:List ByteArray) (hl:l.length<=4096):∀n∈idxs l,n<4096:=by
 intro n hn;obtain⟨x,hx,rfl⟩:=Va6.1 hn;rcases Q5 (dict l) l (λs hs=>(YM l s).2 hs) hl with rfl|_
 ·simp[runs,dict] at hx
 ·have key:∀(m:List ByteArray),(∀s∈m,s∈dict l)->∀x∈runs (dict l) m,x.1<(dict l).length:=by
   intro m;induction m using YI with
   |h0=>intro _ x hx;simp[runs] at hx
   |h1 m s ih=>
    intro hm x hx;rw[YA] at hx;have ih:=ih (λu hu=>hm u (List.mem_append_left _ hu));split at hx
    ·unfold bump at hx;split at hx
     ·simp at hx
     ·rename_i y hy;rcases Va9.1 hx with h1|h1
      ·exact ih x (List.dropLast_subset _ h1)
      ·rw[Vax] at h1;subst h1;exact ih y (List.mem_of_getLast? hy)
    ·rcases Va9.1 hx with h1|h1
     ·exact ih x h1
     ·rw[Vax] at h1;subst h1;exact Z5O.2 (hm s (List.mem_append_right _ Vap))
  have h1:=key l (λs hs=>(YM l s).2 hs) x hx;have h2:=Yl l;omega
theorem Z1w (l:List ByteArray) (hl:l.length<=4096):∀n∈cnts l,n<4096:=by
 intro n hn;obtain⟨x,hx,rfl⟩:=Va6.1 hn;have:=Qm (dict l) l x hx;omega
theorem XG (l:List ByteArray):(idxs l).length=(runs (dict l) l).length:=by simp[idxs]
theorem XH (l:List ByteArray):(cnts l).length=(runs (dict l) l).length:=by simp[cnts]
def Ya (c:Nat) (l:List ByteArray):List Nat:=if c=1 then Y7 r0 (idxs l) else idxs l
theorem YB (c:Nat) (l:List ByteArray):(Ya c l).length=(runs (dict l) l).length:=by
 unfold Ya;split
 ·rw[YN,XG]
 ·exact XG l
theorem QZ (c:Nat) (l:List ByteArray) (hl:l.length<=4096):∀n∈Ya c l,n<4096:=by
 unfold Ya;split
 ·intro n hn;have:=Z4j (idxs l) r0 (λm hm=>List.mem_range.2 (Z3g l hl m hm)) n hn
  rwa [r0,Vbu] at this
 ·exact Z3g l hl
theorem ZjF (c:Nat) (l:List ByteArray) (hl:l.length<=4096):fin c (dict l) ((Ya c l).map Int.ofNat,0) ((cnts l).map Int.ofNat,0)=some l:=by
 unfold fin
 have hu:c=1->ZL ((Ya c l).map Int.ofNat)=(idxs l,0):=by
  intro h;have hi:=Z3g l hl;have hr:=Ym (dict l) l
  have hk:chkn ((idxs l).map Int.ofNat)=0:=Z1u (by rw[Vag,XG];omega) (λn hn=>by
   obtain⟨m,hm,rfl⟩:=Va6.1 hn;exact⟨Int.natCast_nonneg _,by have:=hi m hm;show(m:Int)<4096;omega⟩)
  have:=Z12 hk;unfold front at this;rw[Vaf hk,YY] at this;unfold Ya;rw[Vaf h];exact this
 rw[Vad (by simp[YB,XH])]
 rw[Vad (by
  rintro⟨h1,h2⟩;rw[hu h1] at h2;exact h2 rfl)]
 rw[Vad (by
  rintro⟨v,hv,h⟩;obtain⟨m,hm,rfl⟩:=Va6.1 hv;have:=Z1w l hl m hm;have h3:(4096:Int)<=(m:Int):=h;omega)]
 have hz:(if c=1 then(ZL ((Ya c l).map Int.ofNat)).1.map Int.ofNat else(Ya c l).map Int.ofNat).zip (((cnts l).map Int.ofNat).map (· +1))=Yf (runs (dict l) l):=by
  have e1:(if c=1 then(ZL ((Ya c l).map Int.ofNat)).1.map Int.ofNat else(Ya c l).map Int.ofNat)=(idxs l).map Int.ofNat:=by
   by_cases h:c=1
   ·rw[Vaf h,hu h]
   ·rw[Vad h];unfold Ya;rw[Vad h]
  rw[e1];unfold idxs cnts Yf;rw[Vb8,Vb8,Vb8,List.zip_map'];refine List.map_congr_left λx hx=> ?_;have:=Qm (dict l) l x hx;show((x.1:Int),((x.2-1:Nat):Int)+1)=((x.1:Int),(x.2:Int));congr 1;omega
 simp only;rw[hz,Z5P l hl];rfl
theorem Z8s (c:Nat) (hc:c<=1) (l:List ByteArray) (hl:l.length<=4096) (hs:∀s∈l,s.size<=128) (e9:(encA c l).length<9223372036854775808) (r:List UInt8):
  YO (encB c l++r)=fin c (dict l) (decn (encA c l) 4096) (decn (encn (cnts l)++r) 4096):=by
 have e:encB c l++r=num c++(num (dict l).length++((dict l).flatMap text++(num (encA c l).length++(encA c l++(encn (cnts l)++r))))):=by
  simp only[encB,Vay]
 have hlen:(encA c l).length<=(encB c l++r).length:=by
  rw[e];simp only[Vab];omega
 have hd:=Yl l;unfold YO;generalize hL:(encB c l++r).length=L at*;rw[e,ZZ c 1 hc (by omega)];simp only;rw[ZZ _ 4096 (by omega) (by omega)];simp only;rw[Z4k _ (Z1v hs)];simp only;rw[Yn _ _ hlen e9]
theorem Za0 (l:List Nat) (hl:l.length<=4096) (hv:∀v∈l,v<4096):decn (encn l) 4096=(l.map Int.ofNat,0):=
 Z4i l 4096 hl (by omega) (λv h=>by have:=hv v h;omega)
theorem Ze6 (c:Nat) (hc:c<=1) (l:List ByteArray) (hl:l.length<=4096) (hs:∀s∈l,s.size<=128) (e9:(encA c l).length<9223372036854775808):YO (encB c l)=some l:=by
 have hr:=Ym (dict l) l;have h1:=Z8s c hc l hl hs e9 [];rw[Va3,Va3] at h1;rw[h1,Za0 (cnts l) (by rw[XH];omega) (Z1w l hl)];have h2:decn (encA c l) 4096=((Ya c l).map Int.ofNat,0):=Za0 (Ya c l) (by rw[YB];omega) (QZ c l hl);rw[h2];exact ZjF c l hl
end Wv.Ru
namespace Wv.Bit
def num:Nat->Nat->List Bool
 |0,_=>[]
 |k+1,v=>v.testBit k::num k v
def una (n:Nat):List Bool:=List.replicate n true++[false]
def val (l:List Bool):Nat:=l.foldl (λa b=>2*a+b.toNat) 0
def blen (n:Nat):Nat:=if n=0 then 0 else n.log2+1
def ones:Nat->List Bool->Nat
 |m+1,true::l=>ones m l+1
 |_,_=>0
theorem YI {α:Type} {P:List α->Prop} (h0:P []) (h1:∀l a,P l->P (l++[a])) (l:List α):P l:=by
 rw[<-List.reverse_reverse l];induction l.reverse with
 |nil=>exact h0
 |cons a l ih=>rw[List.reverse_cons];exact h1 _ _ ih
def bt (l:List Bool) (k:Nat):Nat:=(l.getD k false).toNat
theorem ZkV (l:List Bool) (k:Nat):bt l k<=1:=by unfold bt;cases l.getD k false<;>simp
theorem Z7 (k v:Nat):(num k v).length=k:=by
 induction k with
 |zero=>rfl
 |succ k ih=>simp[num,ih]
theorem Z0v (n:Nat):(una n).length=n+1:=by simp[una]
theorem Z7a (l:List Bool) (b:Bool):val (l++[b])=2*val l+b.toNat:=by simp[val,Vbq]
theorem ZgK (l:List Bool):val l<2 ^ l.length:=by
 induction l using YI with
 |h0=>simp[val]
 |h1 l b ih=>
  rw[Z7a,Vab,Vbd,Vbr];cases b<;>simp<;>omega
theorem Za1 {α:Type} (l:List α) (k:Nat) (d:α) (h:k<l.length):l.take (k+1)=l.take k++[l.getD k d]:=by
 rw[Vac h];simp[List.getD,h]
theorem Z3h (l:List Bool) (k:Nat) (h:k<l.length):val (l.take (k+1))=2*val (l.take k)+bt l k:=by
 rw[Za1 l k false h,Z7a];rfl
theorem Z5Q (l:List Bool) (k:Nat):val (l.take k)<2 ^ k:=by
 refine Va5 (ZgK _) (Vby (by omega) ?_);rw[Vau];omega
theorem Z00 (l:List Bool) (k:Nat) (h:k<=62):val (l.take k)<4611686018427387904:=
 Va5 (Z5Q l k) (Vby (show 0<2 by omega) h)
theorem Za2 (k j v:Nat):num (k+j) v=num k (v/2 ^ j)++num j v:=by
 induction k with
 |zero=>simp[num]
 |succ k ih=>
  rw[show k+1+j=(k+j)+1 from by omega,num,num,ih,Vbs];congr 1;rw[Nat.testBit_div_two_pow]
theorem Za3 (v k:Nat):(v.testBit k).toNat=v/2 ^ k % 2:=by
 rw[Nat.testBit_eq_decide_div_mod_eq];have:=Vdd (v/2 ^ k) (show 0<2 by omega);by_cases h:v/2 ^ k % 2=1
 ·simp[h]
 ·have:v/2 ^ k % 2=0:=(by omega);simp[this]
theorem Zhq (v:Nat):num 1 v=[v.testBit 0]:=rfl
theorem Ze7 (k v:Nat):num (k+1) v=num k (v/2)++[v.testBit 0]:=by
 have:=Za2 k 1 v;simpa [Zhq] using this
theorem Za4 (n:Nat) (h:0<n):blen n=blen (n/2)+1:=by
 unfold blen;rw[Vad (by omega)];by_cases h1:n/2=0
 ·rw[Vaf h1];have:n=1:=(by omega);subst this;decide
 ·rw[Vad h1,Nat.log2_def,Vaf (by omega)]
theorem Zhr (n:Nat) (h:0<n):2 ^ (blen n-1)<=n/\0<blen n:=by
 unfold blen;rw[Vad (by omega)];exact⟨Nat.log2_self_le (by omega),by omega⟩
theorem Z0u (n k:Nat) (h:n<2 ^ k):blen n<=k:=by
 by_cases h0:n=0
 ·subst h0;simp[blen]
 ·have:=Zhr n (by omega);rcases Nat.lt_or_ge k (blen n) with h1|h1
  ·have:=Vby (show 0<2 by omega) (show k<=blen n-1 by omega);omega
  ·exact h1
def par (k p:Int):Bool:=(k==0&&decide (0<=p)&&decide (p<=62))||(k==1&&p==0)||((k==2||k==3)&&decide (0<=p)&&decide (p<=30))||(k==4&&decide (1<=p)&&decide (p<=4294967296))
def vld (k p v:Int):Bool:=par k p&&decide (0<=v)&&((k==0&&decide (v<2 ^ p.toNat))||(k==1&&decide (v<=4096))||(k==2&&decide (v/2 ^ p.toNat<=4096))||(k==3&&decide (v<=4611686018427387903))||(k==4&&decide (v<p)))
def QK (k p v:Nat):List Bool:=
 if k=0 then num p v
 else if k=1 then una v
 else if k=2 then una (v/2 ^ p)++num p v
 else if k=3 then una (blen (v+2 ^ p)-1-p)++num (blen (v+2 ^ p)-1) (v+2 ^ p)
 else if v<2 ^ blen p-p then num (blen p-1) v else num (blen p) (v+(2 ^ blen p-p))
def rdp (p m:Nat) (l:List Bool) (g:Bool):Nat×Nat×Nat:=
 let n:=ones m l;let q:=if g then n+p else p
 if n=m then(0,0,2) else if n=l.length then(0,0,12) else if l.length<n+1+q then(0,0,12)
 else if g then(if 62<n+p then(0,0,2) else(2 ^ (n+p)-2 ^ p+val ((l.drop (n+1)).take q),n+1+q,0))
 else(n*2 ^ p+val ((l.drop (n+1)).take q),n+1+q,0)
def rdt (p:Nat) (l:List Bool):Nat×Nat×Nat:=
 let k:=blen p-1;let u:=2 ^ blen p-p;if l.length<k then(0,0,12)
 else if val (l.take k)<u then(val (l.take k),k,0)
 else if l.length<k+1 then(0,0,12) else(val (l.take (k+1))-u,k+1,0)
def rd (k p:Nat) (l:List Bool):Nat×Nat×Nat:=
 if k=0 then(if l.length<p then(0,0,12) else(val (l.take p),p,0))
 else if k=1\/k=2 then rdp p 4097 l false
 else if k=3 then rdp p 63 l true
 else rdt p l
def getm (k p most:Int) (l:List Bool):List Bool×Nat×Nat:=
 if par k p then
  let r:=rd k.toNat p.toNat l;if r.2.2≠0 then(l,0,r.2.2) else if most<r.1\/4611686018427387903<r.1 then(l,0,2) else(l.drop r.2.1,r.1,0)
 else(l,0,1)
theorem Za5 {k p:Int} (h:par k p=true):(k=0/\0<=p/\p<=62)\/(k=1/\p=0)\/(k=2/\0<=p/\p<=30)\/(k=3/\0<=p/\p<=30)\/(k=4/\1<=p/\p<=4294967296):=by
 simp only[par,Bool.or_eq_true,Va1,beq_iff_eq,decide_eq_true_eq] at h;omega
theorem Z3i (k:Nat):(2:Int) ^ k=((2 ^ k:Nat):Int):=by push_cast;rfl
theorem ZkW (k:Nat) (h:k<=62):(2:Nat) ^ k<=4611686018427387904:=Vby (n:=2) (by omega) h
theorem ZkX (k:Nat) (h:k<=30):(2:Nat) ^ k<=1073741824:=Vby (n:=2) (by omega) h
theorem Zhs {k p v:Int} (h:vld k p v=true):par k p=true:=by
 simp only[vld,Va1] at h;exact h.1.1
theorem Z1x {k p v:Int} (h:vld k p v=true):0<=v/\((k=0/\0<=p/\p<=62/\v<2 ^ p.toNat)\/(k=1/\p=0/\v<=4096)\/(k=2/\0<=p/\p<=30/\v/2 ^ p.toNat<=4096)\/(k=3/\0<=p/\p<=30/\v<=4611686018427387903)\/(k=4/\1<=p/\p<=4294967296/\v<p)):=by
 have hp:=Za5 (Zhs h);simp only[vld,Bool.or_eq_true,Va1,beq_iff_eq,decide_eq_true_eq] at h;obtain⟨⟨_,h1⟩,h2⟩:=h;refine⟨h1,?_⟩;rcases hp with ⟨rfl,a,b⟩|⟨rfl,a⟩|⟨rfl,a,b⟩|⟨rfl,a,b⟩|⟨rfl,a,b⟩<;>simp_all
theorem Za6 {k p v:Int} (h:vld k p v=true):(QK k.toNat p.toNat v.toNat).length<=8192:=by
 obtain⟨h0,h1|h1|h1|h1|h1⟩:=Z1x h
 ·obtain⟨rfl,a,b,c⟩:=h1;simp[QK,Z7];omega
 ·obtain⟨rfl,a,c⟩:=h1;simp[QK,Z0v];omega
 ·obtain⟨rfl,a,b,c⟩:=h1
  have:(v.toNat/2 ^ p.toNat:Nat)<=4096:=by
   have h2:((v.toNat/2 ^ p.toNat:Nat):Int)=v/2 ^ p.toNat:=(by rw[Z3i];push_cast;rw[Int.toNat_of_nonneg h0]);omega
  simp[QK,Z0v,Z7];omega
 ·obtain⟨rfl,a,b,c⟩:=h1;have h2:=ZkX p.toNat (by omega);have:=Z0u (v.toNat+2 ^ p.toNat) 63 (by omega);simp[QK,Z0v,Z7];omega
 ·obtain⟨rfl,a,b,c⟩:=h1;have:=Z0u p.toNat 33 (by omega);simp[QK];split<;>simp[Z7]<;>omega
structure Cd where
 k:Int
 p:Int
 v:Int
def Cd.bits (c:Cd):List Bool:=QK c.k.toNat c.p.toNat c.v.toNat
def Cd.ok (c:Cd):Bool:=vld c.k c.p c.v
def putm (b:List Bool) (c:Cd):List Bool×Nat:=
 if c.ok then(if 65536<b.length+c.bits.length then(b,9) else(b++c.bits,0)) else(b,1)
def rbit (s:ByteArray) (i:Nat):Bool:=((s.data.toList.getD (i/8) 0).toNat).testBit (7-i % 8)
def rbits (s:ByteArray) (n:Nat):List Bool:=(List.range n).map (rbit s)
theorem rbits_length (s:ByteArray) (n:Nat):(rbits s n).length=n:=by simp[rbits]
theorem Z4l (s:ByteArray) (n i:Nat) (h:i<n):(rbits s n).getD i false=rbit s i:=by
 simp[rbits,List.getD,h]
theorem Ze8 (s:ByteArray) (i:Nat) (h:i/8<s.size):(rbit s i).toNat=(s[i/8]).toNat/2 ^ (7-i % 8) % 2:=by
 have h2:s.data.toList.getD (i/8) 0=s[i/8]:=by
  simp only[List.getD,Array.getElem?_toList];rw[Array.getElem?_eq_getElem h];rfl
 rw[rbit,h2,Za3]
theorem Zht (l:List Bool) (x k:Nat):bt (l.drop x) k=bt l (x+k):=by
 unfold bt;simp[List.getD,List.getElem?_drop]
theorem Ze9 (s:ByteArray) (n i:Nat) (h:i<n) (h2:i/8<s.size):bt (rbits s n) i=(s[i/8]).toNat/2 ^ (7-i % 8) % 2:=by
 rw[bt,Z4l s n i h,Ze8 s i h2]
theorem ZjG (a b:Nat) (ha:a<9223372036854775808) (hb:b<9223372036854775808):Go.bits .or .i64 (a:Int) (b:Int)=((a|||b:Nat):Int):=by
 have h1:(BitVec.ofInt 64 (a:Int)).toNat=a:=(by rw[BitVec.ofInt_natCast,BitVec.toNat_ofNat];exact Nat.mod_eq_of_lt (by omega));have h2:(BitVec.ofInt 64 (b:Int)).toNat=b:=(by rw[BitVec.ofInt_natCast,BitVec.toNat_ofNat];exact Nat.mod_eq_of_lt (by omega));have h3:a|||b<2 ^ 63:=Nat.or_lt_two_pow (by omega) (by omega);show Go.IntKind.i64.wrap ((BitVec.ofInt 64 (a:Int)|||BitVec.ofInt 64 (b:Int)).toNat:Int)=_;rw[BitVec.toNat_or,h1,h2,Go.IntKind.wrap_i64];omega
theorem ZjH (v b:Nat) (hb:b<=1):2*v|||b=2*v+b:=by
 have:=Nat.shiftLeft_add_eq_or_of_lt (b:=b) (i:=1) (by omega) v;rw[Nat.shiftLeft_eq] at this;rw[Vbt,show v*2=v*2 ^ 1 from rfl,<-this]
theorem Zhu (a:Nat) (ha:a<256):Go.bits .and .u8 (a:Int) 1=((a % 2:Nat):Int):=by
 have:=Go.u8_and_nat a 1 ha (by omega);rw[Nat.and_one_is_mod] at this;exact this
theorem Z8t (v B e:Nat) (hv:v<4611686018427387904) (hB:B<256):
  Go.bits .or .i64 (Go.RowKit.wrap64 ((v:Int)*2)) (Go.RowKit.wrap64 (Go.bits .and .u8 ((B:Int)/2 ^ e) 1))=((2*v+B/2 ^ e % 2:Nat):Int):=by
 have h1:(B:Int)/2 ^ e=((B/2 ^ e:Nat):Int):=(by push_cast;rfl);have h2:B/2 ^ e<=B:=Nat.div_le_self _ _;have h3:(v:Int)*2=((2*v:Nat):Int):=(by push_cast;omega);have h4:B/2 ^ e % 2<2:=Vdd _ (by omega);rw[h1,Zhu _ (by omega),h3];rw[Go.IntWalk.wrap64_in _ (by omega),Go.IntWalk.wrap64_in _ (by omega),ZjG _ _ (by omega) (by omega),ZjH _ _ (by omega)]
theorem bitLen_eq (x:Nat) (h:x<2 ^ 64):Go.Lib.bitLen x=blen x:=by
  have key:∀f y,y<2 ^ f->Go.Lib.bitLenAux f y=blen y:=by
    intro f;induction f with
    | zero => intro y hy; have : y = 0 := by omega
              subst this;rfl
    |succ f ih=>
      intro y hy;unfold Go.Lib.bitLenAux;by_cases h0:y=0
      · subst h0;rfl
      · rw[Vad h0,ih (y/2) (by rw[Vbr] at hy;omega),Za4 y (by omega)];omega
  exact key 64 x h
def Z2l (k p:Nat) (L:List Bool) (x:Nat) (v:Int) (e y:Nat):Prop:=
 ((rd k p L).2.2≠0->e=(rd k p L).2.2)/\((rd k p L).2.2=0->(rd k p L).1<=4611686018427387903->e=0/\v=((rd k p L).1:Nat)/\y=x+(rd k p L).2.1)/\
 ((rd k p L).2.2=0->4611686018427387903<(rd k p L).1->e=2)
theorem Zea {k p m:Int} {L:List Bool} {x e y:Nat} {v:Int} (hp:par k p=true) (h:Z2l k.toNat p.toNat L x v e y) (he:e≠0):getm k p m L=(L,0,e):=by
 obtain⟨h1,h2,h3⟩:=h;simp only[getm,hp,if_true];by_cases c:(rd k.toNat p.toNat L).2.2=0
 ·rw[Vad (by omega)];by_cases d:(rd k.toNat p.toNat L).1<=4611686018427387903
  ·exact(he (h2 c d).1).elim
  ·rw[Vaf (.inr (by omega)),h3 c (by omega)]
 ·rw[Vaf c,h1 c]
theorem Zhv {k p m:Int} {L:List Bool} {x y:Nat} {v:Int} (hp:par k p=true) (h:Z2l k.toNat p.toNat L x v 0 y):
  0<=v/\(getm k p m L=if m<v then(L,0,2) else(L.drop (y-x),v.toNat,0))/\x<=y:=by
 obtain⟨h1,h2,h3⟩:=h
 have c:(rd k.toNat p.toNat L).2.2=0:=by
  rcases Vbm (rd k.toNat p.toNat L).2.2 with c|c
  ·exact c
  ·have:=h1 (by omega);omega
 have d:(rd k.toNat p.toNat L).1<=4611686018427387903:=by
  rcases Nat.lt_or_ge 4611686018427387903 (rd k.toNat p.toNat L).1 with d|d
  ·have:=h3 c d;omega
  ·exact d
 obtain⟨_,hv,hy⟩:=h2 c d;refine⟨by omega,?_,by omega⟩;simp only[getm,hp,if_true];rw[Vad (by omega)];by_cases hm:m<v
 ·rw[Vaf hm,Vaf (.inl (by omega))]
 ·rw[Vad hm,Vad (by omega),show y-x=(rd k.toNat p.toNat L).2.1 from by omega,show v.toNat=(rd k.toNat p.toNat L).1 from by omega]
def ZU (l:List Bool) (j:Nat):Nat:=val ((List.range 8).map λi=>l.getD (8*j+i) false)
def pack (l:List Bool):List UInt8:=(List.range ((l.length+7)/8)).map λj=>UInt8.ofNat (ZU l j)
theorem pack_length (l:List Bool):(pack l).length=(l.length+7)/8:=by simp[pack]
theorem YZ (l:List Bool) (j:Nat):ZU l j<256:=by
 have:=ZgK ((List.range 8).map λi=>l.getD (8*j+i) false);simpa [ZU] using this
theorem Yo (l:List Bool) (j:Nat):ZU l j=128*bt l (8*j)+64*bt l (8*j+1)+32*bt l (8*j+2)+16*bt l (8*j+3)+8*bt l (8*j+4)+4*bt l (8*j+5)+2*bt l (8*j+6)+bt l (8*j+7):=by
 have h:(List.range 8)=[0,1,2,3,4,5,6,7]:=(by decide);unfold ZU;rw[h];simp only[Vcj,List.map_nil,val,List.foldl_cons,List.foldl_nil,bt,Vb3];omega
theorem Q6 (l:List Bool) (k:Nat) (h:l.length<=k):bt l k=0:=by
 simp[bt,List.getD,Vca h]
theorem Z4m (l r:List Bool) (k:Nat):bt (l++r) k=if k<l.length then bt l k else bt r (k-l.length):=by
 unfold bt;simp only[List.getD,List.getElem?_append];split<;>rfl
theorem ZgL (b:Bool) (k:Nat):bt [b] k=if k=0 then b.toNat else 0:=by
 cases k<;>simp[bt]
theorem Z4n (l:List Bool) (b:Bool) (j:Nat) (h:j≠l.length/8):ZU (l++[b]) j=ZU l j:=by
 have e:∀i,i<8->bt (l++[b]) (8*j+i)=bt l (8*j+i):=by
  intro i hi;rw[Z4m];split
  ·rfl
  ·rename_i h2;rw[ZgL,Vad (by omega),Q6 _ _ (by omega)]
 rw[Yo,Yo];have e0:=e 0 (by omega);rw[Vb3] at e0;rw[e0,e 1 (by omega),e 2 (by omega),e 3 (by omega),e 4 (by omega),e 5 (by omega),e 6 (by omega),e 7 (by omega)]
theorem QL (l:List Bool) (b:Bool):ZU (l++[b]) (l.length/8)=ZU l (l.length/8)+b.toNat*2 ^ (7-l.length % 8):=by
 have e:∀i,i<8->bt (l++[b]) (8*(l.length/8)+i)=bt l (8*(l.length/8)+i)+if i=l.length % 8 then b.toNat else 0:=by
  intro i hi;rw[Z4m,ZgL];by_cases h1:i<l.length % 8
  ·rw[Vaf (by omega),Vad (by omega),Vb3]
  ·rw[Vad (by omega),Q6 l _ (by omega)];by_cases h2:i=l.length % 8
   ·rw[Vaf (by omega),Vaf h2];omega
   ·rw[Vad (by omega),Vad h2]
 rw[Yo,Yo];have e0:=e 0 (by omega);rw[Vb3] at e0;rw[e0,e 1 (by omega),e 2 (by omega),e 3 (by omega),e 4 (by omega),e 5 (by omega),e 6 (by omega),e 7 (by omega)];have hm:l.length % 8<8:=Vdd _ (by omega);generalize l.length % 8=m at*;have:m=0\/m=1\/m=2\/m=3\/m=4\/m=5\/m=6\/m=7:=(by omega);rcases this with rfl|rfl|rfl|rfl|rfl|rfl|rfl|rfl<;>simp<;>omega
theorem Z2y (l:List Bool):ZU l (l.length/8) % 2 ^ (8-l.length % 8)=0:=by
 have e:∀i,l.length % 8<=i->bt l (8*(l.length/8)+i)=0:=λi hi=>Q6 _ _ (by omega);rw[Yo];have hm:l.length % 8<8:=Vdd _ (by omega);generalize l.length % 8=m at*;have e0:=e 0;rw[Vb3] at e0;have e1:=e 1;have e2:=e 2;have e3:=e 3;have e4:=e 4;have e5:=e 5;have e6:=e 6;have e7:=e 7;have:m=0\/m=1\/m=2\/m=3\/m=4\/m=5\/m=6\/m=7:=(by omega);rcases this with rfl|rfl|rfl|rfl|rfl|rfl|rfl|rfl<;>simp at* <;>omega
theorem ZjI (a b s:Nat) (ha:a % 2 ^ (s+1)=0) (hb:b<=1):a|||b*2 ^ s=a+b*2 ^ s:=by
 have h1:a=(a/2 ^ (s+1))<<<(s+1):=by
  rw[Nat.shiftLeft_eq];have:=Nat.div_add_mod a (2 ^ (s+1));rw[ha,Vb3,Vbt] at this;exact this.symm
 have h2:b*2 ^ s<2 ^ (s+1):=by
  rw[Vbr];have h3:=Nat.two_pow_pos s;have:=Vb2 (2 ^ s) hb;omega
 rw[h1,<-Nat.shiftLeft_add_eq_or_of_lt h2]
def room (l:List Bool):List UInt8:=if l.length % 8=0 then pack l++[0] else pack l
theorem XI (l:List Bool):(room l).length=l.length/8+1:=by
 unfold room;split
 ·simp[pack_length];omega
 ·rw[pack_length];omega
theorem Xg (l:List Bool) (j:Nat) (h:j<(pack l).length):(pack l)[j]=UInt8.ofNat (ZU l j):=by simp[pack]
theorem Z8u (l:List Bool) (j:Nat) (h:l.length<=8*j):ZU l j=0:=by
 rw[Yo,Q6 l _ (by omega),Q6 l _ (by omega),Q6 l _ (by omega),Q6 l _ (by omega),Q6 l _ (by omega),Q6 l _ (by omega),Q6 l _ (by omega),Q6 l _ (by omega)]
theorem Q7 (l:List Bool) (j:Nat) (h:j<(room l).length):(room l)[j]=UInt8.ofNat (ZU l j):=by
 have hl:=XI l;unfold room at*;split
 ·rename_i h8;simp only[Vaf h8] at h hl;rcases Nat.lt_or_ge j (pack l).length with h1|h1
  ·rw[Vc5 h1,Xg]
  ·rw[Vc4 h1];have:ZU l j=0:=Z8u l j (by rw[pack_length] at h1;omega);rw[this];simp
 ·rename_i h8;simp only[Vad h8] at h;rw[Xg]
theorem Z4o (l:List Bool) (b:Bool):pack (l++[b])=(room l).set (l.length/8) (UInt8.ofNat (ZU l (l.length/8)+b.toNat*2 ^ (7-l.length % 8))):=by
 apply Vc0
 ·rw[Vbh,pack_length,XI,Vab,Vbd];omega
 ·intro j h1 h2;rw[Xg,List.getElem_set];split
  ·rename_i h3;rw[<-h3,QL]
  ·rename_i h3;rw[Q7,Z4n l b j (by omega)]
theorem Z4p (old v j len:Nat) (hb:old<256) (hl:old % 2 ^ (7-len % 8+1)=0):
  Go.bits .or .u8 (old:Int) ((v:Int)/2 ^ j % 2*2 ^ (7-len % 8) % 256)=((old+(v.testBit j).toNat*2 ^ (7-len % 8):Nat):Int):=by
 have h1:(v:Int)/2 ^ j % 2=((v.testBit j).toNat:Int):=by
  rw[Za3];push_cast;rfl
 have h2:(v.testBit j).toNat<=1:=(by cases v.testBit j<;>simp);have h3:(2:Nat) ^ (7-len % 8)<=2 ^ 7:=Vby (by omega) (by omega);have h4:(v.testBit j).toNat*2 ^ (7-len % 8)<=1*2 ^ 7:=Nat.mul_le_mul h2 h3;rw[h1];have h5:((v.testBit j).toNat:Int)*2 ^ (7-len % 8)=(((v.testBit j).toNat*2 ^ (7-len % 8):Nat):Int):=(by push_cast;rfl);rw[h5,show((((v.testBit j).toNat*2 ^ (7-len % 8):Nat):Int) % 256)=(((v.testBit j).toNat*2 ^ (7-len % 8):Nat):Int) from by omega];rw[Go.u8_or_nat _ _ hb (by omega),ZjI _ _ _ hl h2]
theorem Za7 (c v j:Nat) (hj:0<j) (hc:j<=c):num (c-(j-1)) (v/2 ^ (j-1))=num (c-j) (v/2 ^ j)++[v.testBit (j-1)]:=by
 have:=Ze7 (c-j) (v/2 ^ (j-1));rw[show c-(j-1)=c-j+1 from by omega,this,Nat.div_div_eq_div_mul,<-Vbr,Nat.succ_eq_add_one,show j-1+1=j from by omega,Nat.testBit_div_two_pow];simp
end Wv.Bit
