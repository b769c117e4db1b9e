import Derived.Test.YtikecoijpkmnbaaGreatDoorJ0W
import Derived.Handy
import Derived.IntWalk
import Derived.Laws.BitsAllLaws
import Derived.Lib.BitFns
set_option linter.all false
set_option maxRecDepth 100000
set_option maxHeartbeats 0
section
variable{P Q:Prop}
theorem rp(h:P:=by rw[h]):P:=h
theorem aY(h:P:=by decide):P:=h
theorem fj(h:P:=by simp;omega):P:=h
theorem Cu(h:P:=by rw[Z2];omega):P:=h
theorem vN(h:P:=by rw[ht.2];decide):P:=h
theorem Cr(h:P:=by unfold ee;grind):P:=h
theorem Fu(h:P:=by unfold eD;grind):P:=h
theorem Jn(h:P:=by rw[od];exact Y6 hb h2):P:=h
theorem Ja(h:P:=by injection h with h;subst h;rfl):P:=h
theorem An(h:P:=by rw[rn,tP _ 2,<-Cb];exact Ad _ (by omega)):P:=h
theorem Q1(h:P:=by obtain⟨h1,h2,a7⟩:=h;simp only[zw,q,if_true];grind):P:=h
theorem PC(h:P:=by
 induction l with
 |nil=>grind
 |cons a t ih=>unfold ix;grind):P:=h
theorem OI(h:P:=by
 rw[<-List.reverse_reverse l];induction l.reverse with
 |nil=>grind
 |cons a l ih=>grind):P:=h
theorem Ol(h:P:=by unfold P;rw[d' (by omega)];unfold ji N;have a7:=h.low;have:vl 0 (e.out++be 4 e.low)=vl (vl 0 e.out) (be 4 e.low):=(by simp[vl,rk]);rw[this,Zo2];omega):P:=h
end
namespace Wv
def aH (s:aT):ax:=s.data.toList
def bs (l:ax):aT:=⟨l.toArray⟩
theorem Zc (s:aT):bs (aH s)=s:=rfl
theorem Zm (l:ax):aH (bs l)=l:=rfl
theorem Z2 (s:aT):(aH s)=s.size:=rfl
theorem Z0 (l:ax):(bs l).size=l:=rfl
theorem Z9 (a b:ax):bs a++bs b=bs (a++b):=by rfl
theorem ZnQ {a b:aT} :aH a=aH b↔a=b:=⟨λh=>by rw[<-Zc a,<-Zc b,h],λh=>rp⟩
def gi:Nat->Nat
 |0=>0
 |k+1=>gi k+2 ^ (7*(k+1))
def ee (n:Nat):Nat:=
 if n<128 then 0 else if n<16512 then 1 else if n<2113664 then 2 else if n<270549120 then 3 else if n<34630287488 then 4
 else if n<4432676798592 then 5 else if n<567382630219904 then 6 else if n<72624976668147840 then 7 else 8
def be:Nat->Nat->ax
 |0,_=>[]
 |k+1,r=>UInt8.ofNat (r/256 ^ k)::be k r
def bi (n:Nat):ax:=UInt8.ofNat (256-2 ^ (8-ee n)+(n-gi (ee n))/256 ^ ee n)::be (ee n) (n-gi (ee n))
def eD (c:Nat):Nat:=if c<128 then 0 else if c<192 then 1 else if c<224 then 2 else if c<240 then 3 else if c<248 then 4 else if c<252 then 5 else if c<254 then 6 else if c<255 then 7 else 8
def vl (a:Nat) (l:ax):Nat:=l.foldl (λa b=>256*a+b.toNat) a
def gP:ax->Option (Nat×Nat)
 |[]=>none
 |c::t=>if t.length<eD c.toNat then none else
  if 9223372036854775807<vl (c.toNat-(256-2 ^ (8-eD c.toNat))) (t.take (eD c.toNat))+gi (eD c.toNat) then none
  else some (vl (c.toNat-(256-2 ^ (8-eD c.toNat))) (t.take (eD c.toNat))+gi (eD c.toNat),eD c.toNat+1)
theorem GQ (c:cj) (t:ax):gP (c::t)=if t.length<eD c.toNat then none else
  if 9223372036854775807<vl (c.toNat-(256-2 ^ (8-eD c.toNat))) (t.take (eD c.toNat))+gi (eD c.toNat) then none
  else some (vl (c.toNat-(256-2 ^ (8-eD c.toNat))) (t.take (eD c.toNat))+gi (eD c.toNat),eD c.toNat+1):=rfl
theorem C4 (n:Nat):(ee n=0/\0<=n/\n<128)\/(ee n=1/\128<=n/\n<16512)\/(ee n=2/\16512<=n/\n<2113664)\/(ee n=3/\2113664<=n/\n<270549120)\/(ee n=4/\270549120<=n/\n<34630287488)\/(ee n=5/\34630287488<=n/\n<4432676798592)\/(ee n=6/\4432676798592<=n/\n<567382630219904)\/(ee n=7/\567382630219904<=n/\n<72624976668147840)\/(ee n=8/\72624976668147840<=n):=by by_cases c0:n<128;exact .inl ⟨Cr,O,c0⟩;by_cases c1:n<16512;exact .inr (.inl ⟨Cr,O,c1⟩);by_cases c2:n<2113664;exact .inr (.inr (.inl ⟨Cr,O,c2⟩));by_cases g:n<270549120;exact .inr (.inr (.inr (.inl ⟨Cr,O,g⟩)));by_cases k:n<34630287488;exact .inr (.inr (.inr (.inr (.inl ⟨Cr,O,k⟩))));by_cases l:n<4432676798592;exact .inr (.inr (.inr (.inr (.inr (.inl ⟨by unfold ee;simp only[c0,c1,c2,g,k,l,if_true,if_false],O,l⟩)))));by_cases p:n<567382630219904;exact .inr (.inr (.inr (.inr (.inr (.inr (.inl ⟨by unfold ee;simp only[c0,c1,c2,g,k,l,p,if_true,if_false],O,p⟩))))));by_cases q:n<72624976668147840;exact .inr (.inr (.inr (.inr (.inr (.inr (.inr (.inl ⟨by unfold ee;simp only[c0,c1,c2,g,k,l,p,q,if_true,if_false],O,q⟩)))))));exact .inr (.inr (.inr (.inr (.inr (.inr (.inr (.inr (⟨by unfold ee;simp only[c0,c1,c2,g,k,l,p,q,if_false],O⟩))))))))
theorem Yf (n:Nat):ee n<=8:=by have:=C4 n;omega
theorem QV:gi 0=0/\gi 1=128/\gi 2=16512/\gi 3=2113664/\gi 4=270549120/\gi 5=34630287488/\gi 6=4432676798592/\gi 7=567382630219904/\gi 8=72624976668147840:=aY
theorem nine (k:Nat) (h:k<=8):k=0\/k=1\/k=2\/k=3\/k=4\/k=5\/k=6\/k=7\/k=8:=O
theorem Zky (k:Nat) (h:k<=8):gi k<=72624976668147840:=by have:=QV;grind
theorem ZiS (n k:Nat) (h:k<8) (l:k<=ee n):gi (k+1)<=n↔k<ee n:=by have h1:=C4 n;have g:=QV;rcases nine k O with rfl|rfl|rfl|rfl|rfl|rfl|rfl|rfl|rfl<;>simp only[jK,Nat.reduceAdd]<;>omega
theorem Wx (n:Nat):gi (ee n)<=n:=by have h1:=C4 n;have g:=QV;grind
theorem j_ (n:Nat) (k:n<9223372036854775808):(n-gi (ee n))/256 ^ ee n<2 ^ (7-ee n)/\(ee n=8->(n-gi (ee n))/256 ^ ee n=0):=by have h1:=C4 n;have g:=QV;rcases nine (ee n) (Yf n) with h|h|h|h|h|h|h|h|h<;>rw[h] at h1⊢<;>simp only[Nat.reducePow,Nat.reduceSub]<;>omega
theorem Ye (k r:Nat):(be k r)=k:=by
 induction k with
 |zero=>rfl
 |succ k ih=>simp[be,ih]
theorem Yq6 (n:Nat):(bi n)=ee n+1:=by simp[bi,Ye]
theorem Zo2 (k:Nat):∀a r,vl a (be k r)=a*256 ^ k+r % 256 ^ k:=by
 induction k with
 |zero=>simp[vl,be,Nat.mod_one]
 |succ k ih=>intro a r;have e:vl a (be (k+1) r)=vl (256*a+(UInt8.ofNat (r/256 ^ k)).toNat) (be k r):=rfl;rw[e,ih];have h1:(UInt8.ofNat (r/256 ^ k)).toNat=r/256 ^ k % 256:=(by simp);rw[h1,rn,Nat.mod_mul];grind
theorem FX (c:Nat):(eD c=0/\0<=c/\c<128)\/(eD c=1/\128<=c/\c<192)\/(eD c=2/\192<=c/\c<224)\/(eD c=3/\224<=c/\c<240)\/(eD c=4/\240<=c/\c<248)\/(eD c=5/\248<=c/\c<252)\/(eD c=6/\252<=c/\c<254)\/(eD c=7/\254<=c/\c<255)\/(eD c=8/\255<=c):=by by_cases c0:c<128;exact .inl ⟨Fu,O,c0⟩;by_cases c1:c<192;exact .inr (.inl ⟨Fu,O,c1⟩);by_cases c2:c<224;exact .inr (.inr (.inl ⟨Fu,O,c2⟩));by_cases g:c<240;exact .inr (.inr (.inr (.inl ⟨Fu,O,g⟩)));by_cases k:c<248;exact .inr (.inr (.inr (.inr (.inl ⟨by unfold eD;simp only[c0,c1,c2,g,k,if_true,if_false],O,k⟩))));by_cases l:c<252;exact .inr (.inr (.inr (.inr (.inr (.inl ⟨by unfold eD;simp only[c0,c1,c2,g,k,l,if_true,if_false],O,l⟩)))));by_cases p:c<254;exact .inr (.inr (.inr (.inr (.inr (.inr (.inl ⟨by unfold eD;simp only[c0,c1,c2,g,k,l,p,if_true,if_false],O,p⟩))))));by_cases q:c<255;exact .inr (.inr (.inr (.inr (.inr (.inr (.inr (.inl ⟨by unfold eD;simp only[c0,c1,c2,g,k,l,p,q,if_true,if_false],O,q⟩)))))));exact .inr (.inr (.inr (.inr (.inr (.inr (.inr (.inr (⟨by unfold eD;simp only[c0,c1,c2,g,k,l,p,q,if_false],O⟩))))))))
theorem Hg (c:Nat):eD c<=8:=by have:=FX c;omega
theorem Ti (k m:Nat) (g:k<=8) (l:m<2 ^ (7-k)) (p:k=8->m=0):256-2 ^ (8-k)+m<256/\eD (256-2 ^ (8-k)+m)=k:=by have h1:=FX (256-2 ^ (8-k)+m);rcases nine k g with rfl|rfl|rfl|rfl|rfl|rfl|rfl|rfl|rfl<;>simp only[Nat.reducePow,Nat.reduceSub] at h1 l⊢<;>omega
theorem Mm (n:Nat) (t:n<9223372036854775808) (r:ax):gP (bi n++r)=some (n,ee n+1):=by
 obtain⟨h1,g⟩:=j_ n t;obtain⟨u,k⟩:=Ti (ee n) _ (Yf n) h1 g;have l:(UInt8.ofNat (256-2 ^ (8-ee n)+(n-gi (ee n))/256 ^ ee n)).toNat=256-2 ^ (8-ee n)+(n-gi (ee n))/256 ^ ee n:=nk;have p:(be (ee n) (n-gi (ee n))++r).take (ee n)=be (ee n) (n-gi (ee n)):=by rw[List.take_append_of_le_length (by rw[Ye];grind),d' (by rw[Ye];grind)]
 have q:vl (256-2 ^ (8-ee n)+(n-gi (ee n))/256 ^ ee n-(256-2 ^ (8-ee n))) (be (ee n) (n-gi (ee n)))=n-gi (ee n):=by rw[Zo2,Nat.add_sub_cancel_left,Nat.div_add_mod']
 have y:=Wx n;show gP (UInt8.ofNat _::(be _ _++r))=_;rw[GQ,l,k,p,q,Vae (by rw[Vab,Ye];omega),Vae O];grind
theorem ZqU {s:ax} {n z:Nat} (h:gP s=some (n,z)):n<=9223372036854775807/\1<=z/\z<=s/\z<=9:=by
 match s with
 |[]=>simp[gP] at h
 |c::t=>rw[GQ] at h;have:=Hg c.toNat;split at h;exact aO;grind
section
variable{b p:Nat}
structure En where
 out:List UInt8
 low:Nat
 size:Nat
structure De where
 rest:List UInt8
 code:Nat
 size:Nat
 miss:Bool
 full:Bool
def D9:ax->ax
 |[]=>[]
 |b::t=>if b=255 then 0::D9 t else(b+1)::t
def Qa (l:ax):ax:=(D9 l.reverse).reverse
def Xd (e:En):En:=⟨e.out++[UInt8.ofNat (e.low/16777216)],e.low*256 % 4294967296,e.size*256⟩
def QF:Nat->En->En
 |0,e=>e
 |k+1,e=>if e.size<16777216 then QF k (Xd e) else e
def YP (p b:Nat) (e:En):En:=
 if b=0 then⟨e.out,e.low,e.size/2048*p⟩
 else if 4294967296<=e.low+e.size/2048*p then⟨Qa e.out,e.low+e.size/2048*p-4294967296,e.size-e.size/2048*p⟩
 else⟨e.out,e.low+e.size/2048*p,e.size-e.size/2048*p⟩
def nG (p b:Nat) (e:En):En:=QF 2 (YP p b e)
def e0:En:=⟨[],0,4294967295⟩
def ji (e:En):ax:=e.out++be 4 e.low
def Xt (d:De):De:=
 match d.rest with
 |[]=>⟨[],d.code*256 % 4294967296,d.size,true,d.full⟩
 |c::t=>⟨t,d.code*256 % 4294967296+c.toNat,d.size,d.miss,d.full⟩
def Z0M (d:De):De:= { Xt d with size:=d.size*256 }
def ta:Nat->De->De
 |0,d=>d
 |k+1,d=>if d.size<16777216 then ta k (Z0M d) else d
def ub (p:Nat) (d:De):De:=
 if d.code<d.size/2048*p then { d with size:=d.size/2048*p } else { d with code:=d.code-d.size/2048*p,size:=d.size-d.size/2048*p }
def iP (p:Nat) (d:De):Nat:=if d.code<d.size/2048*p then 0 else 1
def qe (p:Nat) (d:De):De:=ta 2 (ub p d)
def uq (s:ax):De:=Xt (Xt (Xt (Xt ⟨s,0,4294967295,false,false⟩)))
def d0 (s:ax):De:= { uq s with full:=decide ((uq s).code=(uq s).size) }
def pH (d:De):Bool:= !d.miss&& !d.full&&d.rest.isEmpty&&d.code==0
def mO:Nat->Nat->En->En
 |0,_,e=>e
 |n+1,v,e=>mO n v (nG 1024 (v/2 ^ n % 2) e)
def ddir:Nat->Nat->De->Nat×De
 |0,a,d=>(a,d)
 |n+1,a,d=>ddir n (2*a+iP 1024 d) (qe 1024 d)
theorem Dr (a:Nat) (l:ax) (b:cj):vl a (l++[b])=256*vl a l+b.toNat:=by simp[vl,rk]
theorem uV {α:Type} {P:List α->Prop} (h0:P []) (h1:∀l a,P l->P (l++[a])) (l:List α):P l:=OI
theorem JV (l:ax):Qa (l++[255])=Qa l++[0]:=by simp[Qa,D9]
theorem JW (l:ax) (b:cj) (h:b≠255):Qa (l++[b])=l++[b+1]:=by simp[Qa,D9,h]
theorem Ym (l:ax):(Qa l)=l.length:=by
 induction l using uV with
 |h0=>rfl
 |h1 l b ih=>by_cases h:b=255;subst h;rw[JV];simp[ih];rw[JW _ _ h];simp
theorem VR (l:ax) (h:vl 0 l+1<256 ^ l.length):vl 0 (Qa l)=vl 0 l+1:=by
 induction l using uV with
 |h0=>exact aO
 |h1 l b ih=>
  rw[Dr] at h⊢;by_cases hb:b=255;subst hb;rw[JV,Dr];grind;rw[JW _ _ hb,Dr];have h1:b.toNat≠255:=λe=>hb (UInt8.toNat_inj.1 e);have g:=iq b;have:(b+1).toNat=b.toNat+1:=by rw[UInt8.toNat_add];grind
  omega
def N (e:En):Nat:=vl 0 e.out*4294967296+e.low
def B6 (k:Nat) (n:Nat):Prop:=16777216<=n*256 ^ k/\n<4294967296
structure dE (k:Nat) (e:En):Prop where
 sz:B6 k e.size
 low:e.low<4294967296
 top:N e+e.size<=4294967295*256 ^ e.out.length
theorem xG:dE 0 e0:=⟨⟨aY,aY⟩,aY,aY⟩
theorem DI {e:En} (h:dE 0 e):16777216<=e.size/\e.size<4294967296:=by have:=h.sz;unfold B6 at this;omega
theorem CX (s p:Nat) (h1:16777216<=s) (g:1<=p) (k:p<=2047):8192<=s/2048*p/\s/2048*p+8192<=s:=by have a1:s/2048*1<=s/2048*p:=Ev _ g;have a2:s/2048*p<=s/2048*2047:=Ev _ k;omega
theorem QG {e:En} (h:dE 0 e) (fa:1<=p) (fu:p<=2047):dE 2 (YP p b e)/\N e<=N (YP p b e)/\N (YP p b e)+(YP p b e).size<=N e+e.size/\(YP p b e).out=e.out.length:=by
 obtain⟨h1,h2⟩:=DI h;obtain⟨b1,b2⟩:=CX e.size p h1 fa fu;have h3:=h.low;have h4:=h.top;clear h;have hN:∀o l s,N ⟨o,l,s⟩=vl 0 o*4294967296+l:=λ_ _ _=>rfl;have Ko:N e=vl 0 e.out*4294967296+e.low:=rfl;have key:∀x:En,8192<=x.size->x.size<=e.size->x.low<4294967296->N x+x.size<=N e+e.size->N e<=N x->x.out.length=e.out.length->dE 2 x/\N e<=N x/\N x+x.size<=N e+e.size/\x.out=e.out.length:=by intro x a1 a2 a3 a4 a5 a6;refine⟨⟨⟨O,O⟩,a3,?_⟩,a5,a4,a6⟩;rw[a6];grind
 unfold YP;generalize e.size/2048*p=B at*;split;exact aO;split;.rename_i _ fB;have hc:vl 0 e.out+1<256 ^ e.out.length:=O;have hv:=VR e.out hc;clear h4;exact key _ aO aO (by show e.low+B-_<_;omega) (by rw[hN,hv,Ko];show _+(e.size-B)<=_;omega) (by rw[hN (Qa e.out),hv,Ko];omega) (Ym _)
 grind
theorem KH (e:En) (h:e.low<4294967296):N (Xd e)=256*N e:=by unfold N Xd;rw[Dr];have:(UInt8.ofNat (e.low/16777216)).toNat=e.low/16777216:=fj;grind
theorem FG {k:Nat} {e:En} (h:dE (k+1) e) (p:e.size<16777216):dE k (Xd e):=by have h1:=h.sz;have g:=h.low;have l:=h.top;refine⟨⟨?_,?_⟩,?_,?_⟩;have:=h1.1;show _<=e.size*256*256 ^ k;grind;show e.size*256<_;omega;show e.low*256 % 4294967296<4294967296;omega;rw[KH e g];show 256*N e+e.size*256<=4294967295*256 ^ (e.out++[_]).length;rw[Vab,pg,rn,<-Cb];omega
theorem ZdN (k:Nat):∀ {e:En},dE k e->dE 0 (QF k e):=by
 induction k with
 |zero=>intro e h;exact h
 |succ k ih=>intro e h;rw[QF];split;exact ih (FG h O);refine⟨⟨?_,h.sz.2⟩,h.low,h.top⟩;omega
theorem Xx {e:En} (h:dE 0 e) (g:1<=p) (k:p<=2047):dE 0 (nG p b e):=ZdN 2 (QG h g k).1
section
variable (F:ax)
def P (k:Nat):Nat:=vl 0 (F.take k)
theorem Pg (k:Nat) (h:k<F):P F (k+1)=256*P F k+(F[k]).toNat:=by unfold P;rw[dK h,Dr]
structure Wi (e:En):Prop where
 len:e.out.length+4<=F.length
 lo:N e<=P F (e.out.length+4)
 hi:P F (e.out.length+4)<N e+e.size
structure Sy (e:En) (d:De):Prop where
 wi:Wi F e
 size:d.size=e.size
 code:d.code=P F (e.out.length+4)-N e
 rest:d.rest=F.drop (e.out.length+4)
 miss:d.miss=false
 full:d.full=false
variable {F}
theorem X5 (e:En):(Xd e).out=e.out.length+1:=by simp[Xd]
theorem Zkl {e:En} (p:e.low<4294967296) (h:Wi F (Xd e)):Wi F e:=by obtain⟨h1,g,k⟩:=h;rw[X5] at h1 g k;rw[KH e p] at g k;have l:e.out+1+4=(e.out.length+4)+1:=(by rfl);rw[l,Pg F _ O] at g k;have q:(Xd e).size=e.size*256:=rfl;have:=iq (F[e.out.length+4]'O);exact⟨O,O,O⟩
theorem LS (k:Nat):∀ {e:En},dE k e->Wi F (QF k e)->Wi F e:=by
 induction k with
 |zero=>intro e _ h;exact h
 |succ k ih=>intro e g h;rw[QF] at h;split at h;exact Zkl g.low (ih (FG g O) h);omega
theorem Zlh {e:En} (h:dE 0 e) (g:1<=p) (k:p<=2047) (q:Wi F (nG p b e)):Wi F e:=by obtain⟨h1,t,u,l⟩:=QG h (b:=b) g k;obtain⟨k1,k2,k3⟩:=LS 2 h1 q;rw[l] at k1 k2 k3;exact⟨k1,O,O⟩
theorem Zk5 {e:En} {d:De} (p:e.low<4294967296) (z:e.size<16777216) (h:Sy F e d) (l:Wi F (Xd e)):Sy F (Xd e) (Z0M d):=by
 obtain⟨⟨t,u,y⟩,h1,h2,h3,h4,h5⟩:=h;have g:=l.len;rw[X5] at g;have q:d.rest=F[e.out.length+4]::F.drop (e.out.length+5):=nk;have k:Z0M d=⟨F.drop (e.out.length+5),d.code*256 % 4294967296+(F[e.out.length+4]).toNat,d.size*256,d.miss,d.full⟩:=by unfold Z0M Xt;rw[q]
 refine⟨l,by show d.size*256=e.size*256;rw[h1],?_,by rw[k,X5],aO,aO⟩;rw[k,X5,KH e p,show e.out.length+1+4=(e.out.length+4)+1 from by rfl,Pg F _ O];grind
theorem ZnK (k:Nat):∀ {e:En} {d:De},dE k e->Sy F e d->Wi F (QF k e)->Sy F (QF k e) (ta k d):=by
 induction k with
 |zero=>intro e d _ h _;exact h
 |succ k ih=>
  intro e d hv h hw;rw[QF] at hw⊢;rw[ta,h.size];split;.rename_i hs;rw[Vag hs] at hw;have px:=FG hv hs;exact ih px (Zk5 hv.low hs h (LS k px hw)) hw
  omega
theorem VP {e:En} {d:De} (hv:dE 0 e) (hb:b<2) (fa:1<=p) (fu:p<=2047) (h:Sy F e d) (hw:Wi F (nG p b e)):iP p d=b/\Sy F (nG p b e) (qe p d):=by
 obtain⟨h1,h2,h3,h4⟩:=QG hv (b:=b) fa fu;have k:=LS 2 h1 hw;obtain⟨u1,u2⟩:=DI hv;obtain⟨b1,b2⟩:=CX e.size p u1 fa fu
 have key:iP p d=b/\Sy F (YP p b e) (ub p d):=by
  obtain⟨⟨g1,g2,g3⟩,i1,i2,i3,i4,i5⟩:=h;have k2:=k.lo;have k3:=k.hi;rw[h4] at k2 k3;have hz:b=0\/b=1:=O;rcases hz with rfl|rfl;have e1:YP p 0 e=⟨e.out,e.low,e.size/2048*p⟩:=(by rfl);have hN:N (YP p 0 e)=N e:=(by rfl);have hS:(YP p 0 e).size=e.size/2048*p:=(by rfl);have hc:d.code<d.size/2048*p:=aO;have hd:ub p d= { d with size:=d.size/2048*p } :=(by unfold ub;grind);rw[hd];exact⟨by simp[iP,hc],k,aO,aO,aO,i4,i5⟩
  have hN:N (YP p 1 e)=N e+e.size/2048*p:=by
   unfold YP;rw[Vae O];split
   .rename_i fB;have h5:=hv.top;have hc:vl 0 e.out+1<256 ^ e.out.length:=by simp only[N] at h5;generalize 256 ^ e.out.length=M at*;generalize e.size/2048*p=B at*;have:=hv.low;omega
    simp only[N,VR e.out hc];omega
   simp only[N];omega
  have hS:(YP p 1 e).size=e.size-e.size/2048*p:=by unfold YP;rw[Vae O];split<;>rfl
  have hc:¬d.code<d.size/2048*p:=(by rw[i1,i2];omega);have hd:ub p d= { d with code:=d.code-d.size/2048*p,size:=d.size-d.size/2048*p } :=(by unfold ub;rw[Vae hc]);rw[hd];exact⟨by simp[iP,hc],k,by rw[hS,<-i1],by rw[h4,hN];show d.code-d.size/2048*p=_;rw[i1,i2];omega,by rw[h4];exact i3,i4,i5⟩
 exact⟨key.1,ZnK 2 h1 key.2 hw⟩
theorem Mv (n v:Nat):∀ {e:En},dE 0 e->Wi F (mO n v e)->Wi F e/\dE 0 (mO n v e):=by
 induction n with
 |zero=>intro e h k;exact⟨k,h⟩
 |succ n ih=>intro e h k;obtain⟨a,b⟩:=ih (Xx h (p:=1024) O O) k;exact⟨Zlh h O O a,b⟩
theorem Vd (n v:Nat):∀ {e:En},dE 0 e->dE 0 (mO n v e):=by
 induction n with
 |zero=>intro e h;exact h
 |succ n ih=>intro e h;exact ih (Xx h (p:=1024) O O)
theorem q_ (n v:Nat):∀(a:Nat) {e:En} {d:De},dE 0 e->Sy F e d->Wi F (mO n v e)->(ddir n a d).1=a*2 ^ n+v % 2 ^ n/\Sy F (mO n v e) (ddir n a d).2:=by
 induction n with
 |zero=>intro a e d _ h _;exact⟨by simp[ddir,Nat.mod_one],h⟩
 |succ n ih=>intro a e d g h k;have l:=Xx g (p:=1024) (b:=v/2 ^ n % 2) O O;have q:=(Mv n v l k).1;obtain⟨h1,t⟩:=VP g O O O h q;obtain⟨u,y⟩:=ih (2*a+v/2 ^ n % 2) l t k;rw[ddir,h1];refine⟨?_,y⟩;rw[u,rn,Nat.mod_mul,Nat.add_mul,tP (v/2 ^ n % 2)];grind
theorem Zli {e:En} (h:dE 0 e):Wi (ji e) e:=by
 have g:(ji e)=e.out.length+4:=by simp[ji,Ye]
 have k:P (ji e) (e.out.length+4)=N e:=Ol;have:=DI h;exact⟨O,O,O⟩
theorem Zq5 {e:En} {d:De} (h:dE 0 e) (g:Sy (ji e) e d):pH d=true:=by
 have p:(ji e)=e.out.length+4:=by simp[ji,Ye]
 have l:P (ji e) (e.out.length+4)=N e:=Ol;have h1:=g.code;have k:=g.rest;rw[l] at h1;rw[List.drop_of_length_le O] at k;simp[pH,g.miss,g.full,h1,k]
end
theorem four {F:ax} (h:4<=F.length):∃a b c d t,F=a::b::c::d::t:=by rcases F with _|⟨a,_|⟨b,_|⟨c,_|⟨d,t⟩⟩⟩⟩;exact aO;exact aO;exact aO;exact aO;grind
theorem Zdw (a b c d:cj) (t:ax):uq (a::b::c::d::t)=⟨t,((a.toNat*256+b.toNat)*256+c.toNat)*256+d.toNat,4294967295,false,false⟩:=by have g:=iq a;have hb:=iq b;have k:=iq c;simp only[uq,Xt];grind
theorem Wp {F:ax} (h:Wi F e0):Sy F e0 (d0 F):=by
 obtain⟨a,b,c,d,t,rfl⟩:=four (show 4<=F.length from h.len);have g:=h.hi;have k:P (a::b::c::d::t) (e0.out.length+4)=((a.toNat*256+b.toNat)*256+c.toNat)*256+d.toNat:=by show vl 0 [a,b,c,d]=_;simp[vl];omega
 have l:N e0=0:=rfl;have p:e0.size=4294967295:=rfl;have hd:=Zdw a b c d t;refine⟨h,?_,?_,?_,?_,?_⟩;rfl;show(uq _).code=_;grind;rfl;rfl;show decide ((uq _).code=(uq _).size)=false;grind
end
section
variable{L b m n v z:Nat}{t:List Nat}
def Yd (z b:Nat):Nat:=if b=0 then z+(2048-z)/32 else z-z/32
def fM:Nat->Nat->Nat->List Nat->En->List Nat×En
 |0,_,_,t,e=>(t,e)
 |n+1,v,m,t,e=>fM n v (2*m+v/2 ^ n % 2) (t.set m (Yd (t.getD m 0) (v/2 ^ n % 2))) (nG (t.getD m 0) (v/2 ^ n % 2) e)
def ej:Nat->Nat->List Nat->De->Nat×List Nat×De
 |0,m,t,d=>(m,t,d)
 |n+1,m,t,d=>ej n (2*m+iP (t.getD m 0) d) (t.set m (Yd (t.getD m 0) (iP (t.getD m 0) d))) (qe (t.getD m 0) d)
def eO (n:Nat):Nat:=if n=0 then 0 else n.log2+1
def kU (v:Nat) (x:List Nat×En):List Nat×En:=
 ((fM 6 (eO v) 1 x.1 x.2).1,if 2<=eO v then mO (eO v-1) v (fM 6 (eO v) 1 x.1 x.2).2 else(fM 6 (eO v) 1 x.1 x.2).2)
def wA (n:Nat) (d:De):Int:=if n<2 then(n:Int) else if n=63 then-1 else((2 ^ (n-1)+(ddir (n-1) 0 d).1:Nat):Int)
def gC (t:List Nat) (d:De):Int×List Nat×De:=
 (wA ((ej 6 1 t d).1-64) (ej 6 1 t d).2.2,(ej 6 1 t d).2.1,
  if(ej 6 1 t d).1-64<2 then(ej 6 1 t d).2.2 else if(ej 6 1 t d).1-64=63 then(ej 6 1 t d).2.2 else(ddir ((ej 6 1 t d).1-64-1) 0 (ej 6 1 t d).2.2).2)
def t0:List Nat:=List.replicate 64 1024
def XW:List Nat->List Nat×En->List Nat×En
 |[],x=>x
 |v::l,x=>XW l (kU v x)
def uc:Nat->List Nat->De->List Int×De
 |0,_,d=>([],d)
 |n+1,t,d=>((gC t d).1::(uc n (gC t d).2.1 (gC t d).2.2).1,(uc n (gC t d).2.1 (gC t d).2.2).2)
def jk (l:List Nat):ax:=bi l.length++if l=[] then[] else ji (XW l (t0,e0)).2
def fc (s:ax) (most:Int):List Int×Nat:=
 match gP s with
 |none=>([],12)
 |some (n,z)=>
  if 4096<n then([],12) else if most<(n:Int) then([],2) else if n=0 then([],if z<s then 12 else 0)
  else if pH (uc n t0 (d0 (s.drop z))).2=true/\∀v∈(uc n t0 (d0 (s.drop z))).1,0<=v then((uc n t0 (d0 (s.drop z))).1,0) else([],12)
def iV (t:List Nat):Prop:=∀x∈t,1<=x/\x<=2047
theorem YW (h:1<=z/\z<=2047):1<=Yd z b/\Yd z b<=2047:=by unfold Yd;grind
theorem Qr (h:iV t) (g:m<t):1<=t.getD m 0/\t.getD m 0<=2047:=by have e:t.getD m 0=t[m]:=aO;rw[e];exact h _ (dt _)
theorem Qs (h:iV t) (m:Nat) (k:1<=z/\z<=2047):iV (t.set m z):=by intro x g;rcases List.mem_or_eq_of_mem_set g with h1|h1;exact h x h1;grind
theorem Zr4:iV t0:=by intro x g;rw[t0,Cf] at g;omega
theorem Xk (h:(m+1)*2 ^ (n+1)<=2*L):m<L:=by have:2<=2 ^ (n+1):=aO;have g:(m+1)*2<=(m+1)*2 ^ (n+1):=Ev _ this;omega
theorem Y6 (hb:b<2) (h:(m+1)*2 ^ (n+1)<=2*L):(2*m+b+1)*2 ^ n<=2*L:=by refine co ?_ h;exact An
theorem AY (n:Nat):∀(v m:Nat) {t:List Nat} {e:En},iV t->(m+1)*2 ^ n<=2*t.length->dE 0 e->
  iV (fM n v m t e).1/\(fM n v m t e).1=t.length/\dE 0 (fM n v m t e).2:=by
 induction n with
 |zero=>intro v m t e h1 _ g;exact⟨h1,rfl,g⟩
 |succ n ih=>intro v m t e h1 h2 g;have k:=Qr h1 (Xk h2);have hb:v/2 ^ n % 2<2:=O;obtain⟨a,b,c⟩:=ih v (2*m+v/2 ^ n % 2) (Qs h1 m (YW (b:=v/2 ^ n % 2) k)) Jn (Xx g (b:=v/2 ^ n % 2) k.1 k.2);exact⟨a,by rw[fM,b,od],c⟩
section
variable {F:ax}
theorem G3 (n:Nat):∀(v m:Nat) {t:List Nat} {e:En},iV t->(m+1)*2 ^ n<=2*t.length->dE 0 e->Wi F (fM n v m t e).2->Wi F e:=by
 induction n with
 |zero=>intro v m t e _ _ _ h;exact h
 |succ n ih=>intro v m t e h1 h2 k h;have g:=Qr h1 (Xk h2);have hb:v/2 ^ n % 2<2:=O;have:=ih v (2*m+v/2 ^ n % 2) (Qs h1 m (YW (b:=v/2 ^ n % 2) g)) Jn (Xx k (b:=v/2 ^ n % 2) g.1 g.2) h;exact Zlh k g.1 g.2 this
theorem LF (n:Nat):∀(v m:Nat) {t:List Nat} {e:En} {d:De},iV t->(m+1)*2 ^ n<=2*t.length->dE 0 e->Sy F e d->Wi F (fM n v m t e).2->
  (ej n m t d).1=m*2 ^ n+v % 2 ^ n/\(ej n m t d).2.1=(fM n v m t e).1/\Sy F (fM n v m t e).2 (ej n m t d).2.2:=by
 induction n with
 |zero=>intro v m t e d _ _ _ h _;exact⟨by simp[ej,Nat.mod_one],rfl,h⟩
 |succ n ih=>intro v m t e d h1 h2 k h l;have g:=Qr h1 (Xk h2);have hb:v/2 ^ n % 2<2:=O;have k1:=Qs h1 m (YW (b:=v/2 ^ n % 2) g);have k2:(2*m+v/2 ^ n % 2+1)*2 ^ n<=2*(t.set m (Yd (t.getD m 0) (v/2 ^ n % 2))).length:=Jn;have k3:=Xx k (b:=v/2 ^ n % 2) g.1 g.2;have p:=G3 n v _ k1 k2 k3 l;obtain⟨a1,a2⟩:=VP k hb g.1 g.2 h p;obtain⟨b1,q,b3⟩:=ih v (2*m+v/2 ^ n % 2) k1 k2 k3 a2 l;rw[ej,a1];refine⟨?_,q,b3⟩;rw[b1,rn,Nat.mod_mul,Nat.add_mul,tP (v/2 ^ n % 2)];grind
end
def TNum (t:List Nat):Prop:=iV t/\t.length=64
theorem zi:TNum t0:=⟨Zr4,by rfl⟩
theorem Jv (h:v<4611686018427387904):eO v<=62:=by unfold eO;split;exact O;have:=(Nat.log2_lt (n:=v) (k:=62) O).2 O;omega
theorem R' (h:0<v):2 ^ (eO v-1)+v % 2 ^ (eO v-1)=v:=by unfold eO;rw[Vae O,vI];have h1:=Nat.log2_self_le (n:=v) O;have g:v<2 ^ (v.log2+1):=(Nat.log2_lt (n:=v) (k:=v.log2+1) O).1 O;rw[Nat.mod_eq_sub_mod h1,Nat.mod_eq_of_lt O];omega
theorem Zhw (h:eO v<2):v=eO v:=by
 rcases rS v with rfl|g;rfl;have:=R' g;have h1:eO v=1:=by unfold eO at*;grind
 grind
theorem C8 {x:List Nat×En} (ht:TNum x.1) (g:dE 0 x.2):TNum (kU v x).1/\dE 0 (kU v x).2:=by obtain⟨a,b,c⟩:=AY 6 (eO v) 1 ht.1 vN g;refine⟨⟨a,b.trans ht.2⟩,?_⟩;unfold kU;split;exact Vd _ _ c;omega
section
variable {F:ax}
theorem Dt {x:List Nat×En} (ht:TNum x.1) (k:dE 0 x.2) (g:Wi F (kU v x).2):Wi F x.2:=by obtain⟨a,b,c⟩:=AY 6 (eO v) 1 ht.1 vN k;refine G3 6 (eO v) 1 ht.1 vN k ?_;unfold kU at g;split at g;exact(Mv _ _ c g).1;omega
theorem Lz {x:List Nat×En} {d:De} (ht:TNum x.1) (he:dE 0 x.2) (hv:v<4611686018427387904) (h:Sy F x.2 d) (hw:Wi F (kU v x).2):
  (gC x.1 d).1=v/\(gC x.1 d).2.1=(kU v x).1/\Sy F (kU v x).2 (gC x.1 d).2.2:=by
 obtain⟨a,b,c⟩:=AY 6 (eO v) 1 ht.1 vN he;have hb:=Jv hv;have hwt:Wi F (fM 6 (eO v) 1 x.1 x.2).2:=by unfold kU at hw;simp only at hw;split at hw;exact(Mv _ _ c hw).1;omega
 obtain⟨p,q,r⟩:=LF 6 (eO v) 1 ht.1 vN he h hwt;have hm:(ej 6 1 x.1 d).1-64=eO v:=O;refine⟨?_,q,?_⟩
 .show wA ((ej 6 1 x.1 d).1-64) _=_;rw[hm];unfold wA;split;.rename_i h1;have:=Zhw h1;omega
  rename_i h1;rw[Vae O];have ic:Wi F (mO (eO v-1) v (fM 6 (eO v) 1 x.1 x.2).2):=by unfold kU at hw;simp only at hw;rw[Vag O] at hw;exact hw
  have h3:=(q_ (eO v-1) v 0 c r ic).1;rw[h3];have hp:0<v:=by rcases rS v with rfl|h4;exfalso;apply h1;decide;exact h4
  have:=R' hp;omega
 show Sy F _ (if(ej 6 1 x.1 d).1-64<2 then _ else _);rw[hm];unfold kU at hw⊢;simp only at hw⊢;by_cases h2:eO v<2;rw[Vag h2,Vae O];exact r;rw[Vag O] at hw⊢;rw[Vae h2,Vae O];exact(q_ (eO v-1) v 0 c r hw).2
theorem VS (l:List Nat):∀ {x:List Nat×En},TNum x.1->dE 0 x.2->Wi F (XW l x).2->Wi F x.2:=by
 induction l with
 |nil=>intro x _ _ h;exact h
 |cons v l ih=>intro x h1 g h;obtain⟨k1,k2⟩:=C8 (v:=v) h1 g;exact Dt h1 g (ih k1 k2 h)
theorem Zk4 (l:List Nat):∀ {x:List Nat×En} {d:De},TNum x.1->dE 0 x.2->(∀v∈l,v<4611686018427387904)->Sy F x.2 d->Wi F (XW l x).2->
  (uc l x.1 d).1=l.map Int.ofNat/\Sy F (XW l x).2 (uc l x.1 d).2:=by
 induction l with
 |nil=>intro x d _ _ _ h _;exact⟨rfl,h⟩
 |cons v l ih=>intro x d h1 g k h p;obtain⟨k1,k2⟩:=C8 (v:=v) h1 g;obtain⟨a1,a2,a3⟩:=Lz h1 g (k v fi) h (VS l k1 k2 p);obtain⟨b1,q⟩:=ih k1 k2 (λu t=>k u (gM _ t)) a3 p;rw[gd,uc,a1,a2];exact⟨aO,q⟩
end
theorem Ud (l:List Nat):∀ {x:List Nat×En},TNum x.1->dE 0 x.2->TNum (XW l x).1/\dE 0 (XW l x).2:=by
 induction l with
 |nil=>intro x h1 g;exact⟨h1,g⟩
 |cons v l ih=>intro x h1 g;obtain⟨k1,k2⟩:=C8 (v:=v) h1 g;exact ih k1 k2
theorem T6 (l:List Nat) (most:Int) (u:l.length<=4096) (y:(l.length:Int)<=most) (t:∀v∈l,v<4611686018427387904):fc (jk l) most=(l.map Int.ofNat,0):=by
 have h1:=Mm l O (if l=[] then[] else ji (XW l (t0,e0)).2);unfold fc;have p:gP (jk l)=some (l.length,ee l.length+1):=h1;rw[p];simp only;rw[Vae O,Vae O];have g:=Yq6 l;by_cases h0:l=[];subst h0;rfl;have hd:(jk l).drop (ee l.length+1)=ji (XW l (t0,e0)).2:=by unfold jk;grind
 obtain⟨k1,k2⟩:=Ud l (x:=(t0,e0)) zi xG;have k:=Zli k2;have q:=Wp (VS l (x:=(t0,e0)) zi xG k);obtain⟨a1,a2⟩:=Zk4 l (x:=(t0,e0)) zi xG t q k;have a3:=Zq5 k2 a2;grind
end
set_option linter.unusedSectionVars false
section
variable{l:List Int}{p:Nat}{r:List Nat}
section
variable {α:Type} [DecidableEq α]
def ix:List α->α->Nat
 |[],_=>0
 |a::t,s=>if a=s then 0 else ix t s+1
def DM (g:List α) (s:α):List α:=if s∈g then g else g++[s]
def cT (l:List α):List α:=l.foldl DM []
def xI (l:List (Nat×Nat)):List (Nat×Nat):=
 match l.getLast? with
 |none=>[]
 |some x=>l.dropLast++[(x.1,x.2+1)]
def HK (d:List α) (x:List (Nat×Nat)×Option α) (s:α):List (Nat×Nat)×Option α:=(if x.2=some s then xI x.1 else x.1++[(ix d s,1)],some s)
def runs (d l:List α):List (Nat×Nat):=(l.foldl (HK d) ([],none)).1
def ZK [Inhabited α] (d:List α):List (Int×Int)->List α->List α×Nat
 |[],acc=>(acc,0)
 |x::t,acc=>if x.1<0\/(d.length:Int)<=x.1\/x.2<1 then([],2) else if 4096-(acc.length:Int)<x.2 then([],9)
  else ZK d t (acc++List.replicate x.2.toNat (d.getD x.1.toNat default))
theorem ZqF (l:List α) (s:α):ix l s<=l:=by
 induction l with
 |nil=>exact aU
 |cons a t ih=>unfold ix;grind
theorem zj {l:List α} {s:α} :ix l s<l.length↔s∈l:=PC
theorem ix_get? {l:List α} {s:α} (h:s∈l):l[ix l s]? =some s:=PC
theorem ZmC [Inhabited α] {l:List α} {s:α} (h:s∈l):l.getD (ix l s) default=s:=by simp[List.getD,ix_get? h]
theorem Zel {l:List α} {s:α} :∀j,j<ix l s->l[j]? ≠some s:=by
 induction l with
 |nil=>exact aO
 |cons a t ih=>intro j h;unfold ix at h;grind
theorem CT (l:List α) (s:α):cT (l++[s])=if s∈cT l then cT l else cT l++[s]:=by unfold cT;rw[rk];rfl
theorem YZ (l:List α) (s:α):s∈cT l↔s∈l:=by
 induction l using uV with
 |h0=>rfl
 |h1 l a ih=>rw[CT];grind
theorem Yz (l:List α):(cT l)<=l.length:=by
 induction l using uV with
 |h0=>simp[cT]
 |h1 l a ih=>rw[CT];grind
theorem ZfO (d l:List α):(l.foldl (HK d) ([],none)).2=l.getLast? :=by
 induction l using uV with
 |h0=>rfl
 |h1 l a ih=>simp[HK]
theorem Q4 (d l:List α) (s:α):runs d (l++[s])=if l.getLast? =some s then xI (runs d l) else runs d l++[(ix d s,1)]:=by rw[<-ZfO d l];simp[runs,HK,rk]
theorem J2 (l:List (Nat×Nat)) (x:Nat×Nat):xI (l++[x])=l++[(x.1,x.2+1)]:=by simp[xI]
theorem ZfW (d l:List α) (s:α):∃xs c,runs d (l++[s])=xs++[(ix d s,c)]/\1<=c:=by
 induction l using uV generalizing s with
 |h0=>exact⟨[],1,by rfl,O⟩
 |h1 l a ih=>rw[Q4];split;have:a=s:=aO;subst this;obtain⟨xs,c,h1,g⟩:=ih a;exact⟨xs,c+1,by rw[h1,J2],O⟩;grind
theorem YC (d l:List α):(runs d l)<=l.length:=by
 induction l using uV with
 |h0=>simp[runs]
 |h1 l a ih=>rw[Q4];split;unfold xI;grind;grind
def Yq (l:List (Nat×Nat)):List (Int×Int):=l.map λx=>((x.1:Int),(x.2:Int))
section
variable [Inhabited α]
theorem RL (d:List α) (x:Int×Int):∀(l:List (Int×Int)) (g a:List α),ZK d l g=(a,0)->ZK d (l++[x]) g=ZK d [x] a:=by
 intro l;induction l with
 |nil=>intro g a h;exact Ja
 |cons y t ih=>intro g a h;rw[jw,ZK];rw[ZK] at h;grind
theorem Tb (d:List α) {s:α} (g:s∈d) (c:Nat) (a:List α) (k:1<=c) (l:a.length+c<=4096):ZK d [((ix d s:Nat),(c:Nat))] a=(a++List.replicate c s,0):=by have:=zj.2 g;rw[ZK];rw[Vae O,Vae O,ep,ep,ZmC g];rfl
theorem QH (d:List α):∀l:List α,(∀s∈l,s∈d)->l.length<=4096->
  l=[]\/∃xs a s c,runs d l=xs++[(ix d s,c)]/\l.getLast? =some s/\ZK d (Yq xs) []=(a,0)/\l=a++List.replicate c s/\1<=c:=by
 intro l;induction l using uV with
 |h0=>exact aO
 |h1 l t ih=>
  intro y D;rw[Vab,pg] at D;refine .inr ?_;have ih:=ih (λs p=>y s (List.mem_append_left _ p)) O;rcases ih with rfl|⟨xs,a,s,c,h1,z,u,k,B⟩;exact⟨[],[],t,1,by rfl,by simp,rfl,by simp,O⟩;rw[Q4,z];by_cases q:s=t;subst q;rw[Vag rfl,h1,J2];exact⟨xs,a,s,c+1,rfl,by simp,u,by rw[k,er,List.replicate_succ'],O⟩;rw[Vae (by simpa using q),h1];have g:a.length+c<=4096:=by have:=congrArg List.length k;rw[Vab,iE] at this;omega
  have p:s∈d:=y s (List.mem_append_left _ (by rw[k];exact List.mem_append_right _ (Cf.2 ⟨O,rfl⟩)));refine⟨xs++[(ix d s,c)],l,t,1,rfl,by simp,?_,rfl,O⟩;unfold Yq;rw[jy];have:=RL d (((ix d s:Nat):Int),((c:Nat):Int)) (Yq xs) [] a u;refine Eq.trans this ?_;rw[Tb d p c a B g,<-k]
theorem Z8m (l:List α) (u:l.length<=4096):ZK (cT l) (Yq (runs (cT l) l)) []=(l,0):=by rcases QH (cT l) l (λs k=>(YZ l s).2 k) u with rfl|⟨xs,a,s,c,h1,y,p,q,t⟩;rfl;have k:s∈cT l:=(YZ l s).2 aO;have g:a.length+c<=4096:=aO;rw[h1];unfold Yq;rw[jy];refine Eq.trans (RL (cT l) (((ix (cT l) s:Nat):Int),((c:Nat):Int)) (Yq xs) [] a p) ?_;rw[Tb _ k c a t g,<-q]
end
theorem FK (d l:List α):∀x∈runs d l,x.1<=d.length/\1<=x.2/\x.2<=l.length:=by
 induction l using uV with
 |h0=>intro x h;simp[runs] at h
 |h1 l s ih=>
  intro x hx;rw[Q4] at hx;rw[Vab,pg];split at hx;.unfold xI at hx;split at hx;exact aO;rename_i y hy;rcases lc.1 hx with h1|h1;have:=ih x (List.dropLast_subset _ h1);omega;grind
  rcases lc.1 hx with h1|h1;exact aO;have:=ZqF d s;grind
end
def Xv (r:List Nat) (p:Nat):List Nat:=r.getD p 0::r.eraseIdx p
def Yn:List Nat->List Nat->List Nat
 |_,[]=>[]
 |r,n::t=>ix r n::Yn (Xv r (ix r n)) t
def Yc:List Nat->List Nat->List Nat
 |_,[]=>[]
 |r,n::t=>r.getD n 0::Yc (Xv r n) t
def lm (l:List Int):Nat:=if 4096<l.length then 9 else if ∀n∈l,0<=n/\n<4096 then 0 else 2
def r0:List Nat:=List.range 4096
def front (l:List Int):List Nat×Nat:=if lm l=0 then(Yn r0 (l.map Int.toNat),0) else([],lm l)
def ZX (l:List Int):List Nat×Nat:=if lm l=0 then(Yc r0 (l.map Int.toNat),0) else([],lm l)
theorem XB (h:p<r):(Xv r p)=r.length:=by simp[Xv,List.length_eraseIdx,h];omega
theorem FZ {n:Nat} (h:p<r) (g:n∈r):n∈Xv r p:=by unfold Xv;by_cases e:r.getD p 0=n;exact aO;refine gM _ ?_;rw[List.mem_eraseIdx_iff_getElem?];obtain⟨i,hi⟩:=List.getElem?_of_mem g;refine⟨i,?_,hi⟩;grind
theorem YY (l:List Nat):∀r,(Yn r l)=l.length:=by
 induction l with
 |nil=>intro r;rfl
 |cons n t ih=>simp[Yn,ih]
theorem TH (l:List Nat):∀r,(∀n∈l,n∈r)->∀p∈Yn r l,p<r.length:=by
 induction l with
 |nil=>intro r _ p g;simp[Yn] at g
 |cons n t ih=>intro r h p g;have h1:=zj.2 (h n fi);rcases jA.1 g with k|k;exact O;have:=ih _ (λm q=>FZ h1 (h m (gM _ q))) p k;rwa [XB h1] at this
theorem Z5T (l:List Nat):∀r,(∀n∈l,n∈r)->Yc r (Yn r l)=l:=by
 induction l with
 |nil=>intro r _;rfl
 |cons n t ih=>intro r h;have g:=h n fi;have h1:=zj.2 g;rw[Yn,Yc,ih _ (λm k=>FZ h1 (h m (gM _ k)))];have:r.getD (ix r n) 0=n:=(by simp[List.getD,ix_get? g]);rw[this]
theorem Xq (l:List Nat):∀r,(Yc r l)=l.length:=by
 induction l with
 |nil=>intro r;rfl
 |cons n t ih=>simp[Yc,ih]
theorem Gs (h:lm l=0):l.length<=4096/\∀n∈l,0<=n/\n<4096:=by unfold lm at h;grind
theorem Gg (h1:l.length<=4096) (g:∀n∈l,0<=n/\n<4096):lm l=0:=by unfold lm;grind
theorem OH (h:∀n∈l,0<=n/\n<4096):∀n∈l.map Int.toNat,n∈r0:=by intro n k;obtain⟨m,g,rfl⟩:=Vbm.1 k;have:=h m g;rw[r0,List.mem_range];omega
theorem Ze6 (h:lm l=0):lm ((front l).1.map Int.ofNat)=0:=by obtain⟨h1,g⟩:=Gs h;unfold front;rw[Vag h];refine Gg (by simp[YY];omega) ?_;intro n p;obtain⟨m,k,rfl⟩:=Vbm.1 p;have:=TH _ _ (OH g) m k;rw[r0,rm] at this;grind
theorem Xh (l:List Nat):(l.map Int.ofNat).map Int.toNat=l:=by rw[qx];exact List.map_id'' (λ_=>rfl) l
theorem Z2e (h:lm l=0):ZX ((front l).1.map Int.ofNat)=(l.map Int.toNat,0):=by unfold ZX;rw[Vag (Ze6 h),Xh];unfold front;rw[Vag h];rw[Z5T _ _ (OH (Gs h).2)]
def text (s:aT):ax:=bi s.size++aH s
def nL (l:a'):List Nat:=(runs (cT l) l).map (·.1)
def oJ (l:a'):List Nat:=(runs (cT l) l).map (λx=>x.2-1)
def sr (c:Nat) (l:a'):ax:=jk (if c=1 then Yn r0 (nL l) else nL l)
def gq (c:Nat) (l:a'):ax:=
 bi c++bi (cT l).length++(cT l).flatMap text++(bi (sr c l).length++sr c l)++jk (oJ l)
def MG (c:Int) (l:a'):ax×Nat:=
 if c≠0/\c≠1 then([],1) else if 4096<l.length\/∃s∈l,128<s.size then([],9) else(gq c.toNat l,0)
def enc (l:a'):ax×Nat:=
 if 4096<l.length\/∃s∈l,128<s.size then([],9) else if(gq 1 l).length<(gq 0 l) then(gq 1 l,0) else(gq 0 l,0)
def dN (s:ax) (most:Nat):Option (Nat×ax):=
 match gP s with
 |none=>none
 |some (n,z)=>if most<n then none else some (n,s.drop z)
def fe (s:ax) (most:Nat):Option (ax×ax):=
 match dN s most with
 |none=>none
 |some (n,t)=>if t.length<n then none else some (t.take n,t.drop n)
def Yp:Nat->ax->Option (a'×ax)
 |0,s=>some ([],s)
 |n+1,s=>
  match fe s 128 with
  |none=>none
  |some (a,t)=>
   match Yp n t with
   |none=>none
   |some (l,u)=>some (bs a::l,u)
def fin (c:Nat) (g:a') (A B:List Int×Nat):Option a':=
 if A.2≠0\/B.2≠0\/A.1≠B.1.length then none
 else if c=1/\(ZX A.1).2≠0 then none
 else if ∃v∈B.1,4096<=v then none
 else if(ZK g ((if c=1 then(ZX A.1).1.map Int.ofNat else A.1).zip (B.1.map (· +1))) []).2=0
  then some (ZK g ((if c=1 then(ZX A.1).1.map Int.ofNat else A.1).zip (B.1.map (· +1))) []).1 else none
def X0 (data:ax):Option a':=
 match dN data 1 with
 |none=>none
 |some (c,s1)=>
  match dN s1 4096 with
  |none=>none
  |some (n,s2)=>
   match Yp n s2 with
   |none=>none
   |some (g,s3)=>
    match fe s3 data.length with
    |none=>none
    |some (a,s4)=>fin c g (fc a 4096) (fc s4 4096)
def dec (data:ax) (most:Int):a'×Nat:=
 match X0 data with
 |none=>([],12)
 |some l=>if(enc l).2≠0\/(enc l).1≠data then([],12) else if most<(l.length:Int) then([],2) else(l,0)
theorem Ya (n most:Nat) (h:n<=most) (g:n<9223372036854775808) (r:ax):dN (bi n++r) most=some (n,r):=by unfold dN;rw[Mm n g r];simp only;rw[Vae O,<-Yq6,B7]
theorem Yo (t:ax) (most:Nat) (h:t<=most) (g:t.length<9223372036854775808) (r:ax):fe (bi t.length++(t++r)) most=some (t,r):=by unfold fe;rw[Ya _ _ h g];grind
theorem Z7h (l:a') (h:∀s∈l,s.size<=128) (r:ax):Yp l (l.flatMap text++r)=some (l,r):=by
 induction l with
 |nil=>rfl
 |cons s l ih=>
  have g:=h s fi;have e:(s::l).flatMap text++r=bi (aH s).length++(aH s++(l.flatMap text++r)):=by rw[sW];simp only[text,Z2,er]
  rw[e,gd,Yp,Yo _ _ (by exact g) Cu];simp only;rw[ih (λu k=>h u (gM _ k))];rfl
theorem Kt {l:a'} {b:Nat} (h:∀s∈l,s.size<=b):∀s∈cT l,s.size<=b:=λs g=>h s ((YZ l s).1 g)
theorem G6 (l:a') (hl:l.length<=4096):∀n∈nL l,n<4096:=by
 intro n hn;obtain⟨x,hx,rfl⟩:=Vbm.1 hn;rcases QH (cT l) l (λs hs=>(YZ l s).2 hs) hl with rfl|_;simp[runs,cT] at hx
 have key:∀(m:a'),(∀s∈m,s∈cT l)->∀x∈runs (cT l) m,x.1<(cT l).length:=by
  intro m;induction m using uV with
  |h0=>intro _ x hx;simp[runs] at hx
  |h1 m s ih=>
   intro hm x hx;rw[Q4] at hx;have ih:=ih (λu hu=>hm u (List.mem_append_left _ hu));split at hx;.unfold xI at hx;split at hx;exact aO;rename_i y hy;rcases lc.1 hx with h1|h1;exact ih x (List.dropLast_subset _ h1);grind
   rcases lc.1 hx with h1|h1;exact ih x h1;rw[jv] at h1;subst h1;exact zj.2 (hm s (List.mem_append_right _ fi))
 have h1:=key l (λs hs=>(YZ l s).2 hs) x hx;have h2:=Yz l;omega
theorem Dm (l:a') (p:l.length<=4096):∀n∈oJ l,n<4096:=by intro n g;obtain⟨x,k,rfl⟩:=Vbm.1 g;have:=FK (cT l) l x k;omega
theorem Qi (l:a'):(nL l)=(runs (cT l) l).length:=by simp[nL]
theorem Qb (l:a'):(oJ l)=(runs (cT l) l).length:=by simp[oJ]
def Yj (c:Nat) (l:a'):List Nat:=if c=1 then Yn r0 (nL l) else nL l
theorem YI (c:Nat) (l:a'):(Yj c l)=(runs (cT l) l).length:=by unfold Yj;split;rw[YY,Qi];exact Qi l
theorem CY (c:Nat) (l:a') (g:l.length<=4096):∀n∈Yj c l,n<4096:=by unfold Yj;split;intro n p;have:=TH (nL l) r0 (λm k=>List.mem_range.2 (G6 l g m k)) n p;rwa [r0,rm] at this;exact G6 l g
theorem Zp1 (c:Nat) (l:a') (g:l.length<=4096):fin c (cT l) ((Yj c l).map Int.ofNat,0) ((oJ l).map Int.ofNat,0)=some l:=by
 unfold fin;have D:c=1->ZX ((Yj c l).map Int.ofNat)=(nL l,0):=by intro h;have hi:=G6 l g;have B:=YC (cT l) l;have k:lm ((nL l).map Int.ofNat)=0:=Gg (by rw[Vah,Qi];omega) (λn z=>aO);have:=Z2e k;unfold front at this;rw[Vag k,Xh] at this;unfold Yj;grind
 rw[Vae (by simp[YI,Qb])];rw[Vae aO];rw[Vae (by rintro⟨v,t,h⟩;obtain⟨m,q,rfl⟩:=Vbm.1 t;have:=Dm l g m q;grind)]
 have y:(if c=1 then(ZX ((Yj c l).map Int.ofNat)).1.map Int.ofNat else(Yj c l).map Int.ofNat).zip (((oJ l).map Int.ofNat).map (· +1))=Yq (runs (cT l) l):=by
  have p:(if c=1 then(ZX ((Yj c l).map Int.ofNat)).1.map Int.ofNat else(Yj c l).map Int.ofNat)=(nL l).map Int.ofNat:=by by_cases h:c=1;exact aO;rw[Vae h];unfold Yj;grind
  rw[p];unfold nL oJ Yq;rw[qx,qx,qx,List.zip_map'];refine List.map_congr_left λx u=> ?_;have:=FK (cT l) l x u;grind
 rw[y,Z8m l g];rfl
theorem ZbZ (c:Nat) (p:c<=1) (l:a') (u:l.length<=4096) (q:∀s∈l,s.size<=128) (k:(sr c l).length<9223372036854775808) (r:ax):
  X0 (gq c l++r)=fin c (cT l) (fc (sr c l) 4096) (fc (jk (oJ l)++r) 4096):=by
 have e:gq c l++r=bi c++(bi (cT l).length++((cT l).flatMap text++(bi (sr c l).length++(sr c l++(jk (oJ l)++r))))):=by simp only[gq,er]
 have g:(sr c l)<=(gq c l++r).length:=aO;have hd:=Yz l;unfold X0;generalize t:(gq c l++r).length=L at*;rw[e,Ya c 1 p O];simp only;rw[Ya _ 4096 O O];simp only;rw[Z7h _ (Kt q)];simp only;rw[Yo _ _ g k]
theorem WI (l:List Nat) (g:l.length<=4096) (k:∀v∈l,v<4096):fc (jk l) 4096=(l.map Int.ofNat,0):=
 T6 l 4096 g O (λv h=>aO)
theorem ZjB (c:Nat) (q:c<=1) (l:a') (g:l.length<=4096) (t:∀s∈l,s.size<=128) (k:(sr c l).length<9223372036854775808):X0 (gq c l)=some l:=by have u:=YC (cT l) l;have h1:=ZbZ c q l g t k [];rw[fg,fg] at h1;rw[h1,WI (oJ l) (by rw[Qb];omega) (Dm l g)];have p:fc (sr c l) 4096=((Yj c l).map Int.ofNat,0):=WI (Yj c l) (by rw[YI];omega) (CY c l g);rw[p];exact Zp1 c l g
end
variable{L:List Bool}{k m p v:Int}{x y:Nat}
def num:Nat->Nat->List Bool
 |0,_=>[]
 |k+1,v=>v.testBit k::num k v
def Ec (n:Nat):List Bool:=List.replicate n true++[false]
def val (l:List Bool):Nat:=l.foldl (λa b=>2*a+b.toNat) 0
def nB (n:Nat):Nat:=if n=0 then 0 else n.log2+1
def dig (b:Bool):cj:=if b then 49 else 48
def txt (l:List Bool):aT:=⟨(l.map dig).toArray⟩
def ones:Nat->List Bool->Nat
 |m+1,true::l=>ones m l+1
 |_,_=>0
theorem YS {α:Type} {P:List α->Prop} (h0:P []) (h1:∀l a,P l->P (l++[a])) (l:List α):P l:=OI
def bt (l:List Bool) (k:Nat):Nat:=(l.getD k false).toNat
theorem Zqx (l:List Bool) (k:Nat):bt l k<=1:=by unfold bt;cases l.getD k false<;>simp
theorem Z8 (k v:Nat):(num k v)=k:=by
 induction k with
 |zero=>rfl
 |succ k ih=>simp[num,ih]
theorem JP (n:Nat):(Ec n)=n+1:=by simp[Ec]
theorem VQ (l:List Bool) (b:Bool):val (l++[b])=2*val l+b.toNat:=by simp[val,rk]
theorem Zld (l:List Bool):val l<2 ^ l.length:=by
 induction l using YS with
 |h0=>simp[val]
 |h1 l b ih=>rw[VQ,Vab,pg,rn];cases b<;>simp<;>omega
theorem Zgu {α:Type} (l:List α) (k:Nat) (d:α) (h:k<l):l.take (k+1)=l.take k++[l.getD k d]:=nk
theorem Z5V (l:List Bool) (k:Nat) (h:k<l):val (l.take (k+1))=2*val (l.take k)+bt l k:=by rw[Zgu l k false h,VQ];rfl
theorem Z9i (l:List Bool) (k:Nat):val (l.take k)<2 ^ k:=by refine Vas (Zld _) (pQ O ?_);grind
theorem Rx (l:List Bool) (k:Nat) (h:k<=62):val (l.take k)<4611686018427387904:=
 Vas (Z9i l k) (pQ (show 0<2 by omega) h)
theorem ZeP (k j v:Nat):num (k+j) v=num k (v/2 ^ j)++num j v:=by
 induction k with
 |zero=>simp[num]
 |succ k ih=>rw[show k+1+j=(k+j)+1 from by exact O,num,num,ih,jw];grind
theorem Zlv (v k:Nat):(v.testBit k).toNat=v/2 ^ k % 2:=aO
theorem ZmU (v:Nat):num 1 v=[v.testBit 0]:=rfl
theorem Zj6 (k v:Nat):num (k+1) v=num k (v/2)++[v.testBit 0]:=by have:=ZeP k 1 v;simpa [ZmU] using this
theorem ZcM (n:Nat) (h:0<n):nB n=nB (n/2)+1:=by unfold nB;rw[Vae O];by_cases h1:n/2=0;have:n=1:=O;subst this;decide;rw[Vae h1,Nat.log2_def,Vag O]
theorem ZlA (n:Nat) (h:0<n):2 ^ (nB n-1)<=n/\0<nB n:=by unfold nB;rw[Vae O];exact⟨Nat.log2_self_le O,O⟩
theorem Ry (n k:Nat) (h:n<2 ^ k):nB n<=k:=by by_cases h0:n=0;subst h0;simp[nB];have:=ZlA n O;rcases Nat.lt_or_ge k (nB n) with h1|h1;have:=pQ (show 0<2 by omega) (show k<=nB n-1 by omega);omega;omega
def uu (k p:Int):Bool:=(k==0&&decide (0<=p)&&decide (p<=62))||(k==1&&p==0)||((k==2||k==3)&&decide (0<=p)&&decide (p<=30))||(k==4&&decide (1<=p)&&decide (p<=4294967296))
def qK (k p v:Int):Bool:=uu k p&&decide (0<=v)&&((k==0&&decide (v<2 ^ p.toNat))||(k==1&&decide (v<=4096))||(k==2&&decide (v/2 ^ p.toNat<=4096))||(k==3&&decide (v<=4611686018427387903))||(k==4&&decide (v<p)))
def qM (k p v:Nat):List Bool:=
 if k=0 then num p v
 else if k=1 then Ec v
 else if k=2 then Ec (v/2 ^ p)++num p v
 else if k=3 then Ec (nB (v+2 ^ p)-1-p)++num (nB (v+2 ^ p)-1) (v+2 ^ p)
 else if v<2 ^ nB p-p then num (nB p-1) v else num (nB p) (v+(2 ^ nB p-p))
def rdp (p m:Nat) (l:List Bool) (g:Bool):Nat×Nat×Nat:=
 let n:=ones m l;let q:=if g then n+p else p
 if n=m then(0,0,2) else if n=l then(0,0,12) else if l.length<n+1+q then(0,0,12)
 else if g then(if 62<n+p then(0,0,2) else(2 ^ (n+p)-2 ^ p+val ((l.drop (n+1)).take q),n+1+q,0))
 else(n*2 ^ p+val ((l.drop (n+1)).take q),n+1+q,0)
def rdt (p:Nat) (l:List Bool):Nat×Nat×Nat:=
 let k:=nB p-1;let u:=2 ^ nB p-p;if l.length<k then(0,0,12)
 else if val (l.take k)<u then(val (l.take k),k,0)
 else if l.length<k+1 then(0,0,12) else(val (l.take (k+1))-u,k+1,0)
def rd (k p:Nat) (l:List Bool):Nat×Nat×Nat:=
 if k=0 then(if l.length<p then(0,0,12) else(val (l.take p),p,0))
 else if k=1\/k=2 then rdp p 4097 l false
 else if k=3 then rdp p 63 l true
 else rdt p l
def zw (k p most:Int) (l:List Bool):List Bool×Nat×Nat:=
 if uu k p then
  let r:=rd k.toNat p.toNat l;if r.2.2≠0 then(l,0,r.2.2) else if most<r.1\/4611686018427387903<r.1 then(l,0,2) else(l.drop r.2.1,r.1,0)
 else(l,0,1)
theorem Zf2 (h:uu k p=true):(k=0/\0<=p/\p<=62)\/(k=1/\p=0)\/(k=2/\0<=p/\p<=30)\/(k=3/\0<=p/\p<=30)\/(k=4/\1<=p/\p<=4294967296):=by simp only[uu,Bool.or_eq_true,gm,beq_iff_eq,decide_eq_true_eq] at h;omega
theorem V3 (k:Nat):(2:Int) ^ k=((2 ^ k:Nat):Int):=by rfl
theorem ZqQ (k:Nat) (h:k<=62):(2:Nat) ^ k<=4611686018427387904:=pQ (n:=2) O h
theorem ZqP (k:Nat) (h:k<=30):(2:Nat) ^ k<=1073741824:=pQ (n:=2) O h
theorem Zo5 (h:qK k p v=true):uu k p=true:=by simp only[qK,gm] at h;exact h.1.1
theorem Kd (h:qK k p v=true):0<=v/\((k=0/\0<=p/\p<=62/\v<2 ^ p.toNat)\/(k=1/\p=0/\v<=4096)\/(k=2/\0<=p/\p<=30/\v/2 ^ p.toNat<=4096)\/(k=3/\0<=p/\p<=30/\v<=4611686018427387903)\/(k=4/\1<=p/\p<=4294967296/\v<p)):=by have g:=Zf2 (Zo5 h);simp only[qK,Bool.or_eq_true,gm,beq_iff_eq,decide_eq_true_eq] at h;rcases g with ⟨rfl,a,b⟩|⟨rfl,a⟩|⟨rfl,a,b⟩|⟨rfl,a,b⟩|⟨rfl,a,b⟩<;>simp_all
theorem ZcS (h:qK k p v=true):(qM k.toNat p.toNat v.toNat).length<=8192:=by obtain⟨h0,h1|h1|h1|h1|h1⟩:=Kd h;obtain⟨rfl,a,b,c⟩:=h1;simp[qM,Z8];omega;obtain⟨rfl,a,c⟩:=h1;simp[qM,JP];omega;obtain⟨rfl,a,b,c⟩:=h1;have:(v.toNat/2 ^ p.toNat:Nat)<=4096:=aO;simp[qM,JP,Z8];omega;obtain⟨rfl,a,b,c⟩:=h1;have g:=ZqP p.toNat O;have:=Ry (v.toNat+2 ^ p.toNat) 63 O;simp[qM,JP,Z8];omega;obtain⟨rfl,a,b,c⟩:=h1;have:=Ry p.toNat 33 O;simp[qM];split<;>simp[Z8]<;>omega
structure Cd where
 k:Int
 p:Int
 v:Int
def Cd.bits (c:Cd):List Bool:=qM c.k.toNat c.p.toNat c.v.toNat
def Cd.ok (c:Cd):Bool:=qK c.k c.p c.v
def ya (b:List Bool) (c:Cd):List Bool×Nat:=
 if c.ok then(if 65536<b.length+c.bits.length then(b,9) else(b++c.bits,0)) else(b,1)
def jG (s:aT) (i:Nat):Bool:=((s.data.toList.getD (i/8) 0).toNat).testBit (7-i % 8)
def rbits (s:aT) (n:Nat):List Bool:=(List.range n).map (jG s)
theorem rM (s:aT) (n:Nat):(rbits s n)=n:=by simp[rbits]
theorem MV (s:aT) (n i:Nat) (h:i<n):(rbits s n).getD i false=jG s i:=by simp[rbits,List.getD,h]
theorem rbit_nat (s:aT) (i:Nat) (h:i/8<s.size):(jG s i).toNat=(s[i/8]).toNat/2 ^ (7-i % 8) % 2:=by
 have g:s.data.toList.getD (i/8) 0=s[i/8]:=by simp only[List.getD,Array.getElem?_toList];rw[Array.getElem?_eq_getElem h];rfl
 rw[jG,g,Zlv]
theorem ZlC (l:List Bool) (x k:Nat):bt (l.drop x) k=bt l (x+k):=by unfold bt;grind
theorem ZhC (s:aT) (n i:Nat) (h:i<n) (g:i/8<s.size):bt (rbits s n) i=(s[i/8]).toNat/2 ^ (7-i % 8) % 2:=by rw[bt,MV s n i h,rbit_nat s i g]
theorem Zpx (a b:Nat) (l:a<9223372036854775808) (hb:b<9223372036854775808):Go.bits .or .i64 (a:Int) (b:Int)=((a|||b:Nat):Int):=by have h1:(BitVec.ofInt 64 (a:Int)).toNat=a:=aO;have g:(BitVec.ofInt 64 (b:Int)).toNat=b:=aO;have k:a|||b<2 ^ 63:=Nat.or_lt_two_pow O O;show Go.IntKind.i64.wrap ((BitVec.ofInt 64 (a:Int)|||BitVec.ofInt 64 (b:Int)).toNat:Int)=_;rw[BitVec.toNat_or,h1,g,Go.IntKind.wrap_i64];omega
theorem Zpw (v b:Nat) (hb:b<=1):2*v|||b=2*v+b:=by have:=Nat.shiftLeft_add_eq_or_of_lt (b:=b) (i:=1) O v;rw[Nat.shiftLeft_eq] at this;grind
theorem and1_u8 (a:Nat) (g:a<256):Go.bits .and .u8 (a:Int) 1=((a % 2:Nat):Int):=by have:=Go.u8_and_nat a 1 g O;grind
theorem Zcd (v B e:Nat) (p:v<4611686018427387904) (l:B<256):
  Go.bits .or .i64 (Go.RowKit.wrap64 ((v:Int)*2)) (Go.RowKit.wrap64 (Go.bits .and .u8 ((B:Int)/2 ^ e) 1))=((2*v+B/2 ^ e % 2:Nat):Int):=by have h1:(B:Int)/2 ^ e=((B/2 ^ e:Nat):Int):=(by rfl);have k:B/2 ^ e<=B:=IE _ _;have g:(v:Int)*2=((2*v:Nat):Int):=O;rw[h1,and1_u8 _ O,g];rw[Go.IntWalk.wrap64_in _ O,Go.IntWalk.wrap64_in _ O,Zpx _ _ O O,Zpw _ _ O]
theorem TA (x:Nat) (h:x<2 ^ 64):Go.Lib.bitLen x=nB x:=by
  have key:∀f y,y<2 ^ f->Go.Lib.bitLenAux f y=nB y:=by
    intro f;induction f with
    | zero => intro y g; have : y = 0 := O;subst this;rfl
    |succ f ih=>intro y g;unfold Go.Lib.bitLenAux;by_cases h0:y=0;subst h0;rfl;rw[Vae h0,ih (y/2) O,ZcM y O];omega
  exact key 64 x h
def vc (k p:Nat) (L:List Bool) (x:Nat) (v:Int) (e y:Nat):Prop:=
 ((rd k p L).2.2≠0->e=(rd k p L).2.2)/\((rd k p L).2.2=0->(rd k p L).1<=4611686018427387903->e=0/\v=((rd k p L).1:Nat)/\y=x+(rd k p L).2.1)/\
 ((rd k p L).2.2=0->4611686018427387903<(rd k p L).1->e=2)
theorem ZiK {e:Nat} (q:uu k p=true) (h:vc k.toNat p.toNat L x v e y) (g:e≠0):zw k p m L=(L,0,e):=Q1
theorem Zmp (q:uu k p=true) (h:vc k.toNat p.toNat L x v 0 y):
  0<=v/\(zw k p m L=if m<v then(L,0,2) else(L.drop (y-x),v.toNat,0))/\x<=y:=Q1
def Y3 (l:List Bool) (j:Nat):Nat:=val ((List.range 8).map λi=>l.getD (8*j+i) false)
def ct (l:List Bool):ax:=(List.range ((l.length+7)/8)).map λj=>UInt8.ofNat (Y3 l j)
theorem pack_length (l:List Bool):(ct l)=(l.length+7)/8:=by simp[ct]
theorem Xa (l:List Bool) (j:Nat):Y3 l j<256:=by have:=Zld ((List.range 8).map λi=>l.getD (8*j+i) false);simpa [Y3] using this
theorem Yy (l:List Bool) (j:Nat):Y3 l j=128*bt l (8*j)+64*bt l (8*j+1)+32*bt l (8*j+2)+16*bt l (8*j+3)+8*bt l (8*j+4)+4*bt l (8*j+5)+2*bt l (8*j+6)+bt l (8*j+7):=by have h:(List.range 8)=[0,1,2,3,4,5,6,7]:=(by rfl);unfold Y3;rw[h];simp only[tR,List.map_nil,val,List.foldl_cons,List.foldl_nil,bt,tS];omega
theorem QC (l:List Bool) (k:Nat) (h:l<=k):bt l k=0:=by simp[bt,List.getD,Ce h]
theorem TX (l r:List Bool) (k:Nat):bt (l++r) k=if k<l then bt l k else bt r (k-l.length):=by unfold bt;grind
theorem TO (b:Bool) (k:Nat):bt [b] k=if k=0 then b.toNat else 0:=by cases k<;>simp[bt]
theorem Z6f (l:List Bool) (b:Bool) (j:Nat) (h:j≠l.length/8):Y3 (l++[b]) j=Y3 l j:=by
 have e:∀i,i<8->bt (l++[b]) (8*j+i)=bt l (8*j+i):=by intro i hi;rw[TX];split;rfl;rw[TO,Vae O,QC _ _ O]
 rw[Yy,Yy];have e0:=e 0 O;grind
theorem Rt (l:List Bool) (b:Bool):Y3 (l++[b]) (l.length/8)=Y3 l (l.length/8)+b.toNat*2 ^ (7-l.length % 8):=by
 have e:∀i,i<8->bt (l++[b]) (8*(l.length/8)+i)=bt l (8*(l.length/8)+i)+if i=l.length % 8 then b.toNat else 0:=by intro i hi;rw[TX,TO];by_cases h1:i<l.length % 8;exact aO;rw[Vae O,QC l _ O];grind
 rw[Yy,Yy];have e0:=e 0 O;rw[tS] at e0;rw[e0,e 1 O,e 2 O,e 3 O,e 4 O,e 5 O,e 6 O,e 7 O];grind
theorem SQ (l:List Bool):Y3 l (l.length/8) % 2 ^ (8-l.length % 8)=0:=by have e:∀i,l.length % 8<=i->bt l (8*(l.length/8)+i)=0:=λi hi=>QC _ _ O;rw[Yy];have y:l.length % 8<8:=Nat.mod_lt _ O;have e0:=e 0;have g:=e 1;have k:=e 2;have p:=e 3;have q:=e 4;have t:=e 5;have u:=e 6;grind
theorem Zpz (a b s:Nat) (k:a % 2 ^ (s+1)=0) (hb:b<=1):a|||b*2 ^ s=a+b*2 ^ s:=by
 have h1:a=(a/2 ^ (s+1))<<<(s+1):=by rw[Nat.shiftLeft_eq];have:=Nat.div_add_mod a (2 ^ (s+1));grind
 have g:b*2 ^ s<2 ^ (s+1):=by have:=Ad (2 ^ s) hb;omega
 rw[h1,<-Nat.shiftLeft_add_eq_or_of_lt g]
def ki (l:List Bool):ax:=if l.length % 8=0 then ct l++[0] else ct l
theorem Qp (l:List Bool):(ki l)=l.length/8+1:=by unfold ki;split;simp[pack_length];omega;rw[pack_length];omega
theorem XE (l:List Bool) (j:Nat) (h:j<(ct l)):(ct l)[j]=UInt8.ofNat (Y3 l j):=by simp[ct]
theorem Zb3 (l:List Bool) (j:Nat) (h:l.length<=8*j):Y3 l j=0:=by rw[Yy,QC l _ O,QC l _ O,QC l _ O,QC l _ O,QC l _ O,QC l _ O,QC l _ O,QC l _ O]
theorem QQ (l:List Bool) (j:Nat) (h:j<(ki l)):(ki l)[j]=UInt8.ofNat (Y3 l j):=by have g:=Qp l;unfold ki at*;split;rcases Nat.lt_or_ge j (ct l).length with h1|h1;rw[IF h1,XE];rw[Nd h1];have:Y3 l j=0:=Zb3 l j aO;rw[this];simp;rw[XE]
theorem Ug (l:List Bool) (b:Bool):ct (l++[b])=(ki l).set (l.length/8) (UInt8.ofNat (Y3 l (l.length/8)+b.toNat*2 ^ (7-l.length % 8))):=by
 apply Vco;rw[od,pack_length,Qp,Vab,pg];omega;intro j h1 h2;rw[XE,List.getElem_set];split;.rename_i h3;rw[<-h3,Rt]
 rw[QQ,Z6f l b j O]
theorem Uk (g v j len:Nat) (hb:g<256) (q:g % 2 ^ (7-len % 8+1)=0):
  Go.bits .or .u8 (g:Int) ((v:Int)/2 ^ j % 2*2 ^ (7-len % 8) % 256)=((g+(v.testBit j).toNat*2 ^ (7-len % 8):Nat):Int):=by have h1:(v:Int)/2 ^ j % 2=((v.testBit j).toNat:Int):=aO;have k:(v.testBit j).toNat<=1:=O;have l:(2:Nat) ^ (7-len % 8)<=2 ^ 7:=pQ O O;have t:(v.testBit j).toNat*2 ^ (7-len % 8)<=1*2 ^ 7:=Nat.mul_le_mul k l;rw[h1];have p:((v.testBit j).toNat:Int)*2 ^ (7-len % 8)=(((v.testBit j).toNat*2 ^ (7-len % 8):Nat):Int):=(by rfl);rw[p,show((((v.testBit j).toNat*2 ^ (7-len % 8):Nat):Int) % 256)=(((v.testBit j).toNat*2 ^ (7-len % 8):Nat):Int) from by exact O];rw[Go.u8_or_nat _ _ hb O,Zpz _ _ _ q k]
theorem ZeN (c v j:Nat) (k:0<j) (g:j<=c):num (c-(j-1)) (v/2 ^ (j-1))=num (c-j) (v/2 ^ j)++[v.testBit (j-1)]:=by have:=Zj6 (c-j) (v/2 ^ (j-1));rw[show c-(j-1)=c-j+1 from by exact O,this,Nat.div_div_eq_div_mul,<-rn,Nat.succ_eq_add_one,show j-1+1=j from by exact O,Nat.testBit_div_two_pow];simp
