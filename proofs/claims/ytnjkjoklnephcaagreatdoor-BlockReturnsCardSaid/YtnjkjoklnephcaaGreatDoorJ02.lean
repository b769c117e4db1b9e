import Derived.Test.YtnjkjoklnephcaaGreatDoorJ0W
import Derived.Handy
import Derived.IntWalk
import Derived.Laws.BitsAllLaws
import Derived.Lib.BitFns
set_option linter.all false
set_option maxRecDepth 100000
set_option maxHeartbeats 0
section
variable{P Q:Prop}
theorem rr(h:P:=by rw[h]):P:=h
theorem aZ(h:P:=by decide):P:=h
theorem fp(h:P:=by simp;omega):P:=h
theorem CF(h:P:=by rw[Z2];omega):P:=h
theorem vV(h:P:=by rw[ht.2];decide):P:=h
theorem Cw(h:P:=by unfold ed;grind):P:=h
theorem FC(h:P:=by unfold eJ;grind):P:=h
theorem Jq(h:P:=by rw[og];exact Y5 hb h2):P:=h
theorem Jc(h:P:=by injection h with h;subst h;rfl):P:=h
theorem Aq(h:P:=by rw[rq,tQ _ 2,<-Ch];exact Ah _ (by omega)):P:=h
theorem Rq(h:P:=by obtain⟨h1,h2,a7⟩:=h;simp only[zx,u,if_true];grind):P:=h
theorem PQ(h:P:=by
 induction l with
 |nil=>grind
 |cons a t ih=>unfold ix;grind):P:=h
theorem OX(h:P:=by
 rw[<-List.reverse_reverse l];induction l.reverse with
 |nil=>grind
 |cons a l ih=>grind):P:=h
theorem O1(h:P:=by unfold P;rw[dU (by omega)];unfold ji N;have a7:=h.low;have:vl 0 (e.out++be 4 e.low)=vl (vl 0 e.out) (be 4 e.low):=(by simp[vl,rn]);rw[this,Zo8];omega):P:=h
end
namespace Wv
def aH (s:aS):ax:=s.data.toList
def bs (l:ax):aS:=⟨l.toArray⟩
theorem Zd (s:aS):bs (aH s)=s:=rfl
theorem Zk (l:ax):aH (bs l)=l:=rfl
theorem Z2 (s:aS):(aH s)=s.size:=rfl
theorem Z0 (l:ax):(bs l).size=l:=rfl
theorem Z8 (a b:ax):bs a++bs b=bs (a++b):=by rfl
theorem ZnW {a b:aS} :aH a=aH b↔a=b:=⟨λh=>by rw[<-Zd a,<-Zd b,h],λh=>rr⟩
def gq:Nat->Nat
 |0=>0
 |k+1=>gq k+2 ^ (7*(k+1))
def ed (n:Nat):Nat:=
 if n<128 then 0 else if n<16512 then 1 else if n<2113664 then 2 else if n<270549120 then 3 else if n<34630287488 then 4
 else if n<4432676798592 then 5 else if n<567382630219904 then 6 else if n<72624976668147840 then 7 else 8
def be:Nat->Nat->ax
 |0,_=>[]
 |k+1,r=>UInt8.ofNat (r/256 ^ k)::be k r
def bj (n:Nat):ax:=UInt8.ofNat (256-2 ^ (8-ed n)+(n-gq (ed n))/256 ^ ed n)::be (ed n) (n-gq (ed n))
def eJ (c:Nat):Nat:=if c<128 then 0 else if c<192 then 1 else if c<224 then 2 else if c<240 then 3 else if c<248 then 4 else if c<252 then 5 else if c<254 then 6 else if c<255 then 7 else 8
def vl (a:Nat) (l:ax):Nat:=l.foldl (λa b=>256*a+b.toNat) a
def hG:ax->Option (Nat×Nat)
 |[]=>none
 |c::t=>if t.length<eJ c.toNat then none else
  if 9223372036854775807<vl (c.toNat-(256-2 ^ (8-eJ c.toNat))) (t.take (eJ c.toNat))+gq (eJ c.toNat) then none
  else some (vl (c.toNat-(256-2 ^ (8-eJ c.toNat))) (t.take (eJ c.toNat))+gq (eJ c.toNat),eJ c.toNat+1)
theorem G9 (c:ci) (t:ax):hG (c::t)=if t.length<eJ c.toNat then none else
  if 9223372036854775807<vl (c.toNat-(256-2 ^ (8-eJ c.toNat))) (t.take (eJ c.toNat))+gq (eJ c.toNat) then none
  else some (vl (c.toNat-(256-2 ^ (8-eJ c.toNat))) (t.take (eJ c.toNat))+gq (eJ c.toNat),eJ c.toNat+1):=rfl
theorem Da (n:Nat):(ed n=0/\0<=n/\n<128)\/(ed n=1/\128<=n/\n<16512)\/(ed n=2/\16512<=n/\n<2113664)\/(ed n=3/\2113664<=n/\n<270549120)\/(ed n=4/\270549120<=n/\n<34630287488)\/(ed n=5/\34630287488<=n/\n<4432676798592)\/(ed n=6/\4432676798592<=n/\n<567382630219904)\/(ed n=7/\567382630219904<=n/\n<72624976668147840)\/(ed n=8/\72624976668147840<=n):=by by_cases c0:n<128;exact .inl ⟨Cw,O,c0⟩;by_cases c1:n<16512;exact .inr (.inl ⟨Cw,O,c1⟩);by_cases c2:n<2113664;exact .inr (.inr (.inl ⟨Cw,O,c2⟩));by_cases g:n<270549120;exact .inr (.inr (.inr (.inl ⟨Cw,O,g⟩)));by_cases k:n<34630287488;exact .inr (.inr (.inr (.inr (.inl ⟨Cw,O,k⟩))));by_cases l:n<4432676798592;exact .inr (.inr (.inr (.inr (.inr (.inl ⟨by unfold ed;simp only[c0,c1,c2,g,k,l,if_true,if_false],O,l⟩)))));by_cases p:n<567382630219904;exact .inr (.inr (.inr (.inr (.inr (.inr (.inl ⟨by unfold ed;simp only[c0,c1,c2,g,k,l,p,if_true,if_false],O,p⟩))))));by_cases q:n<72624976668147840;exact .inr (.inr (.inr (.inr (.inr (.inr (.inr (.inl ⟨by unfold ed;simp only[c0,c1,c2,g,k,l,p,q,if_true,if_false],O,q⟩)))))));exact .inr (.inr (.inr (.inr (.inr (.inr (.inr (.inr (⟨by unfold ed;simp only[c0,c1,c2,g,k,l,p,q,if_false],O⟩))))))))
theorem Ye (n:Nat):ed n<=8:=by have:=Da n;omega
theorem QW:gq 0=0/\gq 1=128/\gq 2=16512/\gq 3=2113664/\gq 4=270549120/\gq 5=34630287488/\gq 6=4432676798592/\gq 7=567382630219904/\gq 8=72624976668147840:=aZ
theorem nine (k:Nat) (h:k<=8):k=0\/k=1\/k=2\/k=3\/k=4\/k=5\/k=6\/k=7\/k=8:=O
theorem ZkF (k:Nat) (h:k<=8):gq k<=72624976668147840:=by have:=QW;grind
theorem Zj4 (n k:Nat) (h:k<8) (l:k<=ed n):gq (k+1)<=n↔k<ed n:=by have h1:=Da n;have g:=QW;rcases nine k O with rfl|rfl|rfl|rfl|rfl|rfl|rfl|rfl|rfl<;>simp only[jW,Nat.reduceAdd]<;>omega
theorem W7 (n:Nat):gq (ed n)<=n:=by have h1:=Da n;have g:=QW;grind
theorem I_ (n:Nat) (k:n<9223372036854775808):(n-gq (ed n))/256 ^ ed n<2 ^ (7-ed n)/\(ed n=8->(n-gq (ed n))/256 ^ ed n=0):=by have h1:=Da n;have g:=QW;rcases nine (ed n) (Ye n) with h|h|h|h|h|h|h|h|h<;>rw[h] at h1⊢<;>simp only[Nat.reducePow,Nat.reduceSub]<;>omega
theorem Yd (k r:Nat):(be k r)=k:=by
 induction k with
 |zero=>rfl
 |succ k ih=>simp[be,ih]
theorem lT (n:Nat):(bj n)=ed n+1:=by simp[bj,Yd]
theorem Zo8 (k:Nat):∀a r,vl a (be k r)=a*256 ^ k+r % 256 ^ k:=by
 induction k with
 |zero=>simp[vl,be,Nat.mod_one]
 |succ k ih=>intro a r;have e:vl a (be (k+1) r)=vl (256*a+(UInt8.ofNat (r/256 ^ k)).toNat) (be k r):=rfl;rw[e,ih];have h1:(UInt8.ofNat (r/256 ^ k)).toNat=r/256 ^ k % 256:=(by simp);rw[h1,rq,Nat.mod_mul];grind
theorem Ge (c:Nat):(eJ c=0/\0<=c/\c<128)\/(eJ c=1/\128<=c/\c<192)\/(eJ c=2/\192<=c/\c<224)\/(eJ c=3/\224<=c/\c<240)\/(eJ c=4/\240<=c/\c<248)\/(eJ c=5/\248<=c/\c<252)\/(eJ c=6/\252<=c/\c<254)\/(eJ c=7/\254<=c/\c<255)\/(eJ c=8/\255<=c):=by by_cases c0:c<128;exact .inl ⟨FC,O,c0⟩;by_cases c1:c<192;exact .inr (.inl ⟨FC,O,c1⟩);by_cases c2:c<224;exact .inr (.inr (.inl ⟨FC,O,c2⟩));by_cases g:c<240;exact .inr (.inr (.inr (.inl ⟨FC,O,g⟩)));by_cases k:c<248;exact .inr (.inr (.inr (.inr (.inl ⟨by unfold eJ;simp only[c0,c1,c2,g,k,if_true,if_false],O,k⟩))));by_cases l:c<252;exact .inr (.inr (.inr (.inr (.inr (.inl ⟨by unfold eJ;simp only[c0,c1,c2,g,k,l,if_true,if_false],O,l⟩)))));by_cases p:c<254;exact .inr (.inr (.inr (.inr (.inr (.inr (.inl ⟨by unfold eJ;simp only[c0,c1,c2,g,k,l,p,if_true,if_false],O,p⟩))))));by_cases q:c<255;exact .inr (.inr (.inr (.inr (.inr (.inr (.inr (.inl ⟨by unfold eJ;simp only[c0,c1,c2,g,k,l,p,q,if_true,if_false],O,q⟩)))))));exact .inr (.inr (.inr (.inr (.inr (.inr (.inr (.inr (⟨by unfold eJ;simp only[c0,c1,c2,g,k,l,p,q,if_false],O⟩))))))))
theorem Ht (c:Nat):eJ c<=8:=by have:=Ge c;omega
theorem TC (k m:Nat) (g:k<=8) (l:m<2 ^ (7-k)) (p:k=8->m=0):256-2 ^ (8-k)+m<256/\eJ (256-2 ^ (8-k)+m)=k:=by have h1:=Ge (256-2 ^ (8-k)+m);rcases nine k g with rfl|rfl|rfl|rfl|rfl|rfl|rfl|rfl|rfl<;>simp only[Nat.reducePow,Nat.reduceSub] at h1 l⊢<;>omega
theorem Mr (n:Nat) (t:n<9223372036854775808) (r:ax):hG (bj n++r)=some (n,ed n+1):=by
 obtain⟨h1,g⟩:=I_ n t;obtain⟨u,k⟩:=TC (ed n) _ (Ye n) h1 g;have l:(UInt8.ofNat (256-2 ^ (8-ed n)+(n-gq (ed n))/256 ^ ed n)).toNat=256-2 ^ (8-ed n)+(n-gq (ed n))/256 ^ ed n:=mM;have p:(be (ed n) (n-gq (ed n))++r).take (ed n)=be (ed n) (n-gq (ed n)):=by rw[List.take_append_of_le_length (by rw[Yd];grind),dU (by rw[Yd];grind)]
 have q:vl (256-2 ^ (8-ed n)+(n-gq (ed n))/256 ^ ed n-(256-2 ^ (8-ed n))) (be (ed n) (n-gq (ed n)))=n-gq (ed n):=by rw[Zo8,Nat.add_sub_cancel_left,Nat.div_add_mod']
 have y:=W7 n;show hG (UInt8.ofNat _::(be _ _++r))=_;rw[G9,l,k,p,q,az (by rw[bT,Yd];omega),az O];grind
theorem Zr3 {s:ax} {n z:Nat} (h:hG s=some (n,z)):n<=9223372036854775807/\1<=z/\z<=s/\z<=9:=by
 match s with
 |[]=>simp[hG] at h
 |c::t=>rw[G9] at h;have:=Ht c.toNat;split at h;exact aI;grind
section
variable{b p:Nat}
structure En where
 out:List UInt8
 low:Nat
 size:Nat
structure De where
 rest:List UInt8
 code:Nat
 size:Nat
 miss:Bool
 full:Bool
def Ec:ax->ax
 |[]=>[]
 |b::t=>if b=255 then 0::Ec t else(b+1)::t
def Qd (l:ax):ax:=(Ec l.reverse).reverse
def Xg (e:En):En:=⟨e.out++[UInt8.ofNat (e.low/16777216)],e.low*256 % 4294967296,e.size*256⟩
def QG:Nat->En->En
 |0,e=>e
 |k+1,e=>if e.size<16777216 then QG k (Xg e) else e
def YT (p b:Nat) (e:En):En:=
 if b=0 then⟨e.out,e.low,e.size/2048*p⟩
 else if 4294967296<=e.low+e.size/2048*p then⟨Qd e.out,e.low+e.size/2048*p-4294967296,e.size-e.size/2048*p⟩
 else⟨e.out,e.low+e.size/2048*p,e.size-e.size/2048*p⟩
def nP (p b:Nat) (e:En):En:=QG 2 (YT p b e)
def e0:En:=⟨[],0,4294967295⟩
def ji (e:En):ax:=e.out++be 4 e.low
def Xx (d:De):De:=
 match d.rest with
 |[]=>⟨[],d.code*256 % 4294967296,d.size,true,d.full⟩
 |c::t=>⟨t,d.code*256 % 4294967296+c.toNat,d.size,d.miss,d.full⟩
def wl (d:De):De:= { Xx d with size:=d.size*256 }
def ta:Nat->De->De
 |0,d=>d
 |k+1,d=>if d.size<16777216 then ta k (wl d) else d
def um (p:Nat) (d:De):De:=
 if d.code<d.size/2048*p then { d with size:=d.size/2048*p } else { d with code:=d.code-d.size/2048*p,size:=d.size-d.size/2048*p }
def iO (p:Nat) (d:De):Nat:=if d.code<d.size/2048*p then 0 else 1
def qh (p:Nat) (d:De):De:=ta 2 (um p d)
def uv (s:ax):De:=Xx (Xx (Xx (Xx ⟨s,0,4294967295,false,false⟩)))
def d0 (s:ax):De:= { uv s with full:=decide ((uv s).code=(uv s).size) }
def pL (d:De):Bool:= !d.miss&& !d.full&&d.rest.isEmpty&&d.code==0
def mW:Nat->Nat->En->En
 |0,_,e=>e
 |n+1,v,e=>mW n v (nP 1024 (v/2 ^ n % 2) e)
def lr:Nat->Nat->De->Nat×De
 |0,a,d=>(a,d)
 |n+1,a,d=>lr n (2*a+iO 1024 d) (qh 1024 d)
theorem Dy (a:Nat) (l:ax) (b:ci):vl a (l++[b])=256*vl a l+b.toNat:=by simp[vl,rn]
theorem vc {α:Type} {P:List α->Prop} (h0:P []) (h1:∀l a,P l->P (l++[a])) (l:List α):P l:=OX
theorem JX (l:ax):Qd (l++[255])=Qd l++[0]:=by simp[Qd,Ec]
theorem JY (l:ax) (b:ci) (h:b≠255):Qd (l++[b])=l++[b+1]:=by simp[Qd,Ec,h]
theorem Ym (l:ax):(Qd l)=l.length:=by
 induction l using vc with
 |h0=>rfl
 |h1 l b ih=>by_cases h:b=255;subst h;rw[JX];simp[ih];rw[JY _ _ h];simp
theorem Wl (l:ax) (h:vl 0 l+1<256 ^ l.length):vl 0 (Qd l)=vl 0 l+1:=by
 induction l using vc with
 |h0=>exact aI
 |h1 l b ih=>
  rw[Dy] at h⊢;by_cases hb:b=255;subst hb;rw[JX,Dy];grind;rw[JY _ _ hb,Dy];have h1:b.toNat≠255:=λe=>hb (UInt8.toNat_inj.1 e);have g:=iA b;have:(b+1).toNat=b.toNat+1:=by rw[UInt8.toNat_add];grind
  omega
def N (e:En):Nat:=vl 0 e.out*4294967296+e.low
def Cb (k:Nat) (n:Nat):Prop:=16777216<=n*256 ^ k/\n<4294967296
structure dB (k:Nat) (e:En):Prop where
 sz:Cb k e.size
 low:e.low<4294967296
 top:N e+e.size<=4294967295*256 ^ e.out.length
theorem xK:dB 0 e0:=⟨⟨aZ,aZ⟩,aZ,aZ⟩
theorem DS {e:En} (h:dB 0 e):16777216<=e.size/\e.size<4294967296:=by have:=h.sz;unfold Cb at this;omega
theorem C5 (s p:Nat) (h1:16777216<=s) (g:1<=p) (k:p<=2047):8192<=s/2048*p/\s/2048*p+8192<=s:=by have a1:s/2048*1<=s/2048*p:=EC _ g;have a2:s/2048*p<=s/2048*2047:=EC _ k;omega
theorem QH {e:En} (h:dB 0 e) (fa:1<=p) (fl:p<=2047):dB 2 (YT p b e)/\N e<=N (YT p b e)/\N (YT p b e)+(YT p b e).size<=N e+e.size/\(YT p b e).out=e.out.length:=by
 obtain⟨h1,h2⟩:=DS h;obtain⟨b1,b2⟩:=C5 e.size p h1 fa fl;have h3:=h.low;have h4:=h.top;clear h;have hN:∀o l s,N ⟨o,l,s⟩=vl 0 o*4294967296+l:=λ_ _ _=>rfl;have Kk:N e=vl 0 e.out*4294967296+e.low:=rfl;have key:∀x:En,8192<=x.size->x.size<=e.size->x.low<4294967296->N x+x.size<=N e+e.size->N e<=N x->x.out.length=e.out.length->dB 2 x/\N e<=N x/\N x+x.size<=N e+e.size/\x.out=e.out.length:=by intro x a1 a2 a3 a4 a5 a6;refine⟨⟨⟨O,O⟩,a3,?_⟩,a5,a4,a6⟩;rw[a6];grind
 unfold YT;generalize e.size/2048*p=B at*;split;exact aI;split;.rename_i _ fA;have hc:vl 0 e.out+1<256 ^ e.out.length:=O;have hv:=Wl e.out hc;clear h4;exact key _ aI aI (by show e.low+B-_<_;omega) (by rw[hN,hv,Kk];show _+(e.size-B)<=_;omega) (by rw[hN (Qd e.out),hv,Kk];omega) (Ym _)
 grind
theorem K5 (e:En) (h:e.low<4294967296):N (Xg e)=256*N e:=by unfold N Xg;rw[Dy];have:(UInt8.ofNat (e.low/16777216)).toNat=e.low/16777216:=fp;grind
theorem FQ {k:Nat} {e:En} (h:dB (k+1) e) (p:e.size<16777216):dB k (Xg e):=by have h1:=h.sz;have g:=h.low;have l:=h.top;refine⟨⟨?_,?_⟩,?_,?_⟩;have:=h1.1;show _<=e.size*256*256 ^ k;grind;show e.size*256<_;omega;show e.low*256 % 4294967296<4294967296;omega;rw[K5 e g];show 256*N e+e.size*256<=4294967295*256 ^ (e.out++[_]).length;rw[bT,pi,rq,<-Ch];omega
theorem ZdW (k:Nat):∀ {e:En},dB k e->dB 0 (QG k e):=by
 induction k with
 |zero=>intro e h;exact h
 |succ k ih=>intro e h;rw[QG];split;exact ih (FQ h O);refine⟨⟨?_,h.sz.2⟩,h.low,h.top⟩;omega
theorem XB {e:En} (h:dB 0 e) (g:1<=p) (k:p<=2047):dB 0 (nP p b e):=ZdW 2 (QH h g k).1
section
variable (F:ax)
def P (k:Nat):Nat:=vl 0 (F.take k)
theorem Zky (k:Nat) (h:k<F):P F (k+1)=256*P F k+(F[k]).toNat:=by unfold P;rw[dD h,Dy]
structure Wi (e:En):Prop where
 len:e.out.length+4<=F.length
 lo:N e<=P F (e.out.length+4)
 hi:P F (e.out.length+4)<N e+e.size
structure Sy (e:En) (d:De):Prop where
 wi:Wi F e
 size:d.size=e.size
 code:d.code=P F (e.out.length+4)-N e
 rest:d.rest=F.drop (e.out.length+4)
 miss:d.miss=false
 full:d.full=false
variable {F}
theorem Xa (e:En):(Xg e).out=e.out.length+1:=by simp[Xg]
theorem Zks {e:En} (p:e.low<4294967296) (h:Wi F (Xg e)):Wi F e:=by obtain⟨h1,g,k⟩:=h;rw[Xa] at h1 g k;rw[K5 e p] at g k;have l:e.out+1+4=(e.out.length+4)+1:=(by rfl);rw[l,Zky F _ O] at g k;have q:(Xg e).size=e.size*256:=rfl;have:=iA (F[e.out.length+4]'O);exact⟨O,O,O⟩
theorem L6 (k:Nat):∀ {e:En},dB k e->Wi F (QG k e)->Wi F e:=by
 induction k with
 |zero=>intro e _ h;exact h
 |succ k ih=>intro e g h;rw[QG] at h;split at h;exact Zks g.low (ih (FQ g O) h);omega
theorem Zln {e:En} (h:dB 0 e) (g:1<=p) (k:p<=2047) (q:Wi F (nP p b e)):Wi F e:=by obtain⟨h1,t,u,l⟩:=QH h (b:=b) g k;obtain⟨k1,k2,k3⟩:=L6 2 h1 q;rw[l] at k1 k2 k3;exact⟨k1,O,O⟩
theorem Zke {e:En} {d:De} (p:e.low<4294967296) (z:e.size<16777216) (h:Sy F e d) (l:Wi F (Xg e)):Sy F (Xg e) (wl d):=by
 obtain⟨⟨t,u,y⟩,h1,h2,h3,h4,h5⟩:=h;have g:=l.len;rw[Xa] at g;have q:d.rest=F[e.out.length+4]::F.drop (e.out.length+5):=mM;have k:wl d=⟨F.drop (e.out.length+5),d.code*256 % 4294967296+(F[e.out.length+4]).toNat,d.size*256,d.miss,d.full⟩:=by unfold wl Xx;rw[q]
 refine⟨l,by show d.size*256=e.size*256;rw[h1],?_,by rw[k,Xa],aI,aI⟩;rw[k,Xa,K5 e p,show e.out.length+1+4=(e.out.length+4)+1 from by rfl,Zky F _ O];grind
theorem ZnQ (k:Nat):∀ {e:En} {d:De},dB k e->Sy F e d->Wi F (QG k e)->Sy F (QG k e) (ta k d):=by
 induction k with
 |zero=>intro e d _ h _;exact h
 |succ k ih=>
  intro e d hv h hw;rw[QG] at hw⊢;rw[ta,h.size];split;.rename_i hs;rw[aP hs] at hw;have pC:=FQ hv hs;exact ih pC (Zke hv.low hs h (L6 k pC hw)) hw
  omega
theorem Zlb {e:En} {d:De} (hv:dB 0 e) (hb:b<2) (fa:1<=p) (fl:p<=2047) (h:Sy F e d) (hw:Wi F (nP p b e)):iO p d=b/\Sy F (nP p b e) (qh p d):=by
 obtain⟨h1,h2,h3,h4⟩:=QH hv (b:=b) fa fl;have k:=L6 2 h1 hw;obtain⟨u1,u2⟩:=DS hv;obtain⟨b1,b2⟩:=C5 e.size p u1 fa fl
 have key:iO p d=b/\Sy F (YT p b e) (um p d):=by
  obtain⟨⟨g1,g2,g3⟩,i1,i2,i3,i4,i5⟩:=h;have k2:=k.lo;have k3:=k.hi;rw[h4] at k2 k3;have hz:b=0\/b=1:=O;rcases hz with rfl|rfl;have e1:YT p 0 e=⟨e.out,e.low,e.size/2048*p⟩:=(by rfl);have hN:N (YT p 0 e)=N e:=(by rfl);have hS:(YT p 0 e).size=e.size/2048*p:=(by rfl);have hc:d.code<d.size/2048*p:=aI;have hd:um p d= { d with size:=d.size/2048*p } :=(by unfold um;grind);rw[hd];exact⟨by simp[iO,hc],k,aI,aI,aI,i4,i5⟩
  have hN:N (YT p 1 e)=N e+e.size/2048*p:=by
   unfold YT;rw[az O];split
   .rename_i fA;have h5:=hv.top;have hc:vl 0 e.out+1<256 ^ e.out.length:=by simp only[N] at h5;generalize 256 ^ e.out.length=M at*;generalize e.size/2048*p=B at*;have:=hv.low;omega
    simp only[N,Wl e.out hc];omega
   simp only[N];omega
  have hS:(YT p 1 e).size=e.size-e.size/2048*p:=by unfold YT;rw[az O];split<;>rfl
  have hc:¬d.code<d.size/2048*p:=(by rw[i1,i2];omega);have hd:um p d= { d with code:=d.code-d.size/2048*p,size:=d.size-d.size/2048*p } :=(by unfold um;rw[az hc]);rw[hd];exact⟨by simp[iO,hc],k,by rw[hS,<-i1],by rw[h4,hN];show d.code-d.size/2048*p=_;rw[i1,i2];omega,by rw[h4];exact i3,i4,i5⟩
 exact⟨key.1,ZnQ 2 h1 key.2 hw⟩
theorem MD (n v:Nat):∀ {e:En},dB 0 e->Wi F (mW n v e)->Wi F e/\dB 0 (mW n v e):=by
 induction n with
 |zero=>intro e h k;exact⟨k,h⟩
 |succ n ih=>intro e h k;obtain⟨a,b⟩:=ih (XB h (p:=1024) O O) k;exact⟨Zln h O O a,b⟩
theorem Vx (n v:Nat):∀ {e:En},dB 0 e->dB 0 (mW n v e):=by
 induction n with
 |zero=>intro e h;exact h
 |succ n ih=>intro e h;exact ih (XB h (p:=1024) O O)
theorem Zlc (n v:Nat):∀(a:Nat) {e:En} {d:De},dB 0 e->Sy F e d->Wi F (mW n v e)->(lr n a d).1=a*2 ^ n+v % 2 ^ n/\Sy F (mW n v e) (lr n a d).2:=by
 induction n with
 |zero=>intro a e d _ h _;exact⟨by simp[lr,Nat.mod_one],h⟩
 |succ n ih=>intro a e d g h k;have l:=XB g (p:=1024) (b:=v/2 ^ n % 2) O O;have q:=(MD n v l k).1;obtain⟨h1,t⟩:=Zlb g O O O h q;obtain⟨u,y⟩:=ih (2*a+v/2 ^ n % 2) l t k;rw[lr,h1];refine⟨?_,y⟩;rw[u,rq,Nat.mod_mul,Nat.add_mul,tQ (v/2 ^ n % 2)];grind
theorem Zlo {e:En} (h:dB 0 e):Wi (ji e) e:=by
 have g:(ji e)=e.out.length+4:=by simp[ji,Yd]
 have k:P (ji e) (e.out.length+4)=N e:=O1;have:=DS h;exact⟨O,O,O⟩
theorem Zqc {e:En} {d:De} (h:dB 0 e) (g:Sy (ji e) e d):pL d=true:=by
 have p:(ji e)=e.out.length+4:=by simp[ji,Yd]
 have l:P (ji e) (e.out.length+4)=N e:=O1;have h1:=g.code;have k:=g.rest;rw[l] at h1;rw[List.drop_of_length_le O] at k;simp[pL,g.miss,g.full,h1,k]
end
theorem four {F:ax} (h:4<=F.length):∃a b c d t,F=a::b::c::d::t:=by rcases F with _|⟨a,_|⟨b,_|⟨c,_|⟨d,t⟩⟩⟩⟩;exact aI;exact aI;exact aI;exact aI;grind
theorem ZdG (a b c d:ci) (t:ax):uv (a::b::c::d::t)=⟨t,((a.toNat*256+b.toNat)*256+c.toNat)*256+d.toNat,4294967295,false,false⟩:=by have g:=iA a;have hb:=iA b;have k:=iA c;simp only[uv,Xx];grind
theorem V0 {F:ax} (h:Wi F e0):Sy F e0 (d0 F):=by
 obtain⟨a,b,c,d,t,rfl⟩:=four (show 4<=F.length from h.len);have g:=h.hi;have k:P (a::b::c::d::t) (e0.out.length+4)=((a.toNat*256+b.toNat)*256+c.toNat)*256+d.toNat:=by show vl 0 [a,b,c,d]=_;simp[vl];omega
 have l:N e0=0:=rfl;have p:e0.size=4294967295:=rfl;have hd:=ZdG a b c d t;refine⟨h,?_,?_,?_,?_,?_⟩;rfl;show(uv _).code=_;grind;rfl;rfl;show decide ((uv _).code=(uv _).size)=false;grind
end
section
variable{L b m n v z:Nat}{t:List Nat}
def Yc (z b:Nat):Nat:=if b=0 then z+(2048-z)/32 else z-z/32
def fY:Nat->Nat->Nat->List Nat->En->List Nat×En
 |0,_,_,t,e=>(t,e)
 |n+1,v,m,t,e=>fY n v (2*m+v/2 ^ n % 2) (t.set m (Yc (t.getD m 0) (v/2 ^ n % 2))) (nP (t.getD m 0) (v/2 ^ n % 2) e)
def er:Nat->Nat->List Nat->De->Nat×List Nat×De
 |0,m,t,d=>(m,t,d)
 |n+1,m,t,d=>er n (2*m+iO (t.getD m 0) d) (t.set m (Yc (t.getD m 0) (iO (t.getD m 0) d))) (qh (t.getD m 0) d)
def fc (n:Nat):Nat:=if n=0 then 0 else n.log2+1
def kT (v:Nat) (x:List Nat×En):List Nat×En:=
 ((fY 6 (fc v) 1 x.1 x.2).1,if 2<=fc v then mW (fc v-1) v (fY 6 (fc v) 1 x.1 x.2).2 else(fY 6 (fc v) 1 x.1 x.2).2)
def wH (n:Nat) (d:De):Int:=if n<2 then(n:Int) else if n=63 then-1 else((2 ^ (n-1)+(lr (n-1) 0 d).1:Nat):Int)
def gS (t:List Nat) (d:De):Int×List Nat×De:=
 (wH ((er 6 1 t d).1-64) (er 6 1 t d).2.2,(er 6 1 t d).2.1,
  if(er 6 1 t d).1-64<2 then(er 6 1 t d).2.2 else if(er 6 1 t d).1-64=63 then(er 6 1 t d).2.2 else(lr ((er 6 1 t d).1-64-1) 0 (er 6 1 t d).2.2).2)
def t0:List Nat:=List.replicate 64 1024
def Q4:List Nat->List Nat×En->List Nat×En
 |[],x=>x
 |v::l,x=>Q4 l (kT v x)
def uq:Nat->List Nat->De->List Int×De
 |0,_,d=>([],d)
 |n+1,t,d=>((gS t d).1::(uq n (gS t d).2.1 (gS t d).2.2).1,(uq n (gS t d).2.1 (gS t d).2.2).2)
def jj (l:List Nat):ax:=bj l.length++if l=[] then[] else ji (Q4 l (t0,e0)).2
def fq (s:ax) (most:Int):List Int×Nat:=
 match hG s with
 |none=>([],12)
 |some (n,z)=>
  if 4096<n then([],12) else if most<(n:Int) then([],2) else if n=0 then([],if z<s then 12 else 0)
  else if pL (uq n t0 (d0 (s.drop z))).2=true/\∀v∈(uq n t0 (d0 (s.drop z))).1,0<=v then((uq n t0 (d0 (s.drop z))).1,0) else([],12)
def iU (t:List Nat):Prop:=∀x∈t,1<=x/\x<=2047
theorem X1 (h:1<=z/\z<=2047):1<=Yc z b/\Yc z b<=2047:=by unfold Yc;grind
theorem Qt (h:iU t) (g:m<t):1<=t.getD m 0/\t.getD m 0<=2047:=by have e:t.getD m 0=t[m]:=aI;rw[e];exact h _ (dr _)
theorem Qu (h:iU t) (m:Nat) (k:1<=z/\z<=2047):iU (t.set m z):=by intro x g;rcases List.mem_or_eq_of_mem_set g with h1|h1;exact h x h1;grind
theorem Zrc:iU t0:=by intro x g;rw[t0,Ck] at g;omega
theorem Xn (h:(m+1)*2 ^ (n+1)<=2*L):m<L:=by have:2<=2 ^ (n+1):=aI;have g:(m+1)*2<=(m+1)*2 ^ (n+1):=EC _ this;omega
theorem Y5 (hb:b<2) (h:(m+1)*2 ^ (n+1)<=2*L):(2*m+b+1)*2 ^ n<=2*L:=by refine cp ?_ h;exact Aq
theorem Ba (n:Nat):∀(v m:Nat) {t:List Nat} {e:En},iU t->(m+1)*2 ^ n<=2*t.length->dB 0 e->
  iU (fY n v m t e).1/\(fY n v m t e).1=t.length/\dB 0 (fY n v m t e).2:=by
 induction n with
 |zero=>intro v m t e h1 _ g;exact⟨h1,rfl,g⟩
 |succ n ih=>intro v m t e h1 h2 g;have k:=Qt h1 (Xn h2);have hb:v/2 ^ n % 2<2:=O;obtain⟨a,b,c⟩:=ih v (2*m+v/2 ^ n % 2) (Qu h1 m (X1 (b:=v/2 ^ n % 2) k)) Jq (XB g (b:=v/2 ^ n % 2) k.1 k.2);exact⟨a,by rw[fY,b,og],c⟩
section
variable {F:ax}
theorem Hy (n:Nat):∀(v m:Nat) {t:List Nat} {e:En},iU t->(m+1)*2 ^ n<=2*t.length->dB 0 e->Wi F (fY n v m t e).2->Wi F e:=by
 induction n with
 |zero=>intro v m t e _ _ _ h;exact h
 |succ n ih=>intro v m t e h1 h2 k h;have g:=Qt h1 (Xn h2);have hb:v/2 ^ n % 2<2:=O;have:=ih v (2*m+v/2 ^ n % 2) (Qu h1 m (X1 (b:=v/2 ^ n % 2) g)) Jq (XB k (b:=v/2 ^ n % 2) g.1 g.2) h;exact Zln k g.1 g.2 this
theorem LX (n:Nat):∀(v m:Nat) {t:List Nat} {e:En} {d:De},iU t->(m+1)*2 ^ n<=2*t.length->dB 0 e->Sy F e d->Wi F (fY n v m t e).2->
  (er n m t d).1=m*2 ^ n+v % 2 ^ n/\(er n m t d).2.1=(fY n v m t e).1/\Sy F (fY n v m t e).2 (er n m t d).2.2:=by
 induction n with
 |zero=>intro v m t e d _ _ _ h _;exact⟨by simp[er,Nat.mod_one],rfl,h⟩
 |succ n ih=>intro v m t e d h1 h2 k h l;have g:=Qt h1 (Xn h2);have hb:v/2 ^ n % 2<2:=O;have k1:=Qu h1 m (X1 (b:=v/2 ^ n % 2) g);have k2:(2*m+v/2 ^ n % 2+1)*2 ^ n<=2*(t.set m (Yc (t.getD m 0) (v/2 ^ n % 2))).length:=Jq;have k3:=XB k (b:=v/2 ^ n % 2) g.1 g.2;have p:=Hy n v _ k1 k2 k3 l;obtain⟨a1,a2⟩:=Zlb k hb g.1 g.2 h p;obtain⟨b1,q,b3⟩:=ih v (2*m+v/2 ^ n % 2) k1 k2 k3 a2 l;rw[er,a1];refine⟨?_,q,b3⟩;rw[b1,rq,Nat.mod_mul,Nat.add_mul,tQ (v/2 ^ n % 2)];grind
end
def lM (t:List Nat):Prop:=iU t/\t.length=64
theorem zg:lM t0:=⟨Zrc,by rfl⟩
theorem JB (h:v<4611686018427387904):fc v<=62:=by unfold fc;split;exact O;have:=(Nat.log2_lt (n:=v) (k:=62) O).2 O;omega
theorem Tn (h:0<v):2 ^ (fc v-1)+v % 2 ^ (fc v-1)=v:=by unfold fc;rw[az O,vO];have h1:=Nat.log2_self_le (n:=v) O;have g:v<2 ^ (v.log2+1):=(Nat.log2_lt (n:=v) (k:=v.log2+1) O).1 O;rw[Nat.mod_eq_sub_mod h1,Nat.mod_eq_of_lt O];omega
theorem ZhF (h:fc v<2):v=fc v:=by
 rcases qB v with rfl|g;rfl;have:=Tn g;have h1:fc v=1:=by unfold fc at*;grind
 grind
theorem Dd {x:List Nat×En} (ht:lM x.1) (g:dB 0 x.2):lM (kT v x).1/\dB 0 (kT v x).2:=by obtain⟨a,b,c⟩:=Ba 6 (fc v) 1 ht.1 vV g;refine⟨⟨a,b.trans ht.2⟩,?_⟩;unfold kT;split;exact Vx _ _ c;omega
section
variable {F:ax}
theorem Dz {x:List Nat×En} (ht:lM x.1) (k:dB 0 x.2) (g:Wi F (kT v x).2):Wi F x.2:=by obtain⟨a,b,c⟩:=Ba 6 (fc v) 1 ht.1 vV k;refine Hy 6 (fc v) 1 ht.1 vV k ?_;unfold kT at g;split at g;exact(MD _ _ c g).1;omega
theorem LW {x:List Nat×En} {d:De} (ht:lM x.1) (he:dB 0 x.2) (hv:v<4611686018427387904) (h:Sy F x.2 d) (hw:Wi F (kT v x).2):
  (gS x.1 d).1=v/\(gS x.1 d).2.1=(kT v x).1/\Sy F (kT v x).2 (gS x.1 d).2.2:=by
 obtain⟨a,b,c⟩:=Ba 6 (fc v) 1 ht.1 vV he;have hb:=JB hv;have hwt:Wi F (fY 6 (fc v) 1 x.1 x.2).2:=by unfold kT at hw;simp only at hw;split at hw;exact(MD _ _ c hw).1;omega
 obtain⟨p,q,r⟩:=LX 6 (fc v) 1 ht.1 vV he h hwt;have hm:(er 6 1 x.1 d).1-64=fc v:=O;refine⟨?_,q,?_⟩
 .show wH ((er 6 1 x.1 d).1-64) _=_;rw[hm];unfold wH;split;.rename_i h1;have:=ZhF h1;omega
  rename_i h1;rw[az O];have j6:Wi F (mW (fc v-1) v (fY 6 (fc v) 1 x.1 x.2).2):=by unfold kT at hw;simp only at hw;rw[aP O] at hw;exact hw
  have h3:=(Zlc (fc v-1) v 0 c r j6).1;rw[h3];have hp:0<v:=by rcases qB v with rfl|h4;exfalso;apply h1;decide;exact h4
  have:=Tn hp;omega
 show Sy F _ (if(er 6 1 x.1 d).1-64<2 then _ else _);rw[hm];unfold kT at hw⊢;simp only at hw⊢;by_cases h2:fc v<2;rw[aP h2,az O];exact r;rw[aP O] at hw⊢;rw[az h2,az O];exact(Zlc (fc v-1) v 0 c r hw).2
theorem Wo (l:List Nat):∀ {x:List Nat×En},lM x.1->dB 0 x.2->Wi F (Q4 l x).2->Wi F x.2:=by
 induction l with
 |nil=>intro x _ _ h;exact h
 |cons v l ih=>intro x h1 g h;obtain⟨k1,k2⟩:=Dd (v:=v) h1 g;exact Dz h1 g (ih k1 k2 h)
theorem Zkd (l:List Nat):∀ {x:List Nat×En} {d:De},lM x.1->dB 0 x.2->(∀v∈l,v<4611686018427387904)->Sy F x.2 d->Wi F (Q4 l x).2->
  (uq l x.1 d).1=l.map Int.ofNat/\Sy F (Q4 l x).2 (uq l x.1 d).2:=by
 induction l with
 |nil=>intro x d _ _ _ h _;exact⟨rfl,h⟩
 |cons v l ih=>intro x d h1 g k h p;obtain⟨k1,k2⟩:=Dd (v:=v) h1 g;obtain⟨a1,a2,a3⟩:=LW h1 g (k v fm) h (Wo l k1 k2 p);obtain⟨b1,q⟩:=ih k1 k2 (λu t=>k u (gN _ t)) a3 p;rw[f',uq,a1,a2];exact⟨aI,q⟩
end
theorem Ut (l:List Nat):∀ {x:List Nat×En},lM x.1->dB 0 x.2->lM (Q4 l x).1/\dB 0 (Q4 l x).2:=by
 induction l with
 |nil=>intro x h1 g;exact⟨h1,g⟩
 |cons v l ih=>intro x h1 g;obtain⟨k1,k2⟩:=Dd (v:=v) h1 g;exact ih k1 k2
theorem Up (l:List Nat) (most:Int) (u:l.length<=4096) (y:(l.length:Int)<=most) (t:∀v∈l,v<4611686018427387904):fq (jj l) most=(l.map Int.ofNat,0):=by
 have h1:=Mr l O (if l=[] then[] else ji (Q4 l (t0,e0)).2);unfold fq;have p:hG (jj l)=some (l.length,ed l.length+1):=h1;rw[p];simp only;rw[az O,az O];have g:=lT l;by_cases h0:l=[];subst h0;rfl;have hd:(jj l).drop (ed l.length+1)=ji (Q4 l (t0,e0)).2:=by unfold jj;grind
 obtain⟨k1,k2⟩:=Ut l (x:=(t0,e0)) zg xK;have k:=Zlo k2;have q:=V0 (Wo l (x:=(t0,e0)) zg xK k);obtain⟨a1,a2⟩:=Zkd l (x:=(t0,e0)) zg xK t q k;have a3:=Zqc k2 a2;grind
end
set_option linter.unusedSectionVars false
section
variable{l:List Int}{p:Nat}{r:List Nat}
section
variable {α:Type} [DecidableEq α]
def ix:List α->α->Nat
 |[],_=>0
 |a::t,s=>if a=s then 0 else ix t s+1
def MN (g:List α) (s:α):List α:=if s∈g then g else g++[s]
def da (l:List α):List α:=l.foldl MN []
def xQ (l:List (Nat×Nat)):List (Nat×Nat):=
 match l.getLast? with
 |none=>[]
 |some x=>l.dropLast++[(x.1,x.2+1)]
def HQ (d:List α) (x:List (Nat×Nat)×Option α) (s:α):List (Nat×Nat)×Option α:=(if x.2=some s then xQ x.1 else x.1++[(ix d s,1)],some s)
def jq (d l:List α):List (Nat×Nat):=(l.foldl (HQ d) ([],none)).1
def ZL [Inhabited α] (d:List α):List (Int×Int)->List α->List α×Nat
 |[],acc=>(acc,0)
 |x::t,acc=>if x.1<0\/(d.length:Int)<=x.1\/x.2<1 then([],2) else if 4096-(acc.length:Int)<x.2 then([],9)
  else ZL d t (acc++List.replicate x.2.toNat (d.getD x.1.toNat default))
theorem ZqO (l:List α) (s:α):ix l s<=l:=by
 induction l with
 |nil=>exact aW
 |cons a t ih=>unfold ix;grind
theorem zm {l:List α} {s:α} :ix l s<l.length↔s∈l:=PQ
theorem ix_get? {l:List α} {s:α} (h:s∈l):l[ix l s]? =some s:=PQ
theorem ZmI [Inhabited α] {l:List α} {s:α} (h:s∈l):l.getD (ix l s) default=s:=by simp[List.getD,ix_get? h]
theorem Zet {l:List α} {s:α} :∀j,j<ix l s->l[j]? ≠some s:=by
 induction l with
 |nil=>exact aI
 |cons a t ih=>intro j h;unfold ix at h;grind
theorem JA (l:List α) (s:α):da (l++[s])=if s∈da l then da l else da l++[s]:=by unfold da;rw[rn];rfl
theorem X4 (l:List α) (s:α):s∈da l↔s∈l:=by
 induction l using vc with
 |h0=>rfl
 |h1 l a ih=>rw[JA];grind
theorem Yy (l:List α):(da l)<=l.length:=by
 induction l using vc with
 |h0=>simp[da]
 |h1 l a ih=>rw[JA];grind
theorem ZfV (d l:List α):(l.foldl (HQ d) ([],none)).2=l.getLast? :=by
 induction l using vc with
 |h0=>rfl
 |h1 l a ih=>simp[HQ]
theorem Q9 (d l:List α) (s:α):jq d (l++[s])=if l.getLast? =some s then xQ (jq d l) else jq d l++[(ix d s,1)]:=by rw[<-ZfV d l];simp[jq,HQ,rn]
theorem J8 (l:List (Nat×Nat)) (x:Nat×Nat):xQ (l++[x])=l++[(x.1,x.2+1)]:=by simp[xQ]
theorem Zg3 (d l:List α) (s:α):∃g c,jq d (l++[s])=g++[(ix d s,c)]/\1<=c:=by
 induction l using vc generalizing s with
 |h0=>exact⟨[],1,by rfl,O⟩
 |h1 l a ih=>rw[Q9];split;have:a=s:=aI;subst this;obtain⟨g,c,h1,k⟩:=ih a;exact⟨g,c+1,by rw[h1,J8],O⟩;grind
theorem YC (d l:List α):(jq d l)<=l.length:=by
 induction l using vc with
 |h0=>simp[jq]
 |h1 l a ih=>rw[Q9];split;unfold xQ;grind;grind
def Yq (l:List (Nat×Nat)):List (Int×Int):=l.map λx=>((x.1:Int),(x.2:Int))
section
variable [Inhabited α]
theorem R7 (d:List α) (x:Int×Int):∀(l:List (Int×Int)) (g a:List α),ZL d l g=(a,0)->ZL d (l++[x]) g=ZL d [x] a:=by
 intro l;induction l with
 |nil=>intro g a h;exact Jc
 |cons y t ih=>intro g a h;rw[ju,ZL];rw[ZL] at h;grind
theorem Tw (d:List α) {s:α} (g:s∈d) (c:Nat) (a:List α) (k:1<=c) (l:a.length+c<=4096):ZL d [((ix d s:Nat),(c:Nat))] a=(a++List.replicate c s,0):=by have:=zm.2 g;rw[ZL];rw[az O,az O,ek,ek,ZmI g];rfl
theorem QI (d:List α):∀l:List α,(∀s∈l,s∈d)->l.length<=4096->
  l=[]\/∃g a s c,jq d l=g++[(ix d s,c)]/\l.getLast? =some s/\ZL d (Yq g) []=(a,0)/\l=a++List.replicate c s/\1<=c:=by
 intro l;induction l using vc with
 |h0=>exact aI
 |h1 l t ih=>
  intro z E;rw[bT,pi] at E;refine .inr ?_;have ih:=ih (λs q=>z s (List.mem_append_left _ q)) O;rcases ih with rfl|⟨g,a,s,c,h1,B,y,p,D⟩;exact⟨[],[],t,1,by rfl,by simp,rfl,by simp,O⟩;rw[Q9,B];by_cases u:s=t;subst u;rw[aP rfl,h1,J8];exact⟨g,a,s,c+1,rfl,by simp,y,by rw[p,ey,List.replicate_succ'],O⟩;rw[az (by simpa using u),h1];have k:a.length+c<=4096:=by have:=congrArg List.length p;rw[bT,iK] at this;omega
  have q:s∈d:=z s (List.mem_append_left _ (by rw[p];exact List.mem_append_right _ (Ck.2 ⟨O,rfl⟩)));refine⟨g++[(ix d s,c)],l,t,1,rfl,by simp,?_,rfl,O⟩;unfold Yq;rw[jv];have:=R7 d (((ix d s:Nat):Int),((c:Nat):Int)) (Yq g) [] a y;refine Eq.trans this ?_;rw[Tw d q c a D k,<-p]
theorem Z8s (l:List α) (u:l.length<=4096):ZL (da l) (Yq (jq (da l) l)) []=(l,0):=by rcases QI (da l) l (λs k=>(X4 l s).2 k) u with rfl|⟨y,a,s,c,h1,z,p,q,t⟩;rfl;have k:s∈da l:=(X4 l s).2 aI;have g:a.length+c<=4096:=aI;rw[h1];unfold Yq;rw[jv];refine Eq.trans (R7 (da l) (((ix (da l) s:Nat):Int),((c:Nat):Int)) (Yq y) [] a p) ?_;rw[Tw _ k c a t g,<-q]
end
theorem Ga (d l:List α):∀x∈jq d l,x.1<=d.length/\1<=x.2/\x.2<=l.length:=by
 induction l using vc with
 |h0=>intro x h;simp[jq] at h
 |h1 l s ih=>
  intro x hx;rw[Q9] at hx;rw[bT,pi];split at hx;.unfold xQ at hx;split at hx;exact aI;rename_i y hy;rcases kY.1 hx with h1|h1;have:=ih x (List.dropLast_subset _ h1);omega;grind
  rcases kY.1 hx with h1|h1;exact aI;have:=ZqO d s;grind
end
def Xz (r:List Nat) (p:Nat):List Nat:=r.getD p 0::r.eraseIdx p
def Yn:List Nat->List Nat->List Nat
 |_,[]=>[]
 |r,n::t=>ix r n::Yn (Xz r (ix r n)) t
def Yb:List Nat->List Nat->List Nat
 |_,[]=>[]
 |r,n::t=>r.getD n 0::Yb (Xz r n) t
def lm (l:List Int):Nat:=if 4096<l.length then 9 else if ∀n∈l,0<=n/\n<4096 then 0 else 2
def r0:List Nat:=List.range 4096
def front (l:List Int):List Nat×Nat:=if lm l=0 then(Yn r0 (l.map Int.toNat),0) else([],lm l)
def ZW (l:List Int):List Nat×Nat:=if lm l=0 then(Yb r0 (l.map Int.toNat),0) else([],lm l)
theorem XF (h:p<r):(Xz r p)=r.length:=by simp[Xz,List.length_eraseIdx,h];omega
theorem Gf {n:Nat} (h:p<r) (g:n∈r):n∈Xz r p:=by unfold Xz;by_cases e:r.getD p 0=n;exact aI;refine gN _ ?_;rw[List.mem_eraseIdx_iff_getElem?];obtain⟨i,hi⟩:=List.getElem?_of_mem g;refine⟨i,?_,hi⟩;grind
theorem X3 (l:List Nat):∀r,(Yn r l)=l.length:=by
 induction l with
 |nil=>intro r;rfl
 |cons n t ih=>simp[Yn,ih]
theorem TZ (l:List Nat):∀r,(∀n∈l,n∈r)->∀p∈Yn r l,p<r.length:=by
 induction l with
 |nil=>intro r _ p g;simp[Yn] at g
 |cons n t ih=>intro r h p g;have h1:=zm.2 (h n fm);rcases jx.1 g with k|k;exact O;have:=ih _ (λm q=>Gf h1 (h m (gN _ q))) p k;rwa [XF h1] at this
theorem Z63 (l:List Nat):∀r,(∀n∈l,n∈r)->Yb r (Yn r l)=l:=by
 induction l with
 |nil=>intro r _;rfl
 |cons n t ih=>intro r h;have g:=h n fm;have h1:=zm.2 g;rw[Yn,Yb,ih _ (λm k=>Gf h1 (h m (gN _ k)))];have:r.getD (ix r n) 0=n:=(by simp[List.getD,ix_get? g]);rw[this]
theorem Xu (l:List Nat):∀r,(Yb r l)=l.length:=by
 induction l with
 |nil=>intro r;rfl
 |cons n t ih=>simp[Yb,ih]
theorem GK (h:lm l=0):l.length<=4096/\∀n∈l,0<=n/\n<4096:=by unfold lm at h;grind
theorem Gy (h1:l.length<=4096) (g:∀n∈l,0<=n/\n<4096):lm l=0:=by unfold lm;grind
theorem Zl2 (h:∀n∈l,0<=n/\n<4096):∀n∈l.map Int.toNat,n∈r0:=by intro n k;obtain⟨m,g,rfl⟩:=iV.1 k;have:=h m g;rw[r0,List.mem_range];omega
theorem Zef (h:lm l=0):lm ((front l).1.map Int.ofNat)=0:=by obtain⟨h1,g⟩:=GK h;unfold front;rw[aP h];refine Gy (by simp[X3];omega) ?_;intro n p;obtain⟨m,k,rfl⟩:=iV.1 p;have:=TZ _ _ (Zl2 g) m k;rw[r0,rp] at this;grind
theorem Xk (l:List Nat):(l.map Int.ofNat).map Int.toNat=l:=by rw[qy];exact List.map_id'' (λ_=>rfl) l
theorem Z2k (h:lm l=0):ZW ((front l).1.map Int.ofNat)=(l.map Int.toNat,0):=by unfold ZW;rw[aP (Zef h),Xk];unfold front;rw[aP h];rw[Z63 _ _ (Zl2 (GK h).2)]
def text (s:aS):ax:=bj s.size++aH s
def nT (l:bd):List Nat:=(jq (da l) l).map (·.1)
def oK (l:bd):List Nat:=(jq (da l) l).map (λx=>x.2-1)
def sw (c:Nat) (l:bd):ax:=jj (if c=1 then Yn r0 (nT l) else nT l)
def gB (c:Nat) (l:bd):ax:=
 bj c++bj (da l).length++(da l).flatMap text++(bj (sw c l).length++sw c l)++jj (oK l)
def MS (c:Int) (l:bd):ax×Nat:=
 if c≠0/\c≠1 then([],1) else if 4096<l.length\/∃s∈l,128<s.size then([],9) else(gB c.toNat l,0)
def enc (l:bd):ax×Nat:=
 if 4096<l.length\/∃s∈l,128<s.size then([],9) else if(gB 1 l).length<(gB 0 l) then(gB 1 l,0) else(gB 0 l,0)
def dI (s:ax) (most:Nat):Option (Nat×ax):=
 match hG s with
 |none=>none
 |some (n,z)=>if most<n then none else some (n,s.drop z)
def fs (s:ax) (most:Nat):Option (ax×ax):=
 match dI s most with
 |none=>none
 |some (n,t)=>if t.length<n then none else some (t.take n,t.drop n)
def Yp:Nat->ax->Option (bd×ax)
 |0,s=>some ([],s)
 |n+1,s=>
  match fs s 128 with
  |none=>none
  |some (a,t)=>
   match Yp n t with
   |none=>none
   |some (l,u)=>some (bs a::l,u)
def fin (c:Nat) (g:bd) (A B:List Int×Nat):Option bd:=
 if A.2≠0\/B.2≠0\/A.1≠B.1.length then none
 else if c=1/\(ZW A.1).2≠0 then none
 else if ∃v∈B.1,4096<=v then none
 else if(ZL g ((if c=1 then(ZW A.1).1.map Int.ofNat else A.1).zip (B.1.map (· +1))) []).2=0
  then some (ZL g ((if c=1 then(ZW A.1).1.map Int.ofNat else A.1).zip (B.1.map (· +1))) []).1 else none
def X5 (data:ax):Option bd:=
 match dI data 1 with
 |none=>none
 |some (c,s1)=>
  match dI s1 4096 with
  |none=>none
  |some (n,s2)=>
   match Yp n s2 with
   |none=>none
   |some (g,s3)=>
    match fs s3 data.length with
    |none=>none
    |some (a,s4)=>fin c g (fq a 4096) (fq s4 4096)
def fw (data:ax) (most:Int):bd×Nat:=
 match X5 data with
 |none=>([],12)
 |some l=>if(enc l).2≠0\/(enc l).1≠data then([],12) else if most<(l.length:Int) then([],2) else(l,0)
theorem Y9 (n most:Nat) (h:n<=most) (g:n<9223372036854775808) (r:ax):dI (bj n++r) most=some (n,r):=by unfold dI;rw[Mr n g r];simp only;rw[az O,<-lT,Cc]
theorem Yo (t:ax) (most:Nat) (h:t<=most) (g:t.length<9223372036854775808) (r:ax):fs (bj t.length++(t++r)) most=some (t,r):=by unfold fs;rw[Y9 _ _ h g];grind
theorem Z7o (l:bd) (h:∀s∈l,s.size<=128) (r:ax):Yp l (l.flatMap text++r)=some (l,r):=by
 induction l with
 |nil=>rfl
 |cons s l ih=>
  have g:=h s fm;have e:(s::l).flatMap text++r=bj (aH s).length++(aH s++(l.flatMap text++r)):=by rw[sS];simp only[text,Z2,ey]
  rw[e,f',Yp,Yo _ _ (by exact g) CF];simp only;rw[ih (λu k=>h u (gN _ k))];rfl
theorem KB {l:bd} {b:Nat} (h:∀s∈l,s.size<=b):∀s∈da l,s.size<=b:=λs g=>h s ((X4 l s).1 g)
theorem Hl (l:bd) (hl:l.length<=4096):∀n∈nT l,n<4096:=by
 intro n hn;obtain⟨x,hx,rfl⟩:=iV.1 hn;rcases QI (da l) l (λs hs=>(X4 l s).2 hs) hl with rfl|_;simp[jq,da] at hx
 have key:∀(m:bd),(∀s∈m,s∈da l)->∀x∈jq (da l) m,x.1<(da l).length:=by
  intro m;induction m using vc with
  |h0=>intro _ x hx;simp[jq] at hx
  |h1 m s ih=>
   intro hm x hx;rw[Q9] at hx;have ih:=ih (λu hu=>hm u (List.mem_append_left _ hu));split at hx;.unfold xQ at hx;split at hx;exact aI;rename_i y hy;rcases kY.1 hx with h1|h1;exact ih x (List.dropLast_subset _ h1);grind
   rcases kY.1 hx with h1|h1;exact ih x h1;rw[js] at h1;subst h1;exact zm.2 (hm s (List.mem_append_right _ fm))
 have h1:=key l (λs hs=>(X4 l s).2 hs) x hx;have h2:=Yy l;omega
theorem Dr (l:bd) (p:l.length<=4096):∀n∈oK l,n<4096:=by intro n g;obtain⟨x,k,rfl⟩:=iV.1 g;have:=Ga (da l) l x k;omega
theorem Ql (l:bd):(nT l)=(jq (da l) l).length:=by simp[nT]
theorem Qe (l:bd):(oK l)=(jq (da l) l).length:=by simp[oK]
def Yj (c:Nat) (l:bd):List Nat:=if c=1 then Yn r0 (nT l) else nT l
theorem YM (c:Nat) (l:bd):(Yj c l)=(jq (da l) l).length:=by unfold Yj;split;rw[X3,Ql];exact Ql l
theorem C6 (c:Nat) (l:bd) (g:l.length<=4096):∀n∈Yj c l,n<4096:=by unfold Yj;split;intro n p;have:=TZ (nT l) r0 (λm k=>List.mem_range.2 (Hl l g m k)) n p;rwa [r0,rp] at this;exact Hl l g
theorem Zpa (c:Nat) (l:bd) (g:l.length<=4096):fin c (da l) ((Yj c l).map Int.ofNat,0) ((oK l).map Int.ofNat,0)=some l:=by
 unfold fin;have D:c=1->ZW ((Yj c l).map Int.ofNat)=(nT l,0):=by intro h;have hi:=Hl l g;have B:=YC (da l) l;have k:lm ((nT l).map Int.ofNat)=0:=Gy (by rw[dc,Ql];omega) (λn z=>aI);have:=Z2k k;unfold front at this;rw[aP k,Xk] at this;unfold Yj;grind
 rw[az (by simp[YM,Qe])];rw[az aI];rw[az (by rintro⟨v,t,h⟩;obtain⟨m,q,rfl⟩:=iV.1 t;have:=Dr l g m q;grind)]
 have y:(if c=1 then(ZW ((Yj c l).map Int.ofNat)).1.map Int.ofNat else(Yj c l).map Int.ofNat).zip (((oK l).map Int.ofNat).map (· +1))=Yq (jq (da l) l):=by
  have p:(if c=1 then(ZW ((Yj c l).map Int.ofNat)).1.map Int.ofNat else(Yj c l).map Int.ofNat)=(nT l).map Int.ofNat:=by by_cases h:c=1;exact aI;rw[az h];unfold Yj;grind
  rw[p];unfold nT oK Yq;rw[qy,qy,qy,List.zip_map'];refine List.map_congr_left λx u=> ?_;have:=Ga (da l) l x u;grind
 rw[y,Z8s l g];rfl
theorem Zc7 (c:Nat) (p:c<=1) (l:bd) (u:l.length<=4096) (q:∀s∈l,s.size<=128) (k:(sw c l).length<9223372036854775808) (r:ax):
  X5 (gB c l++r)=fin c (da l) (fq (sw c l) 4096) (fq (jj (oK l)++r) 4096):=by
 have e:gB c l++r=bj c++(bj (da l).length++((da l).flatMap text++(bj (sw c l).length++(sw c l++(jj (oK l)++r))))):=by simp only[gB,ey]
 have g:(sw c l)<=(gB c l++r).length:=aI;have hd:=Yy l;unfold X5;generalize t:(gB c l++r).length=L at*;rw[e,Y9 c 1 p O];simp only;rw[Y9 _ 4096 O O];simp only;rw[Z7o _ (KB q)];simp only;rw[Yo _ _ g k]
theorem g_ (l:List Nat) (g:l.length<=4096) (k:∀v∈l,v<4096):fq (jj l) 4096=(l.map Int.ofNat,0):=
 Up l 4096 g O (λv h=>aI)
theorem ZjJ (c:Nat) (q:c<=1) (l:bd) (g:l.length<=4096) (t:∀s∈l,s.size<=128) (k:(sw c l).length<9223372036854775808):X5 (gB c l)=some l:=by have u:=YC (da l) l;have h1:=Zc7 c q l g t k [];rw[fu,fu] at h1;rw[h1,g_ (oK l) (by rw[Qe];omega) (Dr l g)];have p:fq (sw c l) 4096=((Yj c l).map Int.ofNat,0):=g_ (Yj c l) (by rw[YM];omega) (C6 c l g);rw[p];exact Zpa c l g
end
variable{L:List Bool}{k m p v:Int}{x y:Nat}
def num:Nat->Nat->List Bool
 |0,_=>[]
 |k+1,v=>v.testBit k::num k v
def Eg (n:Nat):List Bool:=List.replicate n true++[false]
def val (l:List Bool):Nat:=l.foldl (λa b=>2*a+b.toNat) 0
def nI (n:Nat):Nat:=if n=0 then 0 else n.log2+1
def dig (b:Bool):ci:=if b then 49 else 48
def txt (l:List Bool):aS:=⟨(l.map dig).toArray⟩
def ones:Nat->List Bool->Nat
 |m+1,true::l=>ones m l+1
 |_,_=>0
theorem YX {α:Type} {P:List α->Prop} (h0:P []) (h1:∀l a,P l->P (l++[a])) (l:List α):P l:=OX
def bt (l:List Bool) (k:Nat):Nat:=(l.getD k false).toNat
theorem ZqG (l:List Bool) (k:Nat):bt l k<=1:=by unfold bt;cases l.getD k false<;>simp
theorem Z7 (k v:Nat):(num k v)=k:=by
 induction k with
 |zero=>rfl
 |succ k ih=>simp[num,ih]
theorem J0 (n:Nat):(Eg n)=n+1:=by simp[Eg]
theorem Wk (l:List Bool) (b:Bool):val (l++[b])=2*val l+b.toNat:=by simp[val,rn]
theorem Zlj (l:List Bool):val l<2 ^ l.length:=by
 induction l using YX with
 |h0=>simp[val]
 |h1 l b ih=>rw[Wk,bT,pi,rq];cases b<;>simp<;>omega
theorem Zgz {α:Type} (l:List α) (k:Nat) (d:α) (h:k<l):l.take (k+1)=l.take k++[l.getD k d]:=mM
theorem Z65 (l:List Bool) (k:Nat) (h:k<l):val (l.take (k+1))=2*val (l.take k)+bt l k:=by rw[Zgz l k false h,Wk];rfl
theorem Z9n (l:List Bool) (k:Nat):val (l.take k)<2 ^ k:=by refine eD (Zlj _) (pT O ?_);grind
theorem RW (l:List Bool) (k:Nat) (h:k<=62):val (l.take k)<4611686018427387904:=
 eD (Z9n l k) (pT (show 0<2 by omega) h)
theorem ZeX (k j v:Nat):num (k+j) v=num k (v/2 ^ j)++num j v:=by
 induction k with
 |zero=>simp[num]
 |succ k ih=>rw[show k+1+j=(k+j)+1 from by exact O,num,num,ih,ju];grind
theorem ZlA (v k:Nat):(v.testBit k).toNat=v/2 ^ k % 2:=aI
theorem Zn0 (v:Nat):num 1 v=[v.testBit 0]:=rfl
theorem Zji (k v:Nat):num (k+1) v=num k (v/2)++[v.testBit 0]:=by have:=ZeX k 1 v;simpa [Zn0] using this
theorem ZcW (n:Nat) (h:0<n):nI n=nI (n/2)+1:=by unfold nI;rw[az O];by_cases h1:n/2=0;have:n=1:=O;subst this;decide;rw[az h1,Nat.log2_def,aP O]
theorem ZlG (n:Nat) (h:0<n):2 ^ (nI n-1)<=n/\0<nI n:=by unfold nI;rw[az O];exact⟨Nat.log2_self_le O,O⟩
theorem RX (n k:Nat) (h:n<2 ^ k):nI n<=k:=by by_cases h0:n=0;subst h0;simp[nI];have:=ZlG n O;rcases Nat.lt_or_ge k (nI n) with h1|h1;have:=pT (show 0<2 by omega) (show k<=nI n-1 by omega);omega;omega
def uz (k p:Int):Bool:=(k==0&&decide (0<=p)&&decide (p<=62))||(k==1&&p==0)||((k==2||k==3)&&decide (0<=p)&&decide (p<=30))||(k==4&&decide (1<=p)&&decide (p<=4294967296))
def qN (k p v:Int):Bool:=uz k p&&decide (0<=v)&&((k==0&&decide (v<2 ^ p.toNat))||(k==1&&decide (v<=4096))||(k==2&&decide (v/2 ^ p.toNat<=4096))||(k==3&&decide (v<=4611686018427387903))||(k==4&&decide (v<p)))
def qS (k p v:Nat):List Bool:=
 if k=0 then num p v
 else if k=1 then Eg v
 else if k=2 then Eg (v/2 ^ p)++num p v
 else if k=3 then Eg (nI (v+2 ^ p)-1-p)++num (nI (v+2 ^ p)-1) (v+2 ^ p)
 else if v<2 ^ nI p-p then num (nI p-1) v else num (nI p) (v+(2 ^ nI p-p))
def rdp (p m:Nat) (l:List Bool) (g:Bool):Nat×Nat×Nat:=
 let n:=ones m l;let q:=if g then n+p else p
 if n=m then(0,0,2) else if n=l then(0,0,12) else if l.length<n+1+q then(0,0,12)
 else if g then(if 62<n+p then(0,0,2) else(2 ^ (n+p)-2 ^ p+val ((l.drop (n+1)).take q),n+1+q,0))
 else(n*2 ^ p+val ((l.drop (n+1)).take q),n+1+q,0)
def rdt (p:Nat) (l:List Bool):Nat×Nat×Nat:=
 let k:=nI p-1;let u:=2 ^ nI p-p;if l.length<k then(0,0,12)
 else if val (l.take k)<u then(val (l.take k),k,0)
 else if l.length<k+1 then(0,0,12) else(val (l.take (k+1))-u,k+1,0)
def rd (k p:Nat) (l:List Bool):Nat×Nat×Nat:=
 if k=0 then(if l.length<p then(0,0,12) else(val (l.take p),p,0))
 else if k=1\/k=2 then rdp p 4097 l false
 else if k=3 then rdp p 63 l true
 else rdt p l
def zx (k p most:Int) (l:List Bool):List Bool×Nat×Nat:=
 if uz k p then
  let r:=rd k.toNat p.toNat l;if r.2.2≠0 then(l,0,r.2.2) else if most<r.1\/4611686018427387903<r.1 then(l,0,2) else(l.drop r.2.1,r.1,0)
 else(l,0,1)
theorem Zfa (h:uz k p=true):(k=0/\0<=p/\p<=62)\/(k=1/\p=0)\/(k=2/\0<=p/\p<=30)\/(k=3/\0<=p/\p<=30)\/(k=4/\1<=p/\p<=4294967296):=by simp only[uz,Bool.or_eq_true,gm,beq_iff_eq,decide_eq_true_eq] at h;omega
theorem WC (k:Nat):(2:Int) ^ k=((2 ^ k:Nat):Int):=by rfl
theorem ZqZ (k:Nat) (h:k<=62):(2:Nat) ^ k<=4611686018427387904:=pT (n:=2) O h
theorem ZqY (k:Nat) (h:k<=30):(2:Nat) ^ k<=1073741824:=pT (n:=2) O h
theorem Zob (h:qN k p v=true):uz k p=true:=by simp only[qN,gm] at h;exact h.1.1
theorem Km (h:qN k p v=true):0<=v/\((k=0/\0<=p/\p<=62/\v<2 ^ p.toNat)\/(k=1/\p=0/\v<=4096)\/(k=2/\0<=p/\p<=30/\v/2 ^ p.toNat<=4096)\/(k=3/\0<=p/\p<=30/\v<=4611686018427387903)\/(k=4/\1<=p/\p<=4294967296/\v<p)):=by have g:=Zfa (Zob h);simp only[qN,Bool.or_eq_true,gm,beq_iff_eq,decide_eq_true_eq] at h;rcases g with ⟨rfl,a,b⟩|⟨rfl,a⟩|⟨rfl,a,b⟩|⟨rfl,a,b⟩|⟨rfl,a,b⟩<;>simp_all
theorem Zd2 (h:qN k p v=true):(qS k.toNat p.toNat v.toNat).length<=8192:=by obtain⟨h0,h1|h1|h1|h1|h1⟩:=Km h;obtain⟨rfl,a,b,c⟩:=h1;simp[qS,Z7];omega;obtain⟨rfl,a,c⟩:=h1;simp[qS,J0];omega;obtain⟨rfl,a,b,c⟩:=h1;have:(v.toNat/2 ^ p.toNat:Nat)<=4096:=aI;simp[qS,J0,Z7];omega;obtain⟨rfl,a,b,c⟩:=h1;have g:=ZqY p.toNat O;have:=RX (v.toNat+2 ^ p.toNat) 63 O;simp[qS,J0,Z7];omega;obtain⟨rfl,a,b,c⟩:=h1;have:=RX p.toNat 33 O;simp[qS];split<;>simp[Z7]<;>omega
structure Cd where
 k:Int
 p:Int
 v:Int
def Cd.bits (c:Cd):List Bool:=qS c.k.toNat c.p.toNat c.v.toNat
def Cd.ok (c:Cd):Bool:=qN c.k c.p c.v
def yd (b:List Bool) (c:Cd):List Bool×Nat:=
 if c.ok then(if 65536<b.length+c.bits.length then(b,9) else(b++c.bits,0)) else(b,1)
def jD (s:aS) (i:Nat):Bool:=((s.data.toList.getD (i/8) 0).toNat).testBit (7-i % 8)
def dY (s:aS) (n:Nat):List Bool:=(List.range n).map (jD s)
theorem rM (s:aS) (n:Nat):(dY s n)=n:=by simp[dY]
theorem M6 (s:aS) (n i:Nat) (h:i<n):(dY s n).getD i false=jD s i:=by simp[dY,List.getD,h]
theorem rbit_nat (s:aS) (i:Nat) (h:i/8<s.size):(jD s i).toNat=(s[i/8]).toNat/2 ^ (7-i % 8) % 2:=by
 have g:s.data.toList.getD (i/8) 0=s[i/8]:=by simp only[List.getD,Array.getElem?_toList];rw[Array.getElem?_eq_getElem h];rfl
 rw[jD,g,ZlA]
theorem ZlI (l:List Bool) (x k:Nat):bt (l.drop x) k=bt l (x+k):=by unfold bt;grind
theorem ZhL (s:aS) (n i:Nat) (h:i<n) (g:i/8<s.size):bt (dY s n) i=(s[i/8]).toNat/2 ^ (7-i % 8) % 2:=by rw[bt,M6 s n i h,rbit_nat s i g]
theorem ZpH (a b:Nat) (l:a<9223372036854775808) (hb:b<9223372036854775808):Go.bits .or .i64 (a:Int) (b:Int)=((a|||b:Nat):Int):=by have h1:(BitVec.ofInt 64 (a:Int)).toNat=a:=aI;have g:(BitVec.ofInt 64 (b:Int)).toNat=b:=aI;have k:a|||b<2 ^ 63:=Nat.or_lt_two_pow O O;show Go.IntKind.i64.wrap ((BitVec.ofInt 64 (a:Int)|||BitVec.ofInt 64 (b:Int)).toNat:Int)=_;rw[BitVec.toNat_or,h1,g,Go.IntKind.wrap_i64];omega
theorem ZpG (v b:Nat) (hb:b<=1):2*v|||b=2*v+b:=by have:=Nat.shiftLeft_add_eq_or_of_lt (b:=b) (i:=1) O v;rw[Nat.shiftLeft_eq] at this;grind
theorem and1_u8 (a:Nat) (g:a<256):Go.bits .and .u8 (a:Int) 1=((a % 2:Nat):Int):=by have:=Go.u8_and_nat a 1 g O;grind
theorem Zcm (v B e:Nat) (p:v<4611686018427387904) (l:B<256):
  Go.bits .or .i64 (Go.RowKit.wrap64 ((v:Int)*2)) (Go.RowKit.wrap64 (Go.bits .and .u8 ((B:Int)/2 ^ e) 1))=((2*v+B/2 ^ e % 2:Nat):Int):=by have h1:(B:Int)/2 ^ e=((B/2 ^ e:Nat):Int):=(by rfl);have k:B/2 ^ e<=B:=IG _ _;have g:(v:Int)*2=((2*v:Nat):Int):=O;rw[h1,and1_u8 _ O,g];rw[Go.IntWalk.wrap64_in _ O,Go.IntWalk.wrap64_in _ O,ZpH _ _ O O,ZpG _ _ O]
theorem Uf (x:Nat) (h:x<2 ^ 64):Go.Lib.bitLen x=nI x:=by
  have key:∀f y,y<2 ^ f->Go.Lib.bitLenAux f y=nI y:=by
    intro f;induction f with
    | zero => intro y g; have : y = 0 := O;subst this;rfl
    |succ f ih=>intro y g;unfold Go.Lib.bitLenAux;by_cases h0:y=0;subst h0;rfl;rw[az h0,ih (y/2) O,ZcW y O];omega
  exact key 64 x h
def vk (k p:Nat) (L:List Bool) (x:Nat) (v:Int) (e y:Nat):Prop:=
 ((rd k p L).2.2≠0->e=(rd k p L).2.2)/\((rd k p L).2.2=0->(rd k p L).1<=4611686018427387903->e=0/\v=((rd k p L).1:Nat)/\y=x+(rd k p L).2.1)/\
 ((rd k p L).2.2=0->4611686018427387903<(rd k p L).1->e=2)
theorem ZiT {e:Nat} (u:uz k p=true) (h:vk k.toNat p.toNat L x v e y) (g:e≠0):zx k p m L=(L,0,e):=Rq
theorem Zmv (u:uz k p=true) (h:vk k.toNat p.toNat L x v 0 y):
  0<=v/\(zx k p m L=if m<v then(L,0,2) else(L.drop (y-x),v.toNat,0))/\x<=y:=Rq
def Y2 (l:List Bool) (j:Nat):Nat:=val ((List.range 8).map λi=>l.getD (8*j+i) false)
def cy (l:List Bool):ax:=(List.range ((l.length+7)/8)).map λj=>UInt8.ofNat (Y2 l j)
theorem lz (l:List Bool):(cy l)=(l.length+7)/8:=by simp[cy]
theorem Xe (l:List Bool) (j:Nat):Y2 l j<256:=by have:=Zlj ((List.range 8).map λi=>l.getD (8*j+i) false);simpa [Y2] using this
theorem Yx (l:List Bool) (j:Nat):Y2 l j=128*bt l (8*j)+64*bt l (8*j+1)+32*bt l (8*j+2)+16*bt l (8*j+3)+8*bt l (8*j+4)+4*bt l (8*j+5)+2*bt l (8*j+6)+bt l (8*j+7):=by have h:(List.range 8)=[0,1,2,3,4,5,6,7]:=(by rfl);unfold Y2;rw[h];simp only[tV,List.map_nil,val,List.foldl_cons,List.foldl_nil,bt,tW];omega
theorem QD (l:List Bool) (k:Nat) (h:l<=k):bt l k=0:=by simp[bt,List.getD,Cj h]
theorem Uh (l r:List Bool) (k:Nat):bt (l++r) k=if k<l then bt l k else bt r (k-l.length):=by unfold bt;grind
theorem ZkG (b:Bool) (k:Nat):bt [b] k=if k=0 then b.toNat else 0:=by cases k<;>simp[bt]
theorem Z6o (l:List Bool) (b:Bool) (j:Nat) (h:j≠l.length/8):Y2 (l++[b]) j=Y2 l j:=by
 have e:∀i,i<8->bt (l++[b]) (8*j+i)=bt l (8*j+i):=by intro i hi;rw[Uh];split;rfl;rw[ZkG,az O,QD _ _ O]
 rw[Yx,Yx];have e0:=e 0 O;grind
theorem RI (l:List Bool) (b:Bool):Y2 (l++[b]) (l.length/8)=Y2 l (l.length/8)+b.toNat*2 ^ (7-l.length % 8):=by
 have e:∀i,i<8->bt (l++[b]) (8*(l.length/8)+i)=bt l (8*(l.length/8)+i)+if i=l.length % 8 then b.toNat else 0:=by intro i hi;rw[Uh,ZkG];by_cases h1:i<l.length % 8;exact aI;rw[az O,QD l _ O];grind
 rw[Yx,Yx];have e0:=e 0 O;rw[tW] at e0;rw[e0,e 1 O,e 2 O,e 3 O,e 4 O,e 5 O,e 6 O,e 7 O];grind
theorem Tr (l:List Bool):Y2 l (l.length/8) % 2 ^ (8-l.length % 8)=0:=by have e:∀i,l.length % 8<=i->bt l (8*(l.length/8)+i)=0:=λi hi=>QD _ _ O;rw[Yx];have y:l.length % 8<8:=Nat.mod_lt _ O;have e0:=e 0;have g:=e 1;have k:=e 2;have p:=e 3;have q:=e 4;have t:=e 5;have u:=e 6;grind
theorem ZpJ (a b s:Nat) (k:a % 2 ^ (s+1)=0) (hb:b<=1):a|||b*2 ^ s=a+b*2 ^ s:=by
 have h1:a=(a/2 ^ (s+1))<<<(s+1):=by rw[Nat.shiftLeft_eq];have:=Nat.div_add_mod a (2 ^ (s+1));grind
 have g:b*2 ^ s<2 ^ (s+1):=by have:=Ah (2 ^ s) hb;omega
 rw[h1,<-Nat.shiftLeft_add_eq_or_of_lt g]
def kl (l:List Bool):ax:=if l.length % 8=0 then cy l++[0] else cy l
theorem Qr (l:List Bool):(kl l)=l.length/8+1:=by unfold kl;split;simp[lz];omega;rw[lz];omega
theorem XI (l:List Bool) (j:Nat) (h:j<(cy l)):(cy l)[j]=UInt8.ofNat (Y2 l j):=by simp[cy]
theorem Zbd (l:List Bool) (j:Nat) (h:l.length<=8*j):Y2 l j=0:=by rw[Yx,QD l _ O,QD l _ O,QD l _ O,QD l _ O,QD l _ O,QD l _ O,QD l _ O,QD l _ O]
theorem QR (l:List Bool) (j:Nat) (h:j<(kl l)):(kl l)[j]=UInt8.ofNat (Y2 l j):=by have g:=Qr l;unfold kl at*;split;rcases Nat.lt_or_ge j (cy l).length with h1|h1;rw[IH h1,XI];rw[Nm h1];have:Y2 l j=0:=Zbd l j aI;rw[this];simp;rw[XI]
theorem UN (l:List Bool) (b:Bool):cy (l++[b])=(kl l).set (l.length/8) (UInt8.ofNat (Y2 l (l.length/8)+b.toNat*2 ^ (7-l.length % 8))):=by
 apply xa;rw[og,lz,Qr,bT,pi];omega;intro j h1 h2;rw[XI,List.getElem_set];split;.rename_i h3;rw[<-h3,RI]
 rw[QR,Z6o l b j O]
theorem UQ (g v j len:Nat) (hb:g<256) (q:g % 2 ^ (7-len % 8+1)=0):
  Go.bits .or .u8 (g:Int) ((v:Int)/2 ^ j % 2*2 ^ (7-len % 8) % 256)=((g+(v.testBit j).toNat*2 ^ (7-len % 8):Nat):Int):=by have h1:(v:Int)/2 ^ j % 2=((v.testBit j).toNat:Int):=aI;have k:(v.testBit j).toNat<=1:=O;have l:(2:Nat) ^ (7-len % 8)<=2 ^ 7:=pT O O;have t:(v.testBit j).toNat*2 ^ (7-len % 8)<=1*2 ^ 7:=Nat.mul_le_mul k l;rw[h1];have p:((v.testBit j).toNat:Int)*2 ^ (7-len % 8)=(((v.testBit j).toNat*2 ^ (7-len % 8):Nat):Int):=(by rfl);rw[p,show((((v.testBit j).toNat*2 ^ (7-len % 8):Nat):Int) % 256)=(((v.testBit j).toNat*2 ^ (7-len % 8):Nat):Int) from by exact O];rw[Go.u8_or_nat _ _ hb O,ZpJ _ _ _ q k]
theorem ZeV (c v j:Nat) (k:0<j) (g:j<=c):num (c-(j-1)) (v/2 ^ (j-1))=num (c-j) (v/2 ^ j)++[v.testBit (j-1)]:=by have:=Zji (c-j) (v/2 ^ (j-1));rw[show c-(j-1)=c-j+1 from by exact O,this,Nat.div_div_eq_div_mul,<-rq,Nat.succ_eq_add_one,show j-1+1=j from by exact O,Nat.testBit_div_two_pow];simp
