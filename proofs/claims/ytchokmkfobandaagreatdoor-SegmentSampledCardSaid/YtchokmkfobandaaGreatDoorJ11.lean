import Derived.Test.YtchokmkfobandaaGreatDoorJ10
import Derived.Test.YtchokmkfobandaaGreatDoorLShelf
import Derived.Lib.BytesEntry
import Derived.Laws.Externs
import Derived.Lib.Bytealg
set_option linter.unusedVariables false
set_option linter.unusedSimpArgs false
set_option maxRecDepth 100000
set_option maxHeartbeats 8000000
namespace Wv.Dc
def isD (c:UInt8):Bool:=decide (48<=c.toNat)&&decide (c.toNat<=57)
def dv (c:UInt8):Nat:=c.toNat-48
def vd (l:List UInt8):Nat:=l.foldl (λa c=>10*a+dv c) 0
def AllD (l:List UInt8):Prop:=∀c∈l,isD c=true
structure Num where
 neg:Bool
 dg:List UInt8
 ex:Int
def YP (l:List UInt8):List UInt8:=l.dropWhile (· ==48)
def Yh (l:List UInt8):List UInt8:=(YP l.reverse).reverse
def Z3v:Num:=⟨false,[],0⟩
def Xb (n:Num):Num:=
 if Yh (YP n.dg)=[] then Z3v else⟨n.neg,Yh (YP n.dg),n.ex+((YP n.dg).length-(Yh (YP n.dg)).length:Nat)⟩
def XV (n:Num):Int:=n.ex+n.dg.length-1
structure Canon (n:Num):Prop where
 all:AllD n.dg
 front:n.dg.head?≠some 48
 back:n.dg.getLast?≠some 48
 zero:n.dg=[]->n.neg=false/\n.ex=0
def sg (b:Bool):Int:=if b then-1 else 1
def V (K:Nat) (n:Num):Int:=sg n.neg*((vd n.dg*10 ^ (n.ex+K).toNat:Nat):Int)
theorem ZjU (l:List UInt8):∀a,l.foldl (λa c=>10*a+dv c) a=a*10 ^ l.length+vd l:=by
 induction l with
 |nil=>intro a;simp[vd]
 |cons c t ih=>
  intro a
  have h1:vd (c::t)=dv c*10 ^ t.length+vd t:=by
   show(c::t).foldl _ 0=_;rw[List.foldl_cons,ih,Nat.mul_zero,Vbo]
  rw[List.foldl_cons,ih,h1,Vaz,Vbr,Vc7,Vbt 10 a,Vb4,Vbt 10 (10 ^ t.length),Vc6]
theorem ZaJ (l r:List UInt8):vd (l++r)=vd l*10 ^ r.length+vd r:=by
 show(l++r).foldl _ 0=_;rw[Vbq];exact ZjU r (vd l)
theorem Z4y (l:List UInt8):∀c∈YP l,c∈l:=λc h=>(List.dropWhile_suffix _).subset h
theorem Z2D (l:List UInt8):(YP l).head?≠some 48:=by
 induction l with
 |nil=>simp[YP]
 |cons c t ih=>
  unfold YP at ih⊢;rw[List.dropWhile_cons];by_cases h:c=48
  ·subst h;rw[Vaf (by decide)];exact ih
  ·rw[Vad (by simpa using h)];simpa using h
theorem Z1E (l:List UInt8):(YP l).length<=l.length:=(List.dropWhile_suffix _).length_le
theorem Z4z (l:List UInt8):∃k,l=Yh l++List.replicate k 48:=by
 unfold Yh YP;refine⟨(l.reverse.takeWhile (· ==48)).length,?_⟩;have h1:=List.takeWhile_append_dropWhile (p:=(· ==48)) (l:=l.reverse)
 have h2:l=(l.reverse.dropWhile (· ==48)).reverse++(l.reverse.takeWhile (· ==48)).reverse:=by
  rw[<-Vc3,h1,List.reverse_reverse]
 have h3:l.reverse.takeWhile (· ==48)=List.replicate (l.reverse.takeWhile (· ==48)).length 48:=by
  rw[List.eq_replicate_iff];refine⟨rfl,λb hb=> ?_⟩;have:=List.all_takeWhile (p:=(· ==48)) (l:=l.reverse);rw[Vbv] at this;simpa using this b hb
 have h4:(l.reverse.takeWhile (· ==48)).reverse=List.replicate (l.reverse.takeWhile (· ==48)).length 48:=by
  rw[h3,List.reverse_replicate,Vaw]
 rw[h4] at h2;exact h2
theorem Z4A (l:List UInt8):(Yh l).length<=l.length:=by
 unfold Yh;rw[List.length_reverse];have:=Z1E l.reverse
 rwa [List.length_reverse] at this
theorem Z8A (l:List UInt8):(Yh l).getLast?≠some 48:=by
 unfold Yh;rw[List.getLast?_reverse];exact Z2D _
theorem ZaK (l:List UInt8):∀c∈Yh l,c∈l:=λc h=>by
 unfold Yh at h;have:=Z4y _ c (List.mem_reverse.1 h);exact List.mem_reverse.1 this
theorem Z8B {l:List UInt8} (h:l.head?≠some 48):(Yh l).head?≠some 48:=by
 obtain⟨k,hk⟩:=Z4z l;intro h2;apply h;rw[hk];match hm:Yh l with
 |[]=>rw[hm] at h2;simp at h2
 |c::t=>rw[hm] at h2;simpa using h2
theorem Z5Y {n:Num} (h:AllD n.dg):Canon (Xb n):=by
 unfold Xb;split
 ·exact⟨by intro c hc;simp[Z3v] at hc,by simp[Z3v],by simp[Z3v],λ_=>⟨rfl,rfl⟩⟩
 ·rename_i h0;exact⟨λc hc=>h c (Z4y _ c (ZaK _ c hc)),Z8B (Z2D _),Z8A _,λe=>absurd e h0⟩
theorem Z2n {n:Num} (h:Canon n):Xb n=n:=by
 obtain⟨b,d,e⟩:=n;have hf:=h.front;have hb:=h.back;simp only at hf hb
 have h1:YP d=d:=by
  unfold YP;match d with
  |[]=>rfl
  |c::t=>
   rw[List.dropWhile_cons,Vad (by simpa using hf)]
 have h2:Yh d=d:=by
  unfold Yh YP
  have:d.reverse.dropWhile (· ==48)=d.reverse:=by
   match hd:d.reverse with
   |[]=>rfl
   |c::t=>
    have h3:d.getLast? =some c:=by rw[<-List.head?_reverse,hd];rfl
    rw[List.dropWhile_cons,Vad (by
     intro h4;apply hb;rw[h3];simpa using h4)]
  rw[this,List.reverse_reverse]
 unfold Xb;simp only[h1,h2];by_cases h0:d=[]
 ·obtain⟨z1,z2⟩:=h.zero h0;simp only at z1 z2;rw[Vaf h0,z1,z2,h0];rfl
 ·rw[Vad h0,Va7];simp
def decN (n:Nat):List UInt8:=if h:n<10 then[UInt8.ofNat (48+n)] else decN (n/10)++[UInt8.ofNat (48+n % 10)]
termination_by n
decreasing_by omega
def decZ (n:Int):List UInt8:=if n<0 then 45::decN (-n).toNat else decN n.toNat
theorem Z7j {d:Nat} (h:d<10):isD (UInt8.ofNat (48+d))=true/\dv (UInt8.ofNat (48+d))=d:=by
 have:(UInt8.ofNat (48+d)).toNat=48+d:=(by simp;omega);unfold isD dv;rw[this];simp;omega
theorem ZgN (c:UInt8):vd [c]=dv c:=by simp[vd]
theorem Z3w (n:Nat):AllD (decN n):=by
 induction n using Nat.strongRecOn with
 |ind n ih=>
  rw[decN];split
  ·rename_i h;intro c hc;rw[Vax] at hc;rw[hc];exact(Z7j h).1
  ·rename_i h;intro c hc;rcases Va9.1 hc with h1|h1
   ·exact ih (n/10) (by omega) c h1
   ·rw[Vax] at h1;rw[h1];exact(Z7j (by omega)).1
theorem ZaL (n:Nat):vd (decN n)=n:=by
 induction n using Nat.strongRecOn with
 |ind n ih=>
  rw[decN];split
  ·rename_i h;rw[ZgN];exact(Z7j h).2
  ·rename_i h;rw[ZaJ,ih (n/10) (by omega)];have:=(Z7j (d:=n % 10) (by omega)).2;have e:vd [UInt8.ofNat (48+n % 10)]=n % 10:=(by rw[ZgN,this]);rw[e];simp;omega
theorem ZaM (n:Nat):decN n≠[]:=by
 rw[decN];split<;>simp
theorem Qq {n k:Nat} (hk:0<k) (h:n<10 ^ k):(decN n).length<=k:=by
 induction k generalizing n with
 |zero=>omega
 |succ k ih=>
  rw[decN];split
  ·simp
  ·rename_i h9;rw[Vab,Vbd];by_cases h0:k=0
   ·subst h0;omega
   ·have:=ih (n:=n/10) (by omega) (by rw[Vbr] at h;omega);omega
def Xc (n:Num):List UInt8×Nat:=
 if n.dg=[] then([48],0)
 else if 17<n.dg.length\/XV n< -400\/400<XV n then([],9)
 else((if n.neg then[45] else[])++n.dg.take 1++(if 1<n.dg.length then 46::n.dg.drop 1 else[])++101::decZ (XV n),0)
def sgn:List UInt8->Bool×List UInt8
 |[]=>(false,[])
 |c::t=>if c=45 then(true,t) else if c=43 then(false,t) else(false,c::t)
def dfr (s:List UInt8):List UInt8:=s.takeWhile isD
def aft (s:List UInt8):List UInt8:=s.dropWhile isD
def frac:List UInt8->Option (List UInt8×List UInt8)
 |[]=>some ([],[])
 |c::t=>if c=46 then(if dfr t=[] then none else some (dfr t,aft t)) else some ([],c::t)
def expo (f:List UInt8->Nat):List UInt8->Option (Int×List UInt8)
 |[]=>some (0,[])
 |c::t=>if c=101\/c=69 then(if dfr (sgn t).2=[] then none else some (sg (sgn t).1*(f (dfr (sgn t).2):Int),aft (sgn t).2)) else some (0,c::t)
def scn (f:List UInt8->Nat) (s:List UInt8):Option Num:=
 if 64<s.length then none else if dfr (sgn s).2=[] then none else
 match frac (aft (sgn s).2) with
 |none=>none
 |some x=>match expo f x.2 with
  |none=>none
  |some y=>if y.2=[] then some ⟨(sgn s).1,dfr (sgn s).2++x.1,y.1-x.1.length⟩ else none
def cl1 (p:List UInt8):Nat:=p.foldl (λe c=>min 1048576 (10*e+dv c)) 0
theorem ZjV (cap:Nat) (p:List UInt8):∀a,p.foldl (λe c=>min cap (10*e+dv c)) (min cap a)=min cap (p.foldl (λe c=>10*e+dv c) a):=by
 induction p with
 |nil=>intro a;rfl
 |cons c t ih=>
  intro a;rw[List.foldl_cons,List.foldl_cons,<-ih];congr 1;omega
theorem ZgO (p:List UInt8):cl1 p=min 1048576 (vd p):=by
 have:=ZjV 1048576 p 0;simpa [cl1,vd] using this
theorem Z0x {d r:List UInt8} (hd:AllD d) (hr:∀c t,r=c::t->isD c=false):dfr (d++r)=d/\aft (d++r)=r:=by
 unfold dfr aft;induction d with
 |nil=>
  match r with
  |[]=>exact⟨rfl,rfl⟩
  |c::t=>
   have:=hr c t rfl;simp[List.takeWhile_cons,List.dropWhile_cons,this]
 |cons c d ih=>
  have h1:=hd c Vap;obtain⟨a,b⟩:=ih (λx hx=>hd x (Var _ hx));rw[Vbs,List.takeWhile_cons,List.dropWhile_cons,Vaf h1,Vaf h1,a,b];exact⟨rfl,rfl⟩
theorem Z3x (s:List UInt8):AllD (dfr s):=λc h=>by
 have:=List.all_takeWhile (p:=isD) (l:=s);rw[Vbv] at this;exact this c h
theorem Z05 (c:UInt8) (t:List UInt8):frac (c::t)=if c=46 then(if dfr t=[] then none else some (dfr t,aft t)) else some ([],c::t):=rfl
theorem Z3y (c:UInt8) (t:List UInt8):sgn (c::t)=if c=45 then(true,t) else if c=43 then(false,t) else(false,c::t):=rfl
theorem Z4B (f:List UInt8->Nat) (c:UInt8) (t:List UInt8):expo f (c::t)=if c=101\/c=69 then(if dfr (sgn t).2=[] then none else some (sg (sgn t).1*(f (dfr (sgn t).2):Int),aft (sgn t).2)) else some (0,c::t):=rfl
theorem Z4C {c:UInt8} {t:List UInt8} (h:isD c=true):sgn (c::t)=(false,c::t):=by
 rw[Z3y];unfold isD at h;simp at h;have h1:c≠45:=λe=>(by subst e;simp at h);have h2:c≠43:=λe=>(by subst e;simp at h);rw[Vad h1,Vad h2]
theorem Zex (E:Int):sgn (decZ E)=(decide (E<0),decN E.natAbs):=by
 unfold decZ;by_cases h:E<0
 ·rw[Vaf h];have:(-E).toNat=E.natAbs:=(by omega);rw[this];simp[sgn,h]
 ·rw[Vad h];have:E.toNat=E.natAbs:=(by omega);rw[this];match hd:decN E.natAbs with
  |[]=>exact absurd hd (ZaM _)
  |c::t=>
   have:=Z3w E.natAbs c (by rw[hd];exact Vap);rw[Z4C this];simp[h]
theorem Zey {f:List UInt8->Nat} {m:Num} (hm:AllD m.dg) (h0:m.dg≠[]) (tD:m.dg.length<=17) (ni: -400<=XV m) (za:XV m<=400) (hf:∀p,AllD p->vd p<=400->f p=vd p):
  scn f ((if m.neg then[45] else[])++m.dg.take 1++(if 1<m.dg.length then 46::m.dg.drop 1 else[])++101::decZ (XV m))=some m:=by
 obtain⟨b,d,e⟩:=m;simp only at hm h0 tD;obtain⟨E,hE⟩:∃E,XV ⟨b,d,e⟩=E:=⟨_,rfl⟩;rw[hE] at ni za;rw[hE];have PU:E=e+d.length-1:=(by rw[<-hE];rfl);match d,h0 with
 |c::t,_=>
  simp only[List.take_succ_cons,Vbw,List.drop_succ_cons,Vco];obtain⟨R,hR⟩:∃R,((if 1<(c::t).length then 46::t else[])++101::decZ E:List UInt8)=R:=⟨_,rfl⟩;have hc:=hm c Vap;have ht:AllD t:=λx hx=>hm x (Var _ hx)
  have es:(if b then[45] else[])++[c]++(if 1<(c::t).length then 46::t else[])++101::decZ E=(if b then[45] else[])++(c::R):=by
   rw[<-hR];simp only[Vay,Vc9,Vbs,Vbz]
  simp only[es]
  have hs:sgn ((if b then[45] else[])++(c::R))=(b,c::R):=by
   cases b
   ·simpa using Z4C (t:=R) hc
   ·simp[sgn]
  have o7:∀x y,R=x::y->isD x=false:=by
   intro x y h;rw[<-hR] at h;split at h
   ·injection h with h1 _;rw[<-h1];decide
   ·injection h with h1 _;rw[<-h1];decide
  obtain⟨q1,q2⟩:=Z0x (d:=[c]) (r:=R) (λx hx=>by rw[Vax] at hx;rw[hx];exact hc) o7
  have hlen:((if b then[45] else[])++(c::R)).length<=64:=by
   have hz:(decZ E).length<=4:=by
    unfold decZ;split
    ·have:=Qq (n:=(-E).toNat) (k:=3) (by omega) (by omega);rw[Vaz];omega
    ·have:=Qq (n:=E.toNat) (k:=3) (by omega) (by omega);omega
   have h2:(if b then[(45:UInt8)] else[]).length<=1:=(by cases b<;>simp);have h3:(if 1<(c::t).length then(46::t:List UInt8) else[]).length<=t.length+1:=(by split<;>simp);rw[Vab,Vaz,<-hR,Vab];rw[Vaz] at tD;have h4:(101::decZ E).length=(decZ E).length+1:=rfl;omega
  have hx:expo f (101::decZ E)=some (E,[]):=by
   rw[Z4B,Vaf (.inl rfl),Zex];obtain⟨a1,a2⟩:=Z0x (d:=decN E.natAbs) (r:=[]) (Z3w _) (λ_ _ h=>by cases h);rw[Va3] at a1 a2;simp only[a1,a2];rw[Vad (ZaM _),hf _ (Z3w _) (by rw[ZaL];omega),ZaL];congr 2;unfold sg;split
   ·rename_i h;simp at h;omega
   ·rename_i h;simp at h;omega
  have fa:frac R=some (t,101::decZ E):=by
   rw[<-hR];by_cases h1:1<(c::t).length
   ·rw[Vaf h1];obtain⟨a1,a2⟩:=Z0x (d:=t) (r:=101::decZ E) ht (λx y h=>by injection h with h _;rw[<-h];decide);rw[Vbs,Z05,Vaf rfl,a1,a2,Vad (by intro h;rw[h] at h1;simp at h1)]
   ·rw[Vad h1];have:t=[]:=Vaj (by rw[Vaz] at h1;omega);subst this;rw[Vbz,Z05,Vad (by decide)]
  unfold scn;rw[Vad (by omega),hs];simp only;have PV:dfr (c::R)=[c]:=q1;have PW:aft (c::R)=R:=q2;rw[PV,PW,Vad (by simp),fa];simp only;rw[hx];simp only[if_true];congr 1;rw[Vaz] at PU;simp;omega
structure Fits (n:Num):Prop where
 canon:Canon n
 len:n.dg.length<=17
 lo:n.dg≠[]->-400<=XV n
 hi:n.dg≠[]->XV n<=400
theorem Z8C {n:Num} (h:Canon n) (h0:(Xc n).2=0):Fits n:=by
 unfold Xc at h0;split at h0
 ·rename_i hz;exact⟨h,by rw[hz];simp,λe=>absurd hz e,λe=>absurd hz e⟩
 ·split at h0
  ·cases h0
  ·rename_i h1;exact⟨h,by omega,λ_=>by omega,λ_=>by omega⟩
theorem ZhF {n:Num} (h:Fits n):(Xc n).2=0:=by
 unfold Xc;split
 ·rfl
 ·rename_i h0;have a:=h.lo h0;have b:=h.hi h0;have c:=h.len;rw[Vad (by omega)]
theorem ZaN {f:List UInt8->Nat} (hf:∀p,AllD p->vd p<=400->f p=vd p) {n:Num} (h:Fits n):∃m,scn f (Xc n).1=some m/\Xb m=n:=by
 by_cases h0:n.dg=[]
 ·have hz:n=Z3v:=by
   obtain⟨z1,z2⟩:=h.canon.zero h0;obtain⟨b,d,e⟩:=n;simp only at z1 z2 h0;rw[z1,z2,h0];rfl
  subst hz;exact⟨⟨false,[48],0⟩,rfl,rfl⟩
 ·have e:(Xc n).1=(if n.neg then[45] else[])++n.dg.take 1++(if 1<n.dg.length then 46::n.dg.drop 1 else[])++101::decZ (XV n):=by
   have a:=h.lo h0;have b:=h.hi h0;have c:=h.len;unfold Xc;rw[Vad h0,Vad (by omega)]
  rw[e];exact⟨n,Zey h.canon.all h0 h.len (h.lo h0) (h.hi h0) hf,Z2n h.canon⟩
theorem ZjW (p:List UInt8) (h:vd p<=400):cl1 p=vd p:=by rw[ZgO];omega
theorem Z3z (s:List UInt8):(dfr s).length<=s.length:=(List.takeWhile_prefix _).length_le
theorem ZhG (s:List UInt8):(aft s).length<=s.length:=(List.dropWhile_suffix _).length_le
theorem ZhH (s:List UInt8):(sgn s).2.length<=s.length:=by
 match s with
 |[]=>simp[sgn]
 |c::t=>
  rw[Z3y];split
  ·simp
  ·split<;>simp
theorem Zez {s:List UInt8} {x:List UInt8×List UInt8} (h:frac s=some x):x.1.length<=s.length/\AllD x.1:=by
 match s,h with
 |[],h=>injection h with h;subst h;exact⟨by simp,by intro c hc;simp at hc⟩
 |c::t,h=>
  rw[Z05] at h;split at h
  ·split at h
   ·cases h
   ·injection h with h;subst h;have:=Z3z t;exact⟨by simp;omega,Z3x t⟩
  ·injection h with h;subst h;exact⟨by simp,by intro c hc;simp at hc⟩
theorem ZaO {f:List UInt8->Nat} {s:List UInt8} {n:Num} (h:scn f s=some n):AllD n.dg/\n.dg.length<=128/\n.dg≠[]/\s.length<=64:=by
 unfold scn at h;split at h
 ·cases h
 ·rename_i Vw;split at h
  ·cases h
  ·rename_i az;match hf:frac (aft (sgn s).2),h with
   |none,h=>cases h
   |some x,h=>
    simp only at h;obtain⟨l1,l2⟩:=Zez hf;match hx:expo f x.2,h with
    |none,h=>cases h
    |some y,h=>
     simp only at h;split at h
     ·injection h with h;subst h;have a1:=ZhH s;have a2:=Z3z (sgn s).2;have a3:=ZhG (sgn s).2;refine⟨λc hc=> ?_,?_,?_,by omega⟩
      ·rcases Va9.1 hc with h1|h1
       ·exact Z3x _ c h1
       ·exact l2 c h1
      ·simp only[Vab];omega
      ·simp only[ne_eq,List.append_eq_nil_iff];exact λh=>az h.1
     ·cases h
def canN (s:List UInt8):Option Num:=match scn cl1 s with
 |none=>none
 |some m=>if Xc (Xb m)=(s,0) then some (Xb m) else none
theorem ZeA {s:List UInt8} {n:Num} :canN s=some n↔Fits n/\s=(Xc n).1:=by
 constructor
 ·intro h;unfold canN at h;match hs:scn cl1 s,h with
  |none,h=>cases h
  |some m,h=>
   simp only at h;split at h
   ·rename_i h1;injection h with h;subst h;exact⟨Z8C (Z5Y (ZaO hs).1) (by rw[h1]),by rw[h1]⟩
   ·cases h
 ·rintro⟨h1,rfl⟩;obtain⟨m,h2,h3⟩:=ZaN (f:=cl1) (λp _ h=>ZjW p h) h1;unfold canN;rw[h2];simp only;have e:Xc n=((Xc n).1,0):=Prod.ext rfl (ZhF h1);rw[h3,Vaf e]
def W (n:Num):Int:=V 1000 n
section
variable {x y z:Num}
end
end Wv.Dc
namespace Wv.Lz
open Wv.Mo
def comA (s:List UInt8) (i j:Nat):Nat->Nat->Nat
 |n,0=>n
 |n,k+1=>if s.getD (i+n) 0=s.getD (j+n) 0 then comA s i j (n+1) k else n
def com (s:List UInt8) (i j most:Nat):Nat:=comA s i j 0 most
theorem Z4D (s:List UInt8) (i j:Nat):∀k n,(∀t,t<n->s.getD (i+t) 0=s.getD (j+t) 0)->n<=comA s i j n k/\comA s i j n k<=n+k/\∀t,t<comA s i j n k->s.getD (i+t) 0=s.getD (j+t) 0:=by
 intro k;induction k with
 |zero=>intro n h;exact⟨UZz,UZz,h⟩
 |succ k ih=>
  intro n h;unfold comA;split
  ·rename_i he
   obtain⟨a,b,c⟩:=ih (n+1) (λt ht=>by
    rcases Nat.lt_or_ge t n with h1|h1
    ·exact h t h1
    ·have:t=n:=(by omega);rw[this];exact he)
   exact⟨by omega,by omega,c⟩
  ·exact⟨UZz,by omega,h⟩
theorem ZaP (s:List UInt8) (i j most:Nat):com s i j most<=most:=by have:=(Z4D s i j most 0 (λt h=>by omega)).2.1;unfold com;omega
theorem ZjX (s:List UInt8) (i j most:Nat):∀t,t<com s i j most->s.getD (i+t) 0=s.getD (j+t) 0:=(Z4D s i j most 0 (λt h=>by omega)).2.2
def btr (s:List UInt8) (i most:Nat):Nat->Nat->List (Nat×Nat)->List (Nat×Nat)
 |0,_,o=>o
 |p+1,b,o=>if 4096<i-p\/most<=b then o
  else if s.getD (p+b) 0≠s.getD (i+b) 0 then btr s i most p b o
  else if b<com s p i most then btr s i most p (com s p i most) (o++[(com s p i most,i-p)]) else btr s i most p b o
def Xt (s:List UInt8) (i:Nat):Nat:=min 273 (s.length-i)
def cand (s:List UInt8) (i:Nat):List (Nat×Nat):=btr s i (Xt s i) i 1 []
def Z7k (s:List UInt8) (i:Nat) (c:Nat×Nat):Prop:=2<=c.1/\c.1<=Xt s i/\1<=c.2/\c.2<=i/\c.2<=4096/\∀t,t<c.1->s.getD (i-c.2+t) 0=s.getD (i+t) 0
theorem ZjY (s:List UInt8) (i:Nat):∀p b o,p<=i->1<=b->(∀c∈o,Z7k s i c)->(∀c∈o,c.1<=b)->o.Pairwise (λx y=>x.1<y.1)->
  (∀c∈btr s i (Xt s i) p b o,Z7k s i c)/\(btr s i (Xt s i) p b o).Pairwise (λx y=>x.1<y.1):=by
 intro p;induction p with
 |zero=>intro b o _ _ h _ hp;exact⟨h,hp⟩
 |succ p ih=>
  intro b o L5 hb h hm hp;unfold btr;split
  ·exact⟨h,hp⟩
  ·rename_i hg;split
   ·exact ih b o (by omega) hb h hm hp
   ·split
    ·rename_i hn
     have bH:Z7k s i (com s p i (Xt s i),i-p):=by
      refine⟨by simp only;omega,ZaP _ _ _ _,by simp only;omega,by simp only;omega,by simp only;omega,λt ht=> ?_⟩;have:=ZjX s p i (Xt s i) t ht;rw[<-this];congr 1;simp only;omega
     refine ih _ _ (by omega) (by omega) (λc hc=> ?_) (λc hc=> ?_) ?_
     ·rcases Va9.1 hc with hc|hc
      ·exact h c hc
      ·rw[Vax.1 hc];exact bH
     ·rcases Va9.1 hc with hc|hc
      ·have:=hm c hc;omega
      ·rw[Vax.1 hc];exact UZz
     ·rw[List.pairwise_append];refine⟨hp,by simp,λx hx y hy=> ?_⟩;rw[Vax.1 hy];have:=hm x hx;simp only;omega
    ·exact ih b o (by omega) hb h hm hp
theorem Z5Z (s:List UInt8) (i:Nat):(∀c∈cand s i,Z7k s i c)/\(cand s i).Pairwise (λx y=>x.1<y.1):=
 ZjY s i i 1 [] UZz UZz (λc hc=>by cases hc) (λc hc=>by cases hc) .nil
structure Pc where
 len:Nat
 dist:Nat
 byte:UInt8
deriving Inhabited,DecidableEq
structure St where
 cost:Nat
 pcs:Nat
 first:Pc
deriving Inhabited
def st0:St:=⟨0,0,⟨0,0,0⟩⟩
def price (p:Pc):Nat:=if p.dist=0 then 9 else 12+blen p.dist+blen p.len
def down (hi lo d:Nat):List Pc:=(List.range (hi-lo)).map (λt=>⟨hi-t,d,0⟩)
def Z06:List (Nat×Nat)->List Pc
 |[]=>[]
 |[c]=>down c.1 1 c.2
 |c::c'::r=>down c.1 c'.1 c.2++Z06 (c'::r)
def stOf (tb:List St) (p:Pc):St:=⟨(tb.getD (p.len-1) st0).cost+price p,(tb.getD (p.len-1) st0).pcs+1,p⟩
def bett (x c:St):Bool:=decide (x.cost<c.cost)||(decide (x.cost=c.cost)&&decide (x.pcs<c.pcs))
def tryP (tb:List St) (c:Option St) (p:Pc):Option St:=match c with
 |none=>some (stOf tb p)
 |some c=>if bett (stOf tb p) c=true then some (stOf tb p) else some c
def lit (s:List UInt8) (i:Nat):Pc:=⟨1,0,s.getD i 0⟩
def Z2o (s:List UInt8) (i:Nat):List Pc:=Z06 (cand s i).reverse++[lit s i]
def Z0T (s:List UInt8) (i:Nat) (tb:List St):St:=((Z2o s i).foldl (tryP tb) none).getD st0
def tbl (s:List UInt8):Nat->List St
 |0=>[st0]
 |k+1=>Z0T s (s.length-1-k) (tbl s k)::tbl s k
theorem ZaQ (s:List UInt8) (k:Nat):(tbl s k).length=k+1:=by
 induction k with
 |zero=>rfl
 |succ k ih=>simp[tbl,ih]
def QN (s:List UInt8):List St:=tbl s s.length
def follow (s:List UInt8):Nat->Nat->List Pc
 |0,_=>[]
 |f+1,i=>if i<s.length then((QN s).getD i st0).first::follow s f (i+((QN s).getD i st0).first.len) else[]
def parse (s:List UInt8):List Pc:=follow s s.length 0
def PcOk (s:List UInt8) (i:Nat) (p:Pc):Prop:=(p.dist=0/\p.len=1/\p.byte=s.getD i 0/\i<s.length)\/
 (1<=p.dist/\p.dist<=i/\p.dist<=4096/\2<=p.len/\p.len<=273/\i+p.len<=s.length/\p.byte=0/\∀t,t<p.len->s.getD (i-p.dist+t) 0=s.getD (i+t) 0)
theorem Z7l {hi lo d:Nat} {p:Pc} (h:p∈down hi lo d):lo<p.len/\p.len<=hi/\p.dist=d/\p.byte=0:=by
 obtain⟨t,ht,rfl⟩:=Va6.1 h;have:=List.mem_range.1 ht;exact⟨by simp only;omega,by simp only;omega,rfl,rfl⟩
theorem Z4E:∀(l:List (Nat×Nat)) (p:Pc),(∀c∈l,2<=c.1)->p∈Z06 l->∃c∈l,2<=p.len/\p.len<=c.1/\p.dist=c.2/\p.byte=0
 |[],p,_,h=>by cases h
 |[c],p,_,h=>by
  obtain⟨a,b,d,e⟩:=Z7l h;exact⟨c,by simp,by omega,b,d,e⟩
 |c::c'::r,p,hl,h=>by
  rcases Va9.1 h with h|h
  ·obtain⟨a,b,d,e⟩:=Z7l h;have:=hl c' (by simp);exact⟨c,by simp,by omega,b,d,e⟩
  ·obtain⟨x,hx,y⟩:=Z4E (c'::r) p (λz hz=>hl z (Var _ hz)) h;exact⟨x,Var _ hx,y⟩
theorem Z7m {s:List UInt8} {i:Nat} (hi:i<s.length):∀p∈Z2o s i,PcOk s i p:=by
 intro p hp;rcases Va9.1 hp with hp|hp
 ·obtain⟨c,hc,h1,h2,h3,h4⟩:=Z4E _ p (λc hc=>((Z5Z s i).1 c (List.mem_reverse.1 hc)).1) hp;obtain⟨k1,k2,k3,k4,k5,k6⟩:=(Z5Z s i).1 c (List.mem_reverse.1 hc);have hm:Xt s i<=273/\Xt s i<=s.length-i:=⟨Nat.min_le_left _ _,Nat.min_le_right _ _⟩;exact .inr ⟨by omega,by omega,by omega,h1,by omega,by omega,h4,λt ht=>by rw[h3];exact k6 t (by omega)⟩
 ·rw[Vax.1 hp];exact .inl ⟨rfl,rfl,rfl,hi⟩
theorem Z8D (tb:List St):∀(l:List Pc) (c:Option St),(∀x,c=some x->∃p,p=x.first)->∀x,l.foldl (tryP tb) c=some x->(c=some x)\/x.first∈l:=by
 intro l;induction l with
 |nil=>intro c _ x h;exact .inl h
 |cons p r ih=>
  intro c hc x h;rcases ih (tryP tb c p) (λx _=>⟨_,rfl⟩) x h with h1|h1
  ·unfold tryP at h1;cases c with
   |none=>
    simp only at h1;injection h1 with h1;exact .inr (by rw[<-h1];exact Vap)
   |some c=>
    simp only at h1;split at h1
    ·injection h1 with h1;exact .inr (by rw[<-h1];exact Vap)
    ·exact .inl h1
  ·exact .inr (Var _ h1)
theorem Z07 (tb:List St) (c:Option St) (p:Pc):∃x,tryP tb c p=some x:=by
 unfold tryP;cases c with
 |none=>exact⟨_,rfl⟩
 |some c=>simp only;split<;>exact⟨_,rfl⟩
theorem ZaR {s:List UInt8} {i:Nat} (hi:i<s.length) (tb:List St):PcOk s i (Z0T s i tb).first:=by
 have hx:∃x,(Z2o s i).foldl (tryP tb) none=some x:=by
  unfold Z2o;rw[Vbq];exact Z07 _ _ _
 obtain⟨x,hx⟩:=hx;have:=Z8D tb (Z2o s i) none (λx h=>by cases h) x hx;unfold Z0T;rw[hx];rcases this with h|h
 ·cases h
 ·exact Z7m hi _ h
theorem ZjZ (s:List UInt8) (k:Nat) (hk:k<=s.length):∀j,j<k->(tbl s k).getD j st0=Z0T s (s.length-k+j) (tbl s (k-1-j)):=by
 induction k with
 |zero=>intro j h;omega
 |succ k ih=>
  intro j hj;cases j with
  |zero=>
   show Z0T s (s.length-1-k) (tbl s k)=_;congr 1;omega
  |succ j=>
   show(tbl s k).getD j st0=_;rw[ih (by omega) j (by omega)];congr 1
   ·omega
   ·congr 1;omega
theorem Z7n {s:List UInt8} {i:Nat} (hi:i<s.length):PcOk s i ((QN s).getD i st0).first:=by
 unfold QN;rw[ZjZ s s.length UZz i hi];have:=ZaR (s:=s) (i:=s.length-s.length+i) (by omega) (tbl s (s.length-1-i));rw[show s.length-s.length+i=i by omega] at this⊢;exact this
theorem PcOk.pos {s:List UInt8} {i:Nat} {p:Pc} (h:PcOk s i p):1<=p.len/\i+p.len<=s.length:=by
 rcases h with ⟨_,h2,_,h4⟩|⟨_,_,_,h4,_,h6,_⟩<;>omega
/-! ## What the pieces give -/
def Qa (d:Nat):Nat->List UInt8->List UInt8
 |0,o=>o
 |n+1,o=>Qa d n (o++[o.getD (o.length-d) 0])
def app (o:List UInt8) (p:Pc):List UInt8:=if p.dist=0 then o++[p.byte] else Qa p.dist p.len o
theorem Z4F {s:List UInt8} {i:Nat} (h:i<s.length):s.take (i+1)=s.take i++[s.getD i 0]:=by
 rw[Vac h];congr 2;simp[List.getD,h]
theorem ZaS {s:List UInt8} {d:Nat} (hd:1<=d):∀n i,d<=i->i+n<=s.length->(∀t,t<n->s.getD (i-d+t) 0=s.getD (i+t) 0)->Qa d n (s.take i)=s.take (i+n):=by
 intro n;induction n with
 |zero=>intro i _ _ _;rfl
 |succ n ih=>
  intro i h1 h2 h3
  have e:(s.take i).getD ((s.take i).length-d) 0=s.getD i 0:=by
   have hl:(s.take i).length=i:=(by rw[Vau];omega);rw[hl];have:=h3 0 (by omega);rw[Vb3,Vb3] at this;rw[<-this];simp[List.getD,List.getElem?_take_of_lt (show i-d<i by omega)]
  show Qa d n (s.take i++[(s.take i).getD ((s.take i).length-d) 0])=_
  rw[e,<-Z4F (show i<s.length by omega),ih (i+1) (by omega) (by omega) (λt ht=>by
   have:=h3 (t+1) (by omega);rw[show i+1-d+t=i-d+(t+1) by omega,show i+1+t=i+(t+1) by omega];exact this)]
  congr 1;omega
theorem Zk0 {s:List UInt8} {i:Nat} {p:Pc} (h:PcOk s i p):app (s.take i) p=s.take (i+p.len):=by
 unfold app;rcases h with ⟨h1,h2,h3,h4⟩|⟨h1,h2,h3,h4,h5,h6,h7,h8⟩
 ·rw[Vaf h1,h2,h3,Z4F h4]
 ·rw[Vad (by omega),ZaS h1 _ _ h2 h6 h8]
inductive Parses (s:List UInt8):Nat->List Pc->Prop
 |done:Parses s s.length []
 |step {i:Nat} {p:Pc} {l:List Pc} (h:PcOk s i p) (r:Parses s (i+p.len) l):Parses s i (p::l)
theorem Z3A (s:List UInt8):∀f i,i<=s.length->s.length<=i+f->Parses s i (follow s f i):=by
 intro f;induction f with
 |zero=>
  intro i h1 h2;have:i=s.length:=(by omega);subst this;exact .done
 |succ f ih=>
  intro i h1 h2;unfold follow;split
  ·rename_i h;have hp:=Z7n h;have:=hp.pos;exact .step hp (ih _ (by omega) (by omega))
  ·have:i=s.length:=(by omega);subst this;exact .done
theorem Qb (s:List UInt8):Parses s 0 (parse s):=Z3A s s.length 0 (Vat _) (by omega)
end Wv.Lz
namespace Wv.Lz
open Wv.Vi Wv.Rc Wv.Mo Wv.Ru
structure Ms where
 kind:List Nat
 bytes:List (List Nat)
 last:UInt8
 len:List Nat
 dist:List Nat
def tr0 (n:Nat):List Nat:=List.replicate (2 ^ n) 1024
def m0:Ms:=⟨tr0 1,List.replicate 8 (tr0 8),0,t0,t0⟩
def Z0y (m:Ms):List Nat:=m.bytes.getD (m.last.toNat/32) []
def kenc (b:Nat) (x:Ms×En):Ms×En:=({ x.1 with kind:=(tenc 1 b 1 x.1.kind x.2).1 },(tenc 1 b 1 x.1.kind x.2).2)
def benc (c:UInt8) (x:Ms×En):Ms×En:=({ x.1 with bytes:=x.1.bytes.set (x.1.last.toNat/32) (tenc 8 c.toNat 1 (Z0y x.1) x.2).1,last:=c },(tenc 8 c.toNat 1 (Z0y x.1) x.2).2)
def lenc (v:Nat) (x:Ms×En):Ms×En:=({ x.1 with len:=(nenc v (x.1.len,x.2)).1 },(nenc v (x.1.len,x.2)).2)
def denc (v:Nat) (x:Ms×En):Ms×En:=({ x.1 with dist:=(nenc v (x.1.dist,x.2)).1 },(nenc v (x.1.dist,x.2)).2)
def penc (p:Pc) (x:Ms×En):Ms×En:=if p.dist=0 then benc p.byte (kenc 0 x) else denc (p.dist-1) (lenc (p.len-2) (kenc 1 x))
def Xp:List Pc->Ms×En->Ms×En
 |[],x=>x
 |p::l,x=>Xp l (penc p x)
def lzE (s:List UInt8):Option (List UInt8):=if 4096<s.length then none else some (num s.length++if s=[] then[] else efin (Xp (parse s) (m0,e0)).2)
def kdec (m:Ms) (d:De):Nat×Ms×De:=((tdec 1 1 m.kind d).1-2, { m with kind:=(tdec 1 1 m.kind d).2.1 },(tdec 1 1 m.kind d).2.2)
def bdec (m:Ms) (d:De):UInt8×Ms×De:=(UInt8.ofNat ((tdec 8 1 (Z0y m) d).1-256), { m with bytes:=m.bytes.set (m.last.toNat/32) (tdec 8 1 (Z0y m) d).2.1,last:=UInt8.ofNat ((tdec 8 1 (Z0y m) d).1-256) },(tdec 8 1 (Z0y m) d).2.2)
def ldec (m:Ms) (d:De):Int×Ms×De:=((ndec m.len d).1, { m with len:=(ndec m.len d).2.1 },(ndec m.len d).2.2)
def ddec (m:Ms) (d:De):Int×Ms×De:=((ndec m.dist d).1, { m with dist:=(ndec m.dist d).2.1 },(ndec m.dist d).2.2)
def badL (n:Nat) (o:List UInt8) (L D:Int):Bool:=decide (L<0)||decide (271<L)||decide ((n:Int)-o.length<L+2)||decide (D<0)||decide ((o.length:Int)<=D)
def rdP:Nat->Nat->List UInt8->Ms->De->Option (List UInt8)
  |0,_,o,_,_=>some o
  | f + 1, n, o, m, d => if o.length < n then
      if(kdec m d).1=0 then rdP f n (o++[(bdec (kdec m d).2.1 (kdec m d).2.2).1]) (bdec (kdec m d).2.1 (kdec m d).2.2).2.1 (bdec (kdec m d).2.1 (kdec m d).2.2).2.2
      else if badL n o (ldec (kdec m d).2.1 (kdec m d).2.2).1 (ddec (ldec (kdec m d).2.1 (kdec m d).2.2).2.1 (ldec (kdec m d).2.1 (kdec m d).2.2).2.2).1=true then none
      else rdP f n (Qa ((ddec (ldec (kdec m d).2.1 (kdec m d).2.2).2.1 (ldec (kdec m d).2.1 (kdec m d).2.2).2.2).1.toNat+1) ((ldec (kdec m d).2.1 (kdec m d).2.2).1.toNat+2) o)
        (ddec (ldec (kdec m d).2.1 (kdec m d).2.2).2.1 (ldec (kdec m d).2.1 (kdec m d).2.2).2.2).2.1 (ddec (ldec (kdec m d).2.1 (kdec m d).2.2).2.1 (ldec (kdec m d).2.1 (kdec m d).2.2).2.2).2.2
    else some o
def lzR (data:List UInt8) (n:Nat):Option (List UInt8):=rdP n n [] m0 (d0 data)
def lzD (data:List UInt8) (most:Int):List UInt8×Nat:=match rnum data 4096 with
 |none=>([],12)
 |some (n,r)=>if most<(n:Int) then([],2) else match lzR r n with
  |none=>([],12)
  |some s=>if lzE s=some data then(s,0) else([],12)
/-! ## A text comes back -/
structure MOk (m:Ms):Prop where
 k:TOk m.kind/\m.kind.length=2
 bl:m.bytes.length=8
 b:∀t∈m.bytes,TOk t/\t.length=256
 l:TNum m.len
 d:TNum m.dist
theorem ZgP (n:Nat):TOk (tr0 n)/\(tr0 n).length=2 ^ n:=by
 refine⟨λx hx=> ?_,Vaw⟩;rw[List.eq_of_mem_replicate hx];omega
theorem ZaT:MOk m0:=by
 refine⟨ZgP 1,by simp[m0],λt ht=> ?_,Z1q,Z1q⟩;have:t=tr0 8:=List.eq_of_mem_replicate ht;rw[this];exact ZgP 8
theorem Z60 (c:UInt8):c.toNat/32<8:=by have:=c.toNat_lt;omega
theorem Z1b {m:Ms} (h:MOk m):TOk (Z0y m)/\(Z0y m).length=256:=by
 have hl:m.last.toNat/32<m.bytes.length:=(by rw[h.bl];exact Z60 _);have e:Z0y m=m.bytes[m.last.toNat/32]:=(by unfold Z0y;simp[List.getD,hl]);rw[e];exact h.b _ (Vak _)
theorem Z7o {m:Ms} (h:MOk m) {t:List Nat} (ht:TOk t/\t.length=256) (j:Nat):∀u∈m.bytes.set j t,TOk u/\u.length=256:=by
 intro u hu;rcases List.mem_or_eq_of_mem_set hu with h1|h1
 ·exact h.b u h1
 ·rw[h1];exact ht
theorem Xk {b:Nat} {x:Ms×En} (h:MOk x.1) (he:Val 0 x.2):MOk (kenc b x).1/\Val 0 (kenc b x).2:=by
 obtain⟨a,c,d⟩:=Ql 1 b 1 h.k.1 (by rw[h.k.2];decide) he;exact⟨⟨⟨a,c.trans h.k.2⟩,h.bl,h.b,h.l,h.d⟩,d⟩
theorem ZeB {c:UInt8} {x:Ms×En} (h:MOk x.1) (he:Val 0 x.2):MOk (benc c x).1/\Val 0 (benc c x).2:=by
 obtain⟨t1,t2⟩:=Z1b h;obtain⟨a,b,d⟩:=Ql 8 c.toNat 1 t1 (by rw[t2];decide) he;exact⟨⟨h.k,by show(List.set _ _ _).length=8;rw[Vbh];exact h.bl,Z7o h ⟨a,b.trans t2⟩ _,h.l,h.d⟩,d⟩
theorem Z1c {v:Nat} {x:Ms×En} (h:MOk x.1) (he:Val 0 x.2):MOk (lenc v x).1/\Val 0 (lenc v x).2:=by
 obtain⟨a,b⟩:=QX (v:=v) (x:=(x.1.len,x.2)) h.l he;exact⟨⟨h.k,h.bl,h.b,a,h.d⟩,b⟩
theorem ZeC {v:Nat} {x:Ms×En} (h:MOk x.1) (he:Val 0 x.2):MOk (denc v x).1/\Val 0 (denc v x).2:=by
 obtain⟨a,b⟩:=QX (v:=v) (x:=(x.1.dist,x.2)) h.d he;exact⟨⟨h.k,h.bl,h.b,h.l,a⟩,b⟩
theorem Z1d {p:Pc} {x:Ms×En} (h:MOk x.1) (he:Val 0 x.2):MOk (penc p x).1/\Val 0 (penc p x).2:=by
 unfold penc;split
 ·obtain⟨a,b⟩:=Xk (b:=0) h he;exact ZeB a b
 ·obtain⟨a,b⟩:=Xk (b:=1) h he;obtain⟨c,d⟩:=Z1c (v:=p.len-2) a b;exact ZeC c d
theorem ZaU (l:List Pc):∀ {x:Ms×En},MOk x.1->Val 0 x.2->MOk (Xp l x).1/\Val 0 (Xp l x).2:=by
 induction l with
 |nil=>intro x h he;exact⟨h,he⟩
 |cons p l ih=>intro x h he;obtain⟨a,b⟩:=Z1d (p:=p) h he;exact ih a b
section
variable {F:List UInt8}
theorem ZaV {b:Nat} {x:Ms×En} (h:MOk x.1) (he:Val 0 x.2) (hw:Wi F (kenc b x).2):Wi F x.2:=Z3e 1 b 1 h.k.1 (by rw[h.k.2];decide) he hw
theorem ZaW {c:UInt8} {x:Ms×En} (h:MOk x.1) (he:Val 0 x.2) (hw:Wi F (benc c x).2):Wi F x.2:=by
 obtain⟨t1,t2⟩:=Z1b h;exact Z3e 8 c.toNat 1 t1 (by rw[t2];decide) he hw
theorem ZhI {p:Pc} {x:Ms×En} (h:MOk x.1) (he:Val 0 x.2) (hw:Wi F (penc p x).2):Wi F x.2:=by
 unfold penc at hw;split at hw
 ·obtain⟨a,b⟩:=Xk (b:=0) h he;exact ZaV h he (ZaW a b hw)
 ·obtain⟨a,b⟩:=Xk (b:=1) h he;obtain⟨c,d⟩:=Z1c (v:=p.len-2) a b;exact ZaV h he (Z1r (x:=((kenc 1 x).1.len,(kenc 1 x).2)) a.l b (Z1r (x:=((lenc (p.len-2) (kenc 1 x)).1.dist,(lenc (p.len-2) (kenc 1 x)).2)) c.d d hw))
theorem Z7p (l:List Pc):∀ {x:Ms×En},MOk x.1->Val 0 x.2->Wi F (Xp l x).2->Wi F x.2:=by
 induction l with
 |nil=>intro x _ _ h;exact h
 |cons p l ih=>intro x h he hw;obtain⟨a,b⟩:=Z1d (p:=p) h he;exact ZhI h he (ih a b hw)
theorem ZaX {b:Nat} (hb:b<2) {x:Ms×En} {d:De} (h:MOk x.1) (he:Val 0 x.2) (hs:Sy F x.2 d) (hw:Wi F (kenc b x).2):(kdec x.1 d).1=b/\(kdec x.1 d).2.1=(kenc b x).1/\Sy F (kenc b x).2 (kdec x.1 d).2.2:=by
 obtain⟨a1,a2,a3⟩:=Z5M 1 b 1 h.k.1 (by rw[h.k.2];decide) he hs hw;unfold kdec kenc;simp only;rw[a1,a2];refine⟨by omega,rfl,a3⟩
theorem ZhJ {c:UInt8} {x:Ms×En} {d:De} (h:MOk x.1) (he:Val 0 x.2) (hs:Sy F x.2 d) (hw:Wi F (benc c x).2):(bdec x.1 d).1=c/\(bdec x.1 d).2.1=(benc c x).1/\Sy F (benc c x).2 (bdec x.1 d).2.2:=by
 obtain⟨t1,t2⟩:=Z1b h;obtain⟨a1,a2,a3⟩:=Z5M 8 c.toNat 1 t1 (by rw[t2];decide) he hs hw
 have hc:UInt8.ofNat ((tdec 8 1 (Z0y x.1) d).1-256)=c:=by
  rw[a1];have Fv:(2:Nat) ^ 8=256:=(by decide);have:=c.toNat_lt;rw[Fv,Nat.mod_eq_of_lt (by omega),show 1*256+c.toNat-256=c.toNat by omega];exact UInt8.ofNat_toNat
 unfold bdec benc;simp only;rw[hc,a2];exact⟨rfl,rfl,a3⟩
theorem ZhK {v:Nat} (hv:v<4611686018427387904) {x:Ms×En} {d:De} (h:MOk x.1) (he:Val 0 x.2) (hs:Sy F x.2 d) (hw:Wi F (lenc v x).2):(ldec x.1 d).1=v/\(ldec x.1 d).2.1=(lenc v x).1/\Sy F (lenc v x).2 (ldec x.1 d).2.2:=by
 obtain⟨a1,a2,a3⟩:=Z5N (x:=(x.1.len,x.2)) h.l he hv hs hw;unfold ldec lenc;simp only at a1 a2 a3⊢;rw[a1,a2];exact⟨rfl,rfl,a3⟩
theorem ZhL {v:Nat} (hv:v<4611686018427387904) {x:Ms×En} {d:De} (h:MOk x.1) (he:Val 0 x.2) (hs:Sy F x.2 d) (hw:Wi F (denc v x).2):(ddec x.1 d).1=v/\(ddec x.1 d).2.1=(denc v x).1/\Sy F (denc v x).2 (ddec x.1 d).2.2:=by
 obtain⟨a1,a2,a3⟩:=Z5N (x:=(x.1.dist,x.2)) h.d he hv hs hw;unfold ddec denc;simp only at a1 a2 a3⊢;rw[a1,a2];exact⟨rfl,rfl,a3⟩
theorem ZaY {s:List UInt8} (h4:s.length<=4096) {i:Nat} {l:List Pc} (hp:Parses s i l):∀(f:Nat) {x:Ms×En} {d:De},s.length<=i+f->MOk x.1->Val 0 x.2->Sy F x.2 d->Wi F (Xp l x).2->rdP f s.length (s.take i) x.1 d=some s:=by
 induction hp with
 |done=>
  intro f x d _ _ _ _ _;have e:s.take s.length=s:=Vah UZz;cases f with
  |zero=>show some _=_;rw[e]
  |succ f=>unfold rdP;rw[e,Vad (by omega)]
 | @step i p l bH r ih=>
  intro f x d hf hm he hs hw;have bU:=bH.pos;have p7:=Zk0 bH;cases f with
  |zero=>omega
  |succ f=>
   have hlen:(s.take i).length=i:=(by rw[Vau];omega);obtain⟨pm,pe⟩:=Z1d (p:=p) hm he;have eS:Wi F (penc p x).2:=Z7p l pm pe hw;unfold rdP;rw[Vaf (by rw[hlen];omega)]
   have mf:(p.dist=0/\p.len=1)\/(p.dist≠0/\1<=p.dist/\p.dist<=i/\2<=p.len/\p.len<=273):=by
    rcases bH with ⟨h1,h2,_⟩|⟨h1,h2,_,h5,h6,_⟩
    ·exact .inl ⟨h1,h2⟩
    ·exact .inr ⟨by omega,h1,h2,h5,h6⟩
   rcases mf with ⟨h1,h2⟩|⟨h1,h2,h3,h5,h6⟩
   ·have e:penc p x=benc p.byte (kenc 0 x):=(by unfold penc;rw[Vaf h1]);rw[e] at eS;obtain⟨km,ke⟩:=Xk (b:=0) hm he;obtain⟨k1,k2,k3⟩:=ZaX (b:=0) (by omega) hm he hs (ZaW km ke eS);have b0:=ZhJ (c:=p.byte) (x:=kenc 0 x) km ke k3 eS;rw[<-k2] at b0;obtain⟨b1,b2,b3⟩:=b0;rw[Vaf k1,b1,b2]
    have e2:s.take i++[p.byte]=s.take (i+p.len):=by
     rw[<-p7];unfold app;rw[Vaf h1]
    rw[e2];have aS:benc p.byte ((kdec x.1 d).2.1,(kenc 0 x).2)=penc p x:=(by rw[e,k2]);have:=ih f (x:=penc p x) (d:=(bdec (kdec x.1 d).2.1 (kdec x.1 d).2.2).2.2) (by omega) pm pe (by rw[e];exact b3) hw;rw[<-this,e]
   ·have e:penc p x=denc (p.dist-1) (lenc (p.len-2) (kenc 1 x)):=(by unfold penc;rw[Vad h1]);rw[e] at eS;obtain⟨km,ke⟩:=Xk (b:=1) hm he;obtain⟨lm,le⟩:=Z1c (v:=p.len-2) km ke;have w2:Wi F (lenc (p.len-2) (kenc 1 x)).2:=Z1r (x:=((lenc (p.len-2) (kenc 1 x)).1.dist,(lenc (p.len-2) (kenc 1 x)).2)) lm.d le eS;have w3:Wi F (kenc 1 x).2:=Z1r (x:=((kenc 1 x).1.len,(kenc 1 x).2)) km.l ke w2;obtain⟨k1,k2,k3⟩:=ZaX (b:=1) (by omega) hm he hs w3;have l0:=ZhK (v:=p.len-2) (by omega) (x:=kenc 1 x) km ke k3 w2;rw[<-k2] at l0;obtain⟨l1,l2,l3⟩:=l0;have xO:i<=4096:=(by omega);have L6:=ZhL (v:=p.dist-1) (by omega) (x:=lenc (p.len-2) (kenc 1 x)) lm le l3 eS;rw[<-l2] at L6;obtain⟨d1,d2,d3⟩:=L6;rw[Vad (by rw[k1];omega),l1,d1]
    have hb:badL s.length (s.take i) ((p.len-2:Nat):Int) ((p.dist-1:Nat):Int)=false:=by
     unfold badL;rw[hlen];simp only[Bool.or_eq_false_iff,Vbp];refine⟨⟨⟨⟨?_,?_⟩,?_⟩,?_⟩,?_⟩<;>omega
    rw[hb,Vad (by decide)]
    have e2:Qa (((p.dist-1:Nat):Int).toNat+1) (((p.len-2:Nat):Int).toNat+2) (s.take i)=s.take (i+p.len):=by
     rw[<-p7];unfold app;rw[Vad h1,Vav,Vav];congr 1<;>omega
    rw[e2,d2];have:=ih f (x:=penc p x) (d:=(ddec (ldec (kdec x.1 d).2.1 (kdec x.1 d).2.2).2.1 (ldec (kdec x.1 d).2.1 (kdec x.1 d).2.2).2.2).2.2) (by omega) pm pe (by rw[e];exact d3) hw;rw[<-this,e]
end
theorem Zl9 {s:List UInt8} (h4:s.length<=4096) (az:s≠[]):lzR (efin (Xp (parse s) (m0,e0)).2) s.length=some s:=by
 obtain⟨k1,k2⟩:=ZaU (parse s) (x:=(m0,e0)) ZaT Z4f;have hw:=ZgI k2;have hs:=Z78 (Z7p (parse s) (x:=(m0,e0)) ZaT Z4f hw);exact ZaY h4 (Qb s) s.length (x:=(m0,e0)) (by omega) ZaT Z4f hs hw
theorem Zla {s t:List UInt8} (h:lzE s=some t) (most:Int) (hm:(s.length:Int)<=most):lzD t most=(s,0):=by
 have h0:=h;unfold lzE at h;split at h
 ·cases h
 ·rename_i h4;injection h with h
  have hr:rnum t 4096=some (s.length,if s=[] then[] else efin (Xp (parse s) (m0,e0)).2):=by
   rw[<-h];exact ZZ _ _ (by omega) (by omega) _
  unfold lzD;rw[hr];simp only;rw[Vad (by omega)]
  have hR:lzR (if s=[] then[] else efin (Xp (parse s) (m0,e0)).2) s.length=some s:=by
   by_cases hn:s=[]
   ·rw[Vaf hn,hn];rfl
   ·rw[Vad hn];exact Zl9 (by omega) hn
  rw[hR];simp only;rw[Vaf h0]
theorem Zk1 {t s:List UInt8} {most:Int} (h:lzD t most=(s,0)):lzE s=some t:=by
 unfold lzD at h;split at h
 ·cases h
 ·split at h
  ·cases h
  ·split at h
   ·cases h
   ·split at h
    ·rename_i he;injection h with h _;rw[<-h];exact he
    ·cases h
theorem Z1e {s t:List UInt8} (h:lzE s=some t):s.length<=4096:=by
 unfold lzE at h;split at h
 ·cases h
 ·omega
end Wv.Lz
namespace Go.Proofs.YtchokmkfobandaaGreatDoor
open Go.RowKit Go.Proofs Wv Wv.Dc
theorem ZkR {k:IntKind} {a b:Int} (h:a=b):Ending.returned (.int k a)=.returned (.int k b):=by rw[h]
theorem ZaZ {a b:Bool} (h:a=b):Ending.returned (.bool a)=.returned (.bool b):=by rw[h]
theorem Z3B {a b:ByteArray} (h:a=b):Ending.returned (.string a)=.returned (.string b):=by rw[h]
theorem Zlb {a b:Value} (h:a=b):Ending.returned a=.returned b:=by rw[h]
theorem Zk2:(Tryz.prog.info? 5).map (λi=>(i.zero,i.size,i.bytes))=some (some (.int .u8 0),1,1):=by kernel_rfl
theorem ZhM {s:ByteArray} (h:s.size=0):s.toList.isEmpty=true:=by
 rw[ByteArray.toList_eq];have:s.data.toList.length=0:=h;rw[Vaj this];rfl
theorem ZhN {s:ByteArray} (h:0<s.size):s.toList.isEmpty=false:=by
 rw[ByteArray.toList_eq];have:s.data.toList.length=s.size:=rfl;match hl:s.data.toList with
 |[]=>rw[hl] at this;simp at this;omega
 |_::_=>rfl
theorem Zk3 (s:ByteArray) (z:Nat):s.extract z s.size=bs ((toL s).drop z):=by
 apply Vck;apply Vbj.1;simp only[bs,toL,ByteArray.data_extract,Array.toList_extract,List.extract_eq_take_drop,Vcl];rw[Vah (by rw[Va2];exact UZz)]
theorem Zk4 (s:ByteArray) (z:Nat):s.extract 0 z=bs ((toL s).take z):=by
 apply Vck;apply Vbj.1;simp[bs,toL]
theorem Zb0 {P:Program} (src dst e:TypeId) (hs:P.underlying src=some (.slice e)) (he:P.underlying e=some (.int .u8)) (hd:P.underlying dst=some .string) {w:World} {A:Option Addr} {l:List UInt8} (h:At w A (l.map bv)) (cap:Nat):
  (convert src dst (.slice A l.length cap)).run P w=.ok (.string (bs l)) w:=by
 cases A with
 |none=>
  have hl:l=[]:=by
   rcases l with _|⟨c,t⟩
   ·rfl
   ·obtain⟨b,p,h,_⟩:=h 0 (by simp);cases h
  subst hl;exact run_convert_bytes_nil w src e hs he 0 cap dst hd
 |some a=>
  refine run_convert_bytes_back w src dst e a cap l hs he hd (λj hj=> ?_);obtain⟨b,o,hA,hb,hc⟩:=h j (by rw[Vag];exact hj);injection hA with hA;subst hA;rw[Go.WideShapes.add_plain,hc];simp[bv]
theorem Z1F {w w':World} {r:Nat} (hf:Fr (only r) w w') {B:Nat} (hB:B<=w.heap.size) (hr:B<=r):Below B w w':=hf.toBelow' hB (λj hj e=>by have:j=r:=e;omega)
theorem X3 {w w':World} {b:Nat} (h:Fr (only b) w w') (o:Nat) (x:Value):Fr (only b) w (w'.setCell ⟨b,o,none⟩ x):=h.setCell (p:=⟨b,o,none⟩) (.inl rfl) x
theorem Z4G (w:World) (o p:Obj):Below w.heap.size w ((w.alloc o).alloc p):=((Vae w.heap.size w).alloc UZz _).alloc (by simp) _
theorem Z7q {w:World} {b o:Nat} {vs:List Value} (h:At w (some ⟨b,o,none⟩) vs) (k:Nat):At w (some ⟨b,o+k,none⟩) (vs.drop k):=λi hi=>by
 rw[Va2] at hi;obtain⟨b',o',h1,h2,h3⟩:=h (k+i) (by omega);injection h1 with h1;injection h1 with h1 h4;subst h1;subst h4;exact⟨b,o+k,rfl,h2,by rw[Vcx,Vc6];exact h3⟩
theorem Z7r {w:World} {A:Option Addr} {vs:List Value} (h:At w A vs) (k:Nat):At w A (vs.take k):=λi hi=>by
 rw[Vau] at hi;obtain⟨b,o,h1,h2,h3⟩:=h i (by omega);exact⟨b,o,h1,h2,by rw[List.getElem_take];exact h3⟩
theorem Zb1 {w:World} {A:Option Addr} {vs:List Value} {b:Nat} {T:TypeId} {cs:Array Value} (h:At w A vs) (hk:Bk w b T cs) (hn:∀v∈vs,v∉cs.toList) (k:Nat) (x:Value):At (w.setCell ⟨b,k,none⟩ x) A vs:=by
 intro i hi;obtain⟨b',o,hA,hb,hc⟩:=h i hi
 have az:b'≠b:=by
  rintro rfl;have h2:=hk.cell (o+i);rw[hc] at h2
  exact hn _ (Vak hi) (by
   have h3:cs.toList[o+i]? =some vs[i]:=(by simpa using h2.symm);exact List.mem_of_getElem? h3)
 refine⟨b',o,hA,by simpa using hb,?_⟩;exact((Fr.refl (λj=>j=b) w).setCell (p:=⟨b,k,none⟩) (.inl rfl) x).cell (p:=⟨b',_,none⟩) hb az|>.trans hc
theorem ZhO {w w':World} {A:Option Addr} {vs:List Value} {b:Nat} {T:TypeId} {cs:Array Value} (h:At w A vs) (hk:Bk w b T cs) (hn:∀v∈vs,v∉cs.toList) (hf:Fr (only b) w w'):At w' A vs:=by
 intro i hi;obtain⟨b',o,hA,hb,hc⟩:=h i hi
 have az:b'≠b:=by
  rintro rfl;have h2:=hk.cell (o+i);rw[hc] at h2
  exact hn _ (Vak hi) (by
   have h3:cs.toList[o+i]? =some vs[i]:=(by simpa using h2.symm);exact List.mem_of_getElem? h3)
 exact⟨b',o,hA,Va5 hb hf.size,(hf.cell (p:=⟨b',_,none⟩) hb az).trans hc⟩
def NV (w:World) (v:Value) (n:Num):Prop:=∃A cap,v=.agg #[.bool n.neg,.slice A n.dg.length cap,.int .i64 n.ex]/\At w A (n.dg.map bv)/\n.dg.length<=cap/\cap<=maxLen
theorem NV.below {w w':World} {v:Value} {n:Num} (h:NV w v n) (hb:Below w.heap.size w w'):NV w' v n:=by
 obtain⟨A,cap,h1,h2,h3,h4⟩:=h;exact⟨A,cap,h1,h2.below hb,h3,h4⟩
structure Sz (n:Num):Prop where
 lo: -2000000<=n.ex
 hi:n.ex<=2000000
 len:n.dg.length<=100000
theorem Z8E (b:Bool) (A:Option Addr) (L cap:Nat) (e:Int) (s1: -2000000<=e) (s2:e<=2000000) (s3:L<=100000) (w:World):
  Calls Tryz.prog 197 #[.agg #[.bool b,.slice A L cap,.int .i64 e]] w λx w'=>x=.returned (.int .i64 (e+L-1))/\Below w.heap.size w w':=by
 go_enter Tryz.func197,Tryz.ntmps197;go_wp2;go_returns;exact⟨rfl,(Vae w.heap.size w).alloc UZz _⟩
def TwoN (w0 W:World) (x y:Nat) (ca cb:Array Value):Prop:=Bk W x 197 ca/\Bk W y 197 cb/\Below w0.heap.size w0 W
theorem TwoN.below {w0 W W':World} {x y:Nat} {ca cb:Array Value} (h:TwoN w0 W x y ca cb) (hb:Below W.heap.size W W'):TwoN w0 W' x y ca cb:=
 ⟨Bk.below h.1 hb (Bk.lt h.1),Bk.below h.2.1 hb (Bk.lt h.2.1),h.2.2.trans (hb.mono h.2.2.size)⟩
def Tab (w:World):Prop:=∀W,Below w.heap.size w W->Lib.TabIs Tryz.prog W "internal/strconv.uint64pow10" .u64 Lib.pow10Tab
theorem Tab.below {w w':World} (h:Tab w) (hb:Below w.heap.size w w'):Tab w':=λw2 h2=>h w2 (hb.trans (h2.mono hb.size))
theorem QE (n:Nat):Lib.decDigits n=decN n:=by
 induction n using Nat.strongRecOn with
 |ind n ih=>
  rw[Lib.decDigits,decN];split
  ·rfl
  ·rw[ih (n/10) (by omega)]
theorem Zb2 (n:Int):Lib.itoa n=decZ n:=by
 unfold Lib.itoa decZ;split
 ·rw[QE,show n.natAbs=(-n).toNat by omega]
 ·rw[QE]
theorem Zb3 {w:World} (ht:Tab w) (n:Int) (h0: -9223372036854775808<=n) (h1:n<=9223372036854775807):
  Calls Tryz.prog 198 #[.int .i64 n] w λx w'=>x=.returned (.string (bs (decZ n)))/\Below w.heap.size w w':=by
 refine(Tryz.strconv_Itoa n h0 h1 w (ht w (Vae _ _))).mono ?_;rintro x w' ⟨rfl,k,os,rfl⟩;refine⟨Z3B (by rw[Zb2];rfl),?_⟩;have h1:=bdN (Vae w.heap.size w) k;refine⟨h1.os,h1.tape,h1.output,?_,λj hj=> ?_⟩
 ·show w.heap.size<=(w.heap++os).size;rw[Array.size_append];omega
 ·show(w.heap++os)[j]? =w.heap[j]?;rw[Array.getElem?_append_left hj]
end Go.Proofs.YtchokmkfobandaaGreatDoor
