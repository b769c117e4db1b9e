import Derived.Test.YtikecoijpkmnbaaGreatDoorJ08
import Derived.Lib.BytesEntry
import Derived.Laws.Externs
import Derived.Lib.Bytealg
set_option linter.all false
set_option maxRecDepth 100000
set_option maxHeartbeats 0
open Go.Proofs.Tryz (prog)
section
variable{P Q:Prop}
theorem po(h:P:=by cases h):P:=h
theorem D8(h:P:=by rw[<-hE];rfl):P:=h
theorem W4E(h:P:=by rw[h.k.2];decide):P:=h
theorem Jo(h:P:=by have:=c.toNat_lt;omega):P:=h
theorem Rf(h:P:=by show(List.set _ _ _).length=8;rw[od];exact h.bl):P:=h
theorem Oe(h:P:=by rintro rfl;have h2:=Q.cell (o+i);rw[g] at h2;exact F _ (dt hi) (by have a7:cs.toList[o+i]? =some vs[i]:=(by simpa using h2.symm);exact List.mem_of_getElem? a7)):P:=h
end
namespace Wv
section
variable{f:ax->Nat}{s:ax}
def mR (c:cj):Bool:=decide (48<=c.toNat)&&decide (c.toNat<=57)
def dv (c:cj):Nat:=c.toNat-48
def vd (l:ax):Nat:=l.foldl (λa c=>10*a+dv c) 0
def sM (l:ax):Prop:=∀c∈l,mR c=true
structure gL where
 neg:Bool
 dg:List UInt8
 ex:Int
def kC (l:ax):ax:=l.dropWhile (· ==48)
def YE (l:ax):ax:=(kC l.reverse).reverse
def wq:gL:=⟨false,[],0⟩
def Xw (n:gL):gL:=
 if YE (kC n.dg)=[] then wq else⟨n.neg,YE (kC n.dg),n.ex+((kC n.dg).length-(YE (kC n.dg)).length:Nat)⟩
def Qv (n:gL):Int:=n.ex+n.dg.length-1
structure Ef (n:gL):Prop where
 all:sM n.dg
 front:n.dg.head?≠some 48
 back:n.dg.getLast?≠some 48
 zero:n.dg=[]->n.neg=false/\n.ex=0
def sg (b:Bool):Int:=if b then-1 else 1
def V (K:Nat) (n:gL):Int:=sg n.neg*((vd n.dg*10 ^ (n.ex+K).toNat:Nat):Int)
theorem Zqj (l:ax):∀a,l.foldl (λa c=>10*a+dv c) a=a*10 ^ l.length+vd l:=by
 induction l with
 |nil=>simp[vd]
 |cons c t ih=>
  have h1:vd (c::t)=dv c*10 ^ t.length+vd t:=by show(c::t).foldl _ 0=_;grind
  grind
theorem Zh0 (l r:ax):vd (l++r)=vd l*10 ^ r.length+vd r:=by show(l++r).foldl _ 0=_;rw[rk];exact Zqj r (vd l)
theorem Z7w (l:ax):∀c∈kC l,c∈l:=λc h=>(List.dropWhile_suffix _).subset h
theorem Sk (l:ax):(kC l).head?≠some 48:=by
 induction l with
 |nil=>simp[kC]
 |cons c t ih=>unfold kC at ih⊢;rw[List.dropWhile_cons];grind
theorem Ka (l:ax):(kC l)<=l.length:=(List.dropWhile_suffix _).length_le
theorem UU (l:ax):∃k,l=YE l++List.replicate k 48:=by
 unfold YE kC;have h1:=List.takeWhile_append_dropWhile (p:=(· ==48)) (l:=l.reverse);have g:l=(l.reverse.dropWhile (· ==48)).reverse++(l.reverse.takeWhile (· ==48)).reverse:=aO;have q:l.reverse.takeWhile (· ==48)=List.replicate (l.reverse.takeWhile (· ==48)).length 48:=by rw[List.eq_replicate_iff];have:=List.all_takeWhile (p:=(· ==48)) (l:=l.reverse);grind
 grind
theorem UT (l:ax):(YE l)<=l.length:=by unfold YE;have:=Ka l.reverse;grind
theorem Zcj (l:ax):(YE l).getLast?≠some 48:=by unfold YE;rw[List.getLast?_reverse];exact Sk _
theorem ZgG (l:ax):∀c∈YE l,c∈l:=λc h=>by have:=Z7w _ c (List.mem_reverse.1 h);grind
theorem Zck {l:ax} (h:l.head?≠some 48):(YE l).head?≠some 48:=by obtain⟨k,g⟩:=UU l;grind
theorem Z99 {n:gL} (h:sM n.dg):Ef (Xw n):=by unfold Xw;split;exact⟨by intro c hc;simp[wq] at hc,by simp[wq],by simp[wq],λ_=>⟨rfl,rfl⟩⟩;rename_i h0;exact⟨λc hc=>h c (Z7w _ c (ZgG _ c hc)),Zck (Sk _),Zcj _,λe=>absurd e h0⟩
theorem Z43 {n:gL} (h:Ef n):Xw n=n:=by
 obtain⟨b,d,e⟩:=n;have q:=h.front;have hb:=h.back
 have h1:kC d=d:=by
  unfold kC;match d with
  |[]=>rfl
  |c::t=>rw[List.dropWhile_cons,Vae aO]
 have l:YE d=d:=by
  unfold YE kC
  have:d.reverse.dropWhile (· ==48)=d.reverse:=by
   match hd:d.reverse with
   |[]=>rfl
   |c::t=>have p:d.getLast? =some c:=nk;rw[List.dropWhile_cons,Vae aO]
  grind
 unfold Xw;simp only[h1,l];by_cases h0:d=[];obtain⟨g,k⟩:=h.zero h0;simp only at g k;rw[Vag h0,g,k,h0];rfl;grind
def qf (n:Nat):ax:=if h:n<10 then[UInt8.ofNat (48+n)] else qf (n/10)++[UInt8.ofNat (48+n % 10)]
termination_by n
decreasing_by omega
def kd (n:Int):ax:=if n<0 then 45::qf (-n).toNat else qf n.toNat
theorem Hy {d:Nat} (h:d<10):mR (UInt8.ofNat (48+d))=true/\dv (UInt8.ofNat (48+d))=d:=by have:(UInt8.ofNat (48+d)).toNat=48+d:=fj;unfold mR dv;grind
theorem Zle (c:cj):vd [c]=dv c:=by simp[vd]
theorem KF (n:Nat):sM (qf n):=by
 induction n using Nat.strongRecOn with
 |ind n ih=>
  rw[qf];split;.rename_i h;intro c hc;rw[jv] at hc;rw[hc];exact(Hy h).1
  intro c hc;rcases lc.1 hc with h1|h1;exact ih (n/10) O c h1;rw[jv] at h1;rw[h1];exact(Hy O).1
theorem N_ (n:Nat):vd (qf n)=n:=by
 induction n using Nat.strongRecOn with
 |ind n ih=>
  rw[qf];split;.rename_i h;rw[Zle];exact(Hy h).2
  rw[Zh0,ih (n/10) O];have:=(Hy (d:=n % 10) O).2;have e:vd [UInt8.ofNat (48+n % 10)]=n % 10:=by rw[Zle,this]
  grind
theorem WT (n:Nat):qf n≠[]:=by rw[qf];split<;>simp
theorem QY {n k:Nat} (g:0<k) (h:n<10 ^ k):(qf n)<=k:=by
 induction k generalizing n with
 |zero=>exact O
 |succ k ih=>rw[qf];grind
def Xs (n:gL):ax×Nat:=
 if n.dg=[] then([48],0)
 else if 17<n.dg.length\/Qv n< -400\/400<Qv n then([],9)
 else((if n.neg then[45] else[])++n.dg.take 1++(if 1<n.dg.length then 46::n.dg.drop 1 else[])++101::kd (Qv n),0)
def lD:ax->Bool×ax
 |[]=>(false,[])
 |c::t=>if c=45 then(true,t) else if c=43 then(false,t) else(false,c::t)
def eQ (s:ax):ax:=s.takeWhile mR
def qQ (s:ax):ax:=s.dropWhile mR
def xT:ax->Option (ax×ax)
 |[]=>some ([],[])
 |c::t=>if c=46 then(if eQ t=[] then none else some (eQ t,qQ t)) else some ([],c::t)
def xO (f:ax->Nat):ax->Option (Int×ax)
 |[]=>some (0,[])
 |c::t=>if c=101\/c=69 then(if eQ (lD t).2=[] then none else some (sg (lD t).1*(f (eQ (lD t).2):Int),qQ (lD t).2)) else some (0,c::t)
def qq (f:ax->Nat) (s:ax):Option gL:=
 if 64<s.length then none else if eQ (lD s).2=[] then none else
 match xT (qQ (lD s).2) with
 |none=>none
 |some x=>match xO f x.2 with
  |none=>none
  |some y=>if y.2=[] then some ⟨(lD s).1,eQ (lD s).2++x.1,y.1-x.1.length⟩ else none
def kP (p:ax):Nat:=p.foldl (λe c=>min 1048576 (10*e+dv c)) 0
theorem ZoP (cap:Nat) (p:ax):∀a,p.foldl (λe c=>min cap (10*e+dv c)) (min cap a)=min cap (p.foldl (λe c=>10*e+dv c) a):=by
 induction p with
 |nil=>exact aO
 |cons c t ih=>intro a;rw[List.foldl_cons,List.foldl_cons,<-ih];congr 1;omega
theorem V_ (p:ax):kP p=min 1048576 (vd p):=by have:=ZoP 1048576 p 0;simpa [kP,vd] using this
theorem JX {d r:ax} (hd:sM d) (g:∀c t,r=c::t->mR c=false):eQ (d++r)=d/\qQ (d++r)=r:=by
 unfold eQ qQ;induction d with
 |nil=>
  match r with
  |[]=>exact⟨rfl,rfl⟩
  |c::t=>have:=g c t rfl;simp[List.takeWhile_cons,List.dropWhile_cons,this]
 |cons c d ih=>have h1:=hd c fi;obtain⟨a,b⟩:=ih (λx k=>hd x (gM _ k));rw[jw,List.takeWhile_cons,List.dropWhile_cons,Vag h1,Vag h1,a,b];grind
theorem GN (s:ax):sM (eQ s):=λc h=>by have:=List.all_takeWhile (p:=mR) (l:=s);rw[uI] at this;exact this c h
theorem FW (c:cj) (t:ax):xT (c::t)=if c=46 then(if eQ t=[] then none else some (eQ t,qQ t)) else some ([],c::t):=rfl
theorem KO (c:cj) (t:ax):lD (c::t)=if c=45 then(true,t) else if c=43 then(false,t) else(false,c::t):=rfl
theorem Ub (f:ax->Nat) (c:cj) (t:ax):xO f (c::t)=if c=101\/c=69 then(if eQ (lD t).2=[] then none else some (sg (lD t).1*(f (eQ (lD t).2):Int),qQ (lD t).2)) else some (0,c::t):=rfl
theorem UG {c:cj} {t:ax} (h:mR c=true):lD (c::t)=(false,c::t):=by rw[KO];unfold mR at h;have h1:c≠45:=λe=>nk;have g:c≠43:=λe=>nk;grind
theorem ZjS (E:Int):lD (kd E)=(decide (E<0),qf E.natAbs):=by
 unfold kd;by_cases h:E<0;have:(-E).toNat=E.natAbs:=O;rw[this];simp[lD,h];rw[Vae h];have:E.toNat=E.natAbs:=O;rw[this];match hd:qf E.natAbs with
 |[]=>exact absurd hd (WT _)
 |c::t=>have:=KF E.natAbs c aO;rw[UG this];simp[h]
theorem ZjR {m:gL} (hm:sM m.dg) (h0:m.dg≠[]) (xv:m.dg.length<=17) (OL: -400<=Qv m) (vD:Qv m<=400) (hf:∀p,sM p->vd p<=400->f p=vd p):
  qq f ((if m.neg then[45] else[])++m.dg.take 1++(if 1<m.dg.length then 46::m.dg.drop 1 else[])++101::kd (Qv m))=some m:=by
 obtain⟨b,d,e⟩:=m;simp only at hm h0 xv;obtain⟨E,hE⟩:=ay (Qv ⟨b,d,e⟩);rw[hE] at OL vD;rw[hE];have Kl:E=e+d.length-1:=D8;match d,h0 with
 |c::t,_=>
  simp only[List.take_succ_cons,qA,List.drop_succ_cons,Ch];obtain⟨R,hR⟩:=ay (((if 1<(c::t).length then 46::t else[])++101::kd E:ax));have hc:=hm c fi;have ht:sM t:=λx hx=>hm x (gM _ hx);have es:(if b then[45] else[])++[c]++(if 1<(c::t).length then 46::t else[])++101::kd E=(if b then[45] else[])++(c::R):=aO;simp only[es];have hs:lD ((if b then[45] else[])++(c::R))=(b,c::R):=by cases b;simpa using UG (t:=R) hc;rfl
  have qJ:∀x y,R=x::y->mR x=false:=by intro x y h;rw[<-hR] at h;split at h;injection h with h1 _;rw[<-h1];decide;injection h with h1 _;rw[<-h1];decide
  obtain⟨q1,q2⟩:=JX (d:=[c]) (r:=R) (λx hx=>by rw[jv] at hx;rw[hx];exact hc) qJ
  have hlen:((if b then[45] else[])++(c::R)).length<=64:=by
   have hz:(kd E).length<=4:=by unfold kd;split;have:=QY (n:=(-E).toNat) (k:=3) O O;rw[gd];omega;have:=QY (n:=E.toNat) (k:=3) O O;omega
   have h2:(if b then[(45:cj)] else[]).length<=1:=(by cases b<;>simp);have h3:(if 1<(c::t).length then(46::t:ax) else[]).length<=t.length+1:=(by split<;>simp);rw[Vab,gd,<-hR,Vab];rw[gd] at xv;have h4:(101::kd E).length=(kd E).length+1:=rfl;omega
  have hx:xO f (101::kd E)=some (E,[]):=by
   rw[Ub,Vag (.inl rfl),ZjS];obtain⟨a1,a2⟩:=JX (d:=qf E.natAbs) (r:=[]) (KF _) (λ_ _ h=>po);rw[fg] at a1 a2;simp only[a1,a2];rw[Vae (WT _),hf _ (KF _) (by rw[N_];omega),N_];congr 2;unfold sg;split;.rename_i h;simp at h;omega
   rename_i h;simp at h;omega
  have dp:xT R=some (t,101::kd E):=by rw[<-hR];by_cases h1:1<(c::t).length;rw[Vag h1];obtain⟨a1,a2⟩:=JX (d:=t) (r:=101::kd E) ht (λx y h=>by injection h with h _;rw[<-h];decide);rw[jw,FW,Vag rfl,a1,a2,Vae (by intro h;rw[h] at h1;simp at h1)];rw[Vae h1];have:t=[]:=ia (by rw[gd] at h1;omega);subst this;rw[pU,FW,Vae aY]
  unfold qq;rw[Vae O,hs];simp only;have q1':eQ (c::R)=[c]:=q1;have q2':qQ (c::R)=R:=q2;rw[q1',q2',Vae (by simp),dp];simp only;rw[hx];simp only[if_true];congr 1;rw[gd] at Kl;simp;omega
structure Ei (n:gL):Prop where
 canon:Ef n
 len:n.dg.length<=17
 lo:n.dg≠[]->-400<=Qv n
 hi:n.dg≠[]->Qv n<=400
theorem Zba {n:gL} (h:Ef n) (h0:(Xs n).2=0):Ei n:=by
 unfold Xs at h0;split at h0;.rename_i hz;exact⟨h,aO,λe=>absurd hz e,λe=>absurd hz e⟩
 split at h0;exact O;exact⟨h,O,λ_=>O,λ_=>O⟩
theorem Zmi {n:gL} (h:Ei n):(Xs n).2=0:=by unfold Xs;split;rfl;rename_i h0;have a:=h.lo h0;have b:=h.hi h0;have c:=h.len;grind
theorem Zg0 (l:∀p,sM p->vd p<=400->f p=vd p) {n:gL} (h:Ei n):∃m,qq f (Xs n).1=some m/\Xw m=n:=by
 by_cases h0:n.dg=[]
 .have q:n=wq:=by obtain⟨g,k⟩:=h.canon.zero h0;obtain⟨b,d,e⟩:=n;simp only at g k h0;rw[g,k,h0];rfl
  subst q;exact⟨⟨false,[48],0⟩,rfl,rfl⟩
 have e:(Xs n).1=(if n.neg then[45] else[])++n.dg.take 1++(if 1<n.dg.length then 46::n.dg.drop 1 else[])++101::kd (Qv n):=by have a:=h.lo h0;have b:=h.hi h0;have c:=h.len;unfold Xs;grind
 rw[e];exact⟨n,ZjR h.canon.all h0 h.len (h.lo h0) (h.hi h0) l,Z43 h.canon⟩
theorem ZoO (p:ax) (h:vd p<=400):kP p=vd p:=by rw[V_];omega
theorem GO (s:ax):(eQ s)<=s.length:=(List.takeWhile_prefix _).length_le
theorem Zll (s:ax):(qQ s)<=s.length:=(List.dropWhile_suffix _).length_le
theorem Znx (s:ax):(lD s).2<=s.length:=by
 match s with
 |[]=>simp[lD]
 |c::t=>rw[KO];split;simp;grind
theorem ZiE {x:ax×ax} (h:xT s=some x):x.1<=s.length/\sM x.1:=by
 match s,h with
 |[],h=>injection h with h;subst h;exact⟨by simp,by intro c g;simp at g⟩
 |c::t,h=>rw[FW] at h;split at h;split at h;exact aO;injection h with h;subst h;have:=GO t;exact⟨aO,GN t⟩;injection h with h;subst h;exact⟨by simp,by intro c g;simp at g⟩
theorem Zg1 {n:gL} (h:qq f s=some n):sM n.dg/\n.dg.length<=128/\n.dg≠[]/\s.length<=64:=by
 unfold qq at h;split at h;exact aO;split at h;exact aO
 match hf:xT (qQ (lD s).2),h with
 |none,h=>cases h
 |some x,h=>
  simp only at h;obtain⟨k,l2⟩:=ZiE hf;match hx:xO f x.2,h with
  |none,h=>cases h
  |some y,h=>
   simp only at h;split at h;.injection h with h;subst h;have a1:=Znx s;have a2:=GO (lD s).2;have a3:=Zll (lD s).2;refine⟨λc g=> ?_,?_,?_,O⟩;rcases lc.1 g with h1|h1;exact GN _ c h1;exact l2 c h1;exact aO;simp_all
   grind
def tj (s:ax):Option gL:=match qq kP s with
 |none=>none
 |some m=>if Xs (Xw m)=(s,0) then some (Xw m) else none
theorem ZhI {n:gL} :tj s=some n↔Ei n/\s=(Xs n).1:=by
 constructor
 .intro h;unfold tj at h;match g:qq kP s,h with
  |none,h=>cases h
  |some m,h=>simp only at h;split at h;injection h with h;subst h;exact⟨Zba (Z99 (Zg1 g).1) aO,aO⟩;grind
 rintro⟨h1,rfl⟩;obtain⟨m,k,l⟩:=Zg0 (f:=kP) (λp _ h=>ZoO p h) h1;unfold tj;have e:Xs n=((Xs n).1,0):=Prod.ext rfl (Zmi h1);grind
def Mg (K:Nat) (n:gL):Nat:=vd n.dg*10 ^ (n.ex+K).toNat
def W (n:gL):Int:=V 1000 n
def zs (k:Nat):ax:=List.replicate k 48
def cU (n:gL):ax:=
 if 0<=n.ex then n.dg++zs n.ex.toNat
 else if 0<Qv n+1 then n.dg.take (Qv n+1).toNat++46::n.dg.drop (Qv n+1).toNat
 else 48::46::(zs (-(Qv n+1)).toNat++n.dg)
def Ax (n:Nat) (a:gL):Nat:=vd a.dg*10 ^ (a.ex+n).toNat
section
variable {x y z:gL}
end
end
section
variable{d i:Nat}{s:ax}
def so (s:ax) (i j:Nat):Nat->Nat->Nat
 |n,0=>n
 |n,k+1=>if s.getD (i+n) 0=s.getD (j+n) 0 then so s i j (n+1) k else n
def oM (s:ax) (i j most:Nat):Nat:=so s i j 0 most
theorem T4 (s:ax) (i j:Nat):∀k n,(∀t,t<n->s.getD (i+t) 0=s.getD (j+t) 0)->n<=so s i j n k/\so s i j n k<=n+k/\∀t,t<so s i j n k->s.getD (i+t) 0=s.getD (j+t) 0:=by
 intro k;induction k with
 |zero=>intro n h;exact⟨aU,aU,h⟩
 |succ k ih=>unfold so;grind
theorem L' (s:ax) (i j most:Nat):oM s i j most<=most:=by have:=(T4 s i j most 0 (λt h=>O)).2.1;unfold oM;omega
theorem ZoQ (s:ax) (i j most:Nat):∀t,t<oM s i j most->s.getD (i+t) 0=s.getD (j+t) 0:=(T4 s i j most 0 (λt h=>O)).2.2
def pB (s:ax) (i most:Nat):Nat->Nat->List (Nat×Nat)->List (Nat×Nat)
 |0,_,o=>o
 |p+1,b,o=>if 4096<i-p\/most<=b then o
  else if s.getD (p+b) 0≠s.getD (i+b) 0 then pB s i most p b o
  else if b<oM s p i most then pB s i most p (oM s p i most) (o++[(oM s p i most,i-p)]) else pB s i most p b o
def XV (s:ax) (i:Nat):Nat:=min 273 (s.length-i)
def rD (s:ax) (i:Nat):List (Nat×Nat):=pB s i (XV s i) i 1 []
def Hz (s:ax) (i:Nat) (c:Nat×Nat):Prop:=2<=c.1/\c.1<=XV s i/\1<=c.2/\c.2<=i/\c.2<=4096/\∀t,t<c.1->s.getD (i-c.2+t) 0=s.getD (i+t) 0
theorem Zox (s:ax) (i:Nat):∀p b o,p<=i->1<=b->(∀c∈o,Hz s i c)->(∀c∈o,c.1<=b)->o.Pairwise (λx y=>x.1<y.1)->
  (∀c∈pB s i (XV s i) p b o,Hz s i c)/\(pB s i (XV s i) p b o).Pairwise (λx y=>x.1<y.1):=by
 intro p;induction p with
 |zero=>intro b o _ _ h _ hp;exact⟨h,hp⟩
 |succ p ih=>
  intro b o hpi hb h hm hp;unfold pB;split;exact aO;rename_i hg;split;exact aO;split
  .rename_i hn;have bY:Hz s i (oM s p i (XV s i),i-p):=by refine⟨dz,L' _ _ _ _,dz,dz,dz,λt ht=> ?_⟩;have:=ZoQ s p i (XV s i) t ht;rw[<-this];congr 1;exact dz
   refine ih _ _ O O (λc hc=> ?_) (λc hc=> ?_) ?_;rcases lc.1 hc with hc|hc;exact h c hc;rw[jv.1 hc];exact bY;rcases lc.1 hc with hc|hc;have:=hm c hc;omega;rw[jv.1 hc];exact aU;rw[List.pairwise_append];refine⟨hp,by simp,λx hx y hy=> ?_⟩;rw[jv.1 hy];have:=hm x hx;exact dz
  grind
theorem K9 (s:ax) (i:Nat):(∀c∈rD s i,Hz s i c)/\(rD s i).Pairwise (λx y=>x.1<y.1):=
 Zox s i i 1 [] aU aU (λc g=>aO) (λc g=>aO) .nil
structure Pc where
 len:Nat
 dist:Nat
 byte:UInt8
deriving Inhabited,DecidableEq
structure St where
 cost:Nat
 pcs:Nat
 first:Pc
deriving Inhabited
def dU:St:=⟨0,0,⟨0,0,0⟩⟩
def price (p:Pc):Nat:=if p.dist=0 then 9 else 12+eO p.dist+eO p.len
def sq (hi lo d:Nat):List Pc:=(List.range (hi-lo)).map (λt=>⟨hi-t,d,0⟩)
def ui:List (Nat×Nat)->List Pc
 |[]=>[]
 |[c]=>sq c.1 1 c.2
 |c::g::r=>sq c.1 g.1 c.2++ui (g::r)
def zG (tb:List St) (p:Pc):St:=⟨(tb.getD (p.len-1) dU).cost+price p,(tb.getD (p.len-1) dU).pcs+1,p⟩
def DS (x c:St):Bool:=decide (x.cost<c.cost)||(decide (x.cost=c.cost)&&decide (x.pcs<c.pcs))
def kY (tb:List St) (c:Option St) (p:Pc):Option St:=match c with
 |none=>some (zG tb p)
 |some c=>if DS (zG tb p) c=true then some (zG tb p) else some c
def vu (s:ax) (i:Nat):Pc:=⟨1,0,s.getD i 0⟩
def vi (s:ax) (i:Nat):List Pc:=ui (rD s i).reverse++[vu s i]
def xy (s:ax) (i:Nat) (tb:List St):St:=((vi s i).foldl (kY tb) none).getD dU
def pL (s:ax):Nat->List St
 |0=>[dU]
 |k+1=>xy s (s.length-1-k) (pL s k)::pL s k
theorem M_ (s:ax) (k:Nat):(pL s k)=k+1:=by
 induction k with
 |zero=>rfl
 |succ k ih=>simp[pL,ih]
def qL (s:ax):List St:=pL s s
def ss (s:ax):Nat->Nat->List Pc
 |0,_=>[]
 |f+1,i=>if i<s then((qL s).getD i dU).first::ss s f (i+((qL s).getD i dU).first.len) else[]
def parse (s:ax):List Pc:=ss s s 0
def rR (s:ax) (i:Nat) (p:Pc):Prop:=(p.dist=0/\p.len=1/\p.byte=s.getD i 0/\i<s)\/
 (1<=p.dist/\p.dist<=i/\p.dist<=4096/\2<=p.len/\p.len<=273/\i+p.len<=s/\p.byte=0/\∀t,t<p.len->s.getD (i-p.dist+t) 0=s.getD (i+t) 0)
theorem Va {hi lo:Nat} {p:Pc} (h:p∈sq hi lo d):lo<p.len/\p.len<=hi/\p.dist=d/\p.byte=0:=by obtain⟨t,g,rfl⟩:=Vbm.1 h;grind
theorem UR:∀(l:List (Nat×Nat)) (p:Pc),(∀c∈l,2<=c.1)->p∈ui l->∃c∈l,2<=p.len/\p.len<=c.1/\p.dist=c.2/\p.byte=0
 |[],p,_,h=>po
 |[c],p,_,h=>by obtain⟨a,b,d,e⟩:=Va h;grind
 |c::g::r,p,hl,h=>by rcases lc.1 h with h|h;obtain⟨a,b,d,e⟩:=Va h;grind;obtain⟨x,q,y⟩:=UR (g::r) p (λz k=>hl z (gM _ k)) h;grind
theorem V0 (hi:i<s):∀p∈vi s i,rR s i p:=by intro p g;rcases lc.1 g with g|g;obtain⟨c,k,h1,q,u,l⟩:=UR _ p (λc k=>((K9 s i).1 c (List.mem_reverse.1 k)).1) g;obtain⟨k1,k2,k3,B,D,E⟩:=(K9 s i).1 c (List.mem_reverse.1 k);have y:XV s i<=273/\XV s i<=s.length-i:=⟨Nat.min_le_left _ _,Nat.min_le_right _ _⟩;exact .inr ⟨O,O,O,h1,O,O,l,λt z=>aO⟩;rw[jv.1 g];exact .inl ⟨rfl,rfl,rfl,hi⟩
theorem Zbi (tb:List St):∀(l:List Pc) (c:Option St),(∀x,c=some x->∃p,p=x.first)->∀x,l.foldl (kY tb) c=some x->(c=some x)\/x.first∈l:=by
 intro l;induction l with
 |nil=>exact aO
 |cons p r ih=>intro c g x h;rcases ih (kY tb c p) (λx _=>⟨_,rfl⟩) x h with h1|h1;unfold kY at h1;rcases c with _|c;simp only at h1;injection h1 with h1;exact .inr (by rw[<-h1];exact fi);simp only at h1;split at h1;injection h1 with h1;exact .inr (by rw[<-h1];exact fi);grind;grind
theorem F8 (tb:List St) (c:Option St) (p:Pc):∃x,kY tb c p=some x:=by unfold kY;rcases c with _|c;exact aO;simp only;split<;>exact⟨_,rfl⟩
theorem ZcH (hi:i<s) (tb:List St):rR s i (xy s i tb).first:=by
 have g:∃x,(vi s i).foldl (kY tb) none=some x:=by unfold vi;rw[rk];exact F8 _ _ _
 obtain⟨x,g⟩:=g;have:=Zbi tb (vi s i) none (λx h=>aO) x g;unfold xy;rw[g];rcases this with h|h;exact aO;exact V0 hi _ h
theorem Zq6 (s:ax) (k:Nat) (l:k<=s):∀j,j<k->(pL s k).getD j dU=xy s (s.length-k+j) (pL s (k-1-j)):=by
 induction k with
 |zero=>exact O
 |succ k ih=>
  intro j g;cases j with
  |zero=>show xy s (s.length-1-k) (pL s k)=_;grind
  |succ j=>show(pL s k).getD j dU=_;grind
theorem Vs (hi:i<s):rR s i ((qL s).getD i dU).first:=by unfold qL;rw[Zq6 s s aU i hi];have:=ZcH (s:=s) (i:=s.length-s.length+i) O (pL s (s.length-1-i));grind
theorem rR.pos {p:Pc} (h:rR s i p):1<=p.len/\i+p.len<=s:=by rcases h with ⟨_,k,_,g⟩|⟨_,_,_,g,_,l,_⟩<;>omega
/-! ## What the pieces give -/
def QD (d:Nat):Nat->ax->ax
 |0,o=>o
 |n+1,o=>QD d n (o++[o.getD (o.length-d) 0])
def app (o:ax) (p:Pc):ax:=if p.dist=0 then o++[p.byte] else QD p.dist p.len o
theorem Zgt (h:i<s):s.take (i+1)=s.take i++[s.getD i 0]:=nk
theorem Zdg (hd:1<=d):∀n i,d<=i->i+n<=s.length->(∀t,t<n->s.getD (i-d+t) 0=s.getD (i+t) 0)->QD d n (s.take i)=s.take (i+n):=by
 intro n;induction n with
 |zero=>intro i _ _ _;rfl
 |succ n ih=>
  intro i h1 l g;have e:(s.take i).getD ((s.take i).length-d) 0=s.getD i 0:=by have k:(s.take i).length=i:=aO;rw[k];have:=g 0 O;grind
  show QD d n (s.take i++[(s.take i).getD ((s.take i).length-d) 0])=_;rw[e,<-Zgt (show i<s.length by omega),ih (i+1) O O (λt p=>by have:=g (t+1) O;rw[show i+1-d+t=i-d+(t+1) by omega,show i+1+t=i+(t+1) by omega];exact this)];grind
theorem Zok {p:Pc} (h:rR s i p):app (s.take i) p=s.take (i+p.len):=by unfold app;rcases h with ⟨h1,g,k,l⟩|⟨h1,g,k,l,u,q,y,t⟩;exact nk;rw[Vae O,Zdg h1 _ _ g q t]
inductive tL (s:List UInt8):Nat->List Pc->Prop
 |done:tL s s.length []
 |step {i:Nat} {p:Pc} {l:List Pc} (h:rR s i p) (r:tL s (i+p.len) l):tL s i (p::l)
theorem Z59 (s:ax):∀f i,i<=s.length->s.length<=i+f->tL s i (ss s f i):=by
 intro f;induction f with
 |zero=>intro i h1 h2;have:i=s.length:=O;subst this;exact .done
 |succ f ih=>
  intro i h1 h2;unfold ss;split;.rename_i h;have hp:=Vs h;have:=hp.pos;exact .step hp (ih _ O O)
  have:i=s.length:=O;subst this;exact .done
theorem QL (s:ax):tL s 0 (parse s):=Z59 s s 0 (cf _) O
end
variable{b v:Nat}{c:cj}{s t:ax}
structure Ms where
 kind:List Nat
 bytes:List (List Nat)
 last:UInt8
 len:List Nat
 dist:List Nat
def wF (n:Nat):List Nat:=List.replicate (2 ^ n) 1024
def m0:Ms:=⟨wF 1,List.replicate 8 (wF 8),0,t0,t0⟩
def Z1p (m:Ms):List Nat:=m.bytes.getD (m.last.toNat/32) []
def gx (b:Nat) (x:Ms×En):Ms×En:=({ x.1 with kind:=(fM 1 b 1 x.1.kind x.2).1 },(fM 1 b 1 x.1.kind x.2).2)
def rB (c:cj) (x:Ms×En):Ms×En:=({ x.1 with bytes:=x.1.bytes.set (x.1.last.toNat/32) (fM 8 c.toNat 1 (Z1p x.1) x.2).1,last:=c },(fM 8 c.toNat 1 (Z1p x.1) x.2).2)
def nQ (v:Nat) (x:Ms×En):Ms×En:=({ x.1 with len:=(kU v (x.1.len,x.2)).1 },(kU v (x.1.len,x.2)).2)
def tu (v:Nat) (x:Ms×En):Ms×En:=({ x.1 with dist:=(kU v (x.1.dist,x.2)).1 },(kU v (x.1.dist,x.2)).2)
def lB (p:Pc) (x:Ms×En):Ms×En:=if p.dist=0 then rB p.byte (gx 0 x) else tu (p.dist-1) (nQ (p.len-2) (gx 1 x))
def XO:List Pc->Ms×En->Ms×En
 |[],x=>x
 |p::l,x=>XO l (lB p x)
def lx (s:ax):Option ax:=if 4096<s.length then none else some (bi s.length++if s=[] then[] else ji (XO (parse s) (m0,e0)).2)
def eX (m:Ms) (d:De):Nat×Ms×De:=((ej 1 1 m.kind d).1-2, { m with kind:=(ej 1 1 m.kind d).2.1 },(ej 1 1 m.kind d).2.2)
def qd (m:Ms) (d:De):cj×Ms×De:=(UInt8.ofNat ((ej 8 1 (Z1p m) d).1-256), { m with bytes:=m.bytes.set (m.last.toNat/32) (ej 8 1 (Z1p m) d).2.1,last:=UInt8.ofNat ((ej 8 1 (Z1p m) d).1-256) },(ej 8 1 (Z1p m) d).2.2)
def lu (m:Ms) (d:De):Int×Ms×De:=((gC m.len d).1, { m with len:=(gC m.len d).2.1 },(gC m.len d).2.2)
def pG (m:Ms) (d:De):Int×Ms×De:=((gC m.dist d).1, { m with dist:=(gC m.dist d).2.1 },(gC m.dist d).2.2)
def zt (n:Nat) (o:ax) (L D:Int):Bool:=decide (L<0)||decide (271<L)||decide ((n:Int)-o.length<L+2)||decide (D<0)||decide ((o.length:Int)<=D)
def ru:Nat->Nat->ax->Ms->De->Option ax
  |0,_,o,_,_=>some o
  | f + 1, n, o, m, d => if o.length < n then
      if(eX m d).1=0 then ru f n (o++[(qd (eX m d).2.1 (eX m d).2.2).1]) (qd (eX m d).2.1 (eX m d).2.2).2.1 (qd (eX m d).2.1 (eX m d).2.2).2.2
      else if zt n o (lu (eX m d).2.1 (eX m d).2.2).1 (pG (lu (eX m d).2.1 (eX m d).2.2).2.1 (lu (eX m d).2.1 (eX m d).2.2).2.2).1=true then none
      else ru f n (QD ((pG (lu (eX m d).2.1 (eX m d).2.2).2.1 (lu (eX m d).2.1 (eX m d).2.2).2.2).1.toNat+1) ((lu (eX m d).2.1 (eX m d).2.2).1.toNat+2) o)
        (pG (lu (eX m d).2.1 (eX m d).2.2).2.1 (lu (eX m d).2.1 (eX m d).2.2).2.2).2.1 (pG (lu (eX m d).2.1 (eX m d).2.2).2.1 (lu (eX m d).2.1 (eX m d).2.2).2.2).2.2
    else some o
def xY (data:ax) (n:Nat):Option ax:=ru n n [] m0 (d0 data)
def qm (data:ax) (most:Int):ax×Nat:=match dN data 4096 with
 |none=>([],12)
 |some (n,r)=>if most<(n:Int) then([],2) else match xY r n with
  |none=>([],12)
  |some s=>if lx s=some data then(s,0) else([],12)
/-! ## A text comes back -/
structure fo (m:Ms):Prop where
 k:iV m.kind/\m.kind.length=2
 bl:m.bytes.length=8
 b:∀t∈m.bytes,iV t/\t.length=256
 l:TNum m.len
 d:TNum m.dist
theorem Zl9 (n:Nat):iV (wF n)/\(wF n).length=2 ^ n:=by refine⟨λx g=> ?_,iE⟩;rw[List.eq_of_mem_replicate g];omega
theorem Zez:fo m0:=by refine⟨Zl9 1,by rfl,λt g=> ?_,zi,zi⟩;have:t=wF 8:=List.eq_of_mem_replicate g;rw[this];exact Zl9 8
theorem Lf (c:cj):c.toNat/32<8:=Jo
theorem Gk {m:Ms} (h:fo m):iV (Z1p m)/\(Z1p m).length=256:=by have g:m.last.toNat/32<m.bytes.length:=(by rw[h.bl];exact Lf _);have e:Z1p m=m.bytes[m.last.toNat/32]:=(by unfold Z1p;grind);rw[e];exact h.b _ (dt _)
theorem Wj {m:Ms} (h:fo m) {t:List Nat} (k:iV t/\t.length=256) (j:Nat):∀u∈m.bytes.set j t,iV u/\u.length=256:=by intro u g;rcases List.mem_or_eq_of_mem_set g with h1|h1;exact h.b u h1;grind
theorem XA {x:Ms×En} (h:fo x.1) (g:dE 0 x.2):fo (gx b x).1/\dE 0 (gx b x).2:=by obtain⟨a,c,d⟩:=AY 1 b 1 h.k.1 W4E g;exact⟨⟨⟨a,c.trans h.k.2⟩,h.bl,h.b,h.l,h.d⟩,d⟩
theorem Zhq {x:Ms×En} (h:fo x.1) (g:dE 0 x.2):fo (rB c x).1/\dE 0 (rB c x).2:=by obtain⟨t1,p⟩:=Gk h;obtain⟨a,b,d⟩:=AY 8 c.toNat 1 t1 O g;exact⟨⟨h.k,Rf,Wj h ⟨a,b.trans p⟩ _,h.l,h.d⟩,d⟩
theorem Gw {x:Ms×En} (h:fo x.1) (g:dE 0 x.2):fo (nQ v x).1/\dE 0 (nQ v x).2:=by obtain⟨a,b⟩:=C8 (v:=v) (x:=(x.1.len,x.2)) h.l g;exact⟨⟨h.k,h.bl,h.b,a,h.d⟩,b⟩
theorem Zig {x:Ms×En} (h:fo x.1) (g:dE 0 x.2):fo (tu v x).1/\dE 0 (tu v x).2:=by obtain⟨a,b⟩:=C8 (v:=v) (x:=(x.1.dist,x.2)) h.d g;exact⟨⟨h.k,h.bl,h.b,h.l,a⟩,b⟩
theorem Gx {p:Pc} {x:Ms×En} (h:fo x.1) (g:dE 0 x.2):fo (lB p x).1/\dE 0 (lB p x).2:=by unfold lB;split;obtain⟨a,b⟩:=XA (b:=0) h g;exact Zhq a b;obtain⟨a,b⟩:=XA (b:=1) h g;obtain⟨c,d⟩:=Gw (v:=p.len-2) a b;exact Zig c d
theorem Zf8 (l:List Pc):∀ {x:Ms×En},fo x.1->dE 0 x.2->fo (XO l x).1/\dE 0 (XO l x).2:=by
 induction l with
 |nil=>intro x h g;exact⟨h,g⟩
 |cons p l ih=>intro x h g;obtain⟨a,b⟩:=Gx (p:=p) h g;exact ih a b
section
variable {F:ax}
theorem P_ {x:Ms×En} (h:fo x.1) (g:dE 0 x.2) (l:Wi F (gx b x).2):Wi F x.2:=G3 1 b 1 h.k.1 W4E g l
theorem O_ {x:Ms×En} (h:fo x.1) (g:dE 0 x.2) (k:Wi F (rB c x).2):Wi F x.2:=by obtain⟨t1,l⟩:=Gk h;exact G3 8 c.toNat 1 t1 O g k
theorem Zo9 {p:Pc} {x:Ms×En} (h:fo x.1) (g:dE 0 x.2) (k:Wi F (lB p x).2):Wi F x.2:=by unfold lB at k;split at k;obtain⟨a,b⟩:=XA (b:=0) h g;exact P_ h g (O_ a b k);obtain⟨a,b⟩:=XA (b:=1) h g;obtain⟨c,d⟩:=Gw (v:=p.len-2) a b;exact P_ h g (Dt (x:=((gx 1 x).1.len,(gx 1 x).2)) a.l b (Dt (x:=((nQ (p.len-2) (gx 1 x)).1.dist,(nQ (p.len-2) (gx 1 x)).2)) c.d d k))
theorem VT (l:List Pc):∀ {x:Ms×En},fo x.1->dE 0 x.2->Wi F (XO l x).2->Wi F x.2:=by
 induction l with
 |nil=>intro x _ _ h;exact h
 |cons p l ih=>intro x h g k;obtain⟨a,b⟩:=Gx (p:=p) h g;exact Zo9 h g (ih a b k)
theorem K_ (hb:b<2) {x:Ms×En} {d:De} (h:fo x.1) (g:dE 0 x.2) (l:Sy F x.2 d) (p:Wi F (gx b x).2):(eX x.1 d).1=b/\(eX x.1 d).2.1=(gx b x).1/\Sy F (gx b x).2 (eX x.1 d).2.2:=by obtain⟨a1,a2,a3⟩:=LF 1 b 1 h.k.1 W4E g l p;unfold eX gx;grind
theorem ZnH {x:Ms×En} {d:De} (h:fo x.1) (g:dE 0 x.2) (k:Sy F x.2 d) (l:Wi F (rB c x).2):(qd x.1 d).1=c/\(qd x.1 d).2.1=(rB c x).1/\Sy F (rB c x).2 (qd x.1 d).2.2:=by obtain⟨t1,q⟩:=Gk h;obtain⟨a1,a2,a3⟩:=LF 8 c.toNat 1 t1 O g k l;have p:UInt8.ofNat ((ej 8 1 (Z1p x.1) d).1-256)=c:=nk;unfold qd rB;grind
theorem ZnJ (p:v<4611686018427387904) {x:Ms×En} {d:De} (h:fo x.1) (g:dE 0 x.2) (k:Sy F x.2 d) (q:Wi F (nQ v x).2):(lu x.1 d).1=v/\(lu x.1 d).2.1=(nQ v x).1/\Sy F (nQ v x).2 (lu x.1 d).2.2:=by obtain⟨a1,a2,a3⟩:=Lz (x:=(x.1.len,x.2)) h.l g p k q;unfold lu nQ;grind
theorem ZnI (l:v<4611686018427387904) {x:Ms×En} {d:De} (h:fo x.1) (g:dE 0 x.2) (k:Sy F x.2 d) (p:Wi F (tu v x).2):(pG x.1 d).1=v/\(pG x.1 d).2.1=(tu v x).1/\Sy F (tu v x).2 (pG x.1 d).2.2:=by obtain⟨a1,a2,a3⟩:=Lz (x:=(x.1.dist,x.2)) h.d g l k p;unfold pG tu;grind
theorem Zfz (c5:s.length<=4096) {i:Nat} {l:List Pc} (a9:tL s i l):∀(f:Nat) {x:Ms×En} {d:De},s<=i+f->fo x.1->dE 0 x.2->Sy F x.2 d->Wi F (XO l x).2->ru f s (s.take i) x.1 d=some s:=by
 induction a9 with
 |done=>
  intro f x d _ _ _ _ _;have e:s.take s.length=s:=d' aU;cases f with
  |zero=>show some _=_;rw[e]
  |succ f=>unfold ru;grind
 | @step i p l z r ih=>
  intro f x d c6 y t R E;have c3:=z.pos;have a1:=Zok z;cases f with
  |zero=>exact O
  |succ f=>
   have u:(s.take i)=i:=aO;obtain⟨I,G⟩:=Gx (p:=p) y t;have g:Wi F (lB p x).2:=VT l I G E;unfold ru;rw[Vag O];have b6:(p.dist=0/\p.len=1)\/(p.dist≠0/\1<=p.dist/\p.dist<=i/\2<=p.len/\p.len<=273):=by rcases z with ⟨h1,D,_⟩|⟨h1,D,_,a7,a8,_⟩;exact O;grind
   rcases b6 with ⟨h1,D⟩|⟨h1,D,c4,a7,a8⟩
   .have e:lB p x=rB p.byte (gx 0 x):=(by unfold lB;rw[Vag h1]);rw[e] at g;obtain⟨q,k⟩:=XA (b:=0) y t;obtain⟨k1,k2,k3⟩:=K_ (b:=0) O y t R (O_ q k g);have Q:=ZnH (c:=p.byte) (x:=gx 0 x) q k k3 g;rw[<-k2] at Q;obtain⟨b1,a3,b3⟩:=Q;rw[Vag k1,b1,a3];have B:s.take i++[p.byte]=s.take (i+p.len):=by rw[<-a1];unfold app;rw[Vag h1]
    rw[B];have b9:rB p.byte ((eX x.1 d).2.1,(gx 0 x).2)=lB p x:=(by rw[e,k2]);have:=ih f (x:=lB p x) (d:=(qd (eX x.1 d).2.1 (eX x.1 d).2.2).2.2) O I G (by rw[e];exact b3) E;rw[<-this,e]
   have e:lB p x=tu (p.dist-1) (nQ (p.len-2) (gx 1 x)):=(by unfold lB;rw[Vae h1]);rw[e] at g;obtain⟨q,k⟩:=XA (b:=1) y t;obtain⟨a0,le⟩:=Gw (v:=p.len-2) q k;have a2:Wi F (nQ (p.len-2) (gx 1 x)).2:=Dt (x:=((nQ (p.len-2) (gx 1 x)).1.dist,(nQ (p.len-2) (gx 1 x)).2)) a0.d le g;have b7:Wi F (gx 1 x).2:=Dt (x:=((gx 1 x).1.len,(gx 1 x).2)) q.l k a2;obtain⟨k1,k2,k3⟩:=K_ (b:=1) O y t R b7;have S:=ZnJ (v:=p.len-2) O (x:=gx 1 x) q k k3 a2;rw[<-k2] at S;obtain⟨b4,l2,b5⟩:=S;have b8:i<=4096:=O;have M:=ZnI (v:=p.dist-1) O (x:=nQ (p.len-2) (gx 1 x)) a0 le b5 g;rw[<-l2] at M;obtain⟨a4,a5,a6⟩:=M;rw[Vae (by rw[k1];omega),b4,a4];have hb:zt s (s.take i) ((p.len-2:Nat):Int) ((p.dist-1:Nat):Int)=false:=by unfold zt;rw[u];simp only[Bool.or_eq_false_iff,uJ];refine⟨⟨⟨⟨?_,?_⟩,?_⟩,?_⟩,?_⟩<;>omega
   rw[hb,Vae aY];have B:QD (((p.dist-1:Nat):Int).toNat+1) (((p.len-2:Nat):Int).toNat+2) (s.take i)=s.take (i+p.len):=by rw[<-a1];unfold app;rw[Vae h1,ep,ep];congr 1<;>omega
   rw[B,a5];have:=ih f (x:=lB p x) (d:=(pG (lu (eX x.1 d).2.1 (eX x.1 d).2.2).2.1 (lu (eX x.1 d).2.1 (eX x.1 d).2.2).2.2).2.2) O I G (by rw[e];exact a6) E;rw[<-this,e]
end
theorem ZqJ (k:s.length<=4096) (p:s≠[]):xY (ji (XO (parse s) (m0,e0)).2) s.length=some s:=by obtain⟨k1,k2⟩:=Zf8 (parse s) (x:=(m0,e0)) Zez xG;have g:=Zli k2;have l:=Wp (VT (parse s) (x:=(m0,e0)) Zez xG g);exact Zfz k (QL s) s (x:=(m0,e0)) O Zez xG l g
theorem ZqI (h:lx s=some t) (most:Int) (l:(s.length:Int)<=most):qm t most=(s,0):=by
 have h0:=h;unfold lx at h;split at h;exact aO;injection h with h;have p:dN t 4096=some (s.length,if s=[] then[] else ji (XO (parse s) (m0,e0)).2):=by rw[<-h];exact Ya _ _ O O _
 unfold qm;have k:xY (if s=[] then[] else ji (XO (parse s) (m0,e0)).2) s.length=some s:=by by_cases g:s=[];rw[Vag g,g];rfl;rw[Vae g];exact ZqJ O g
 grind
theorem C5 (h:lx s=some t):s.length<=4096:=by unfold lx at h;grind
end Wv
namespace Go.Proofs.Y
open Wv Go.RowKit
variable{A:Wto}{b:Nat}{s:aT}{vs:List aI}{w w':aq}
theorem Zqn {k:IntKind} {a b:Int} (h:a=b):Ending.returned (.int k a)=.returned (.int k b):=rp
theorem ZfM {a b:Bool} (h:a=b):Ending.returned a=.returned b:=rp
theorem KN {a b:aT} (h:a=b):Ending.returned a=.returned b:=rp
theorem ZqV {a b:aI} (h:a=b):Ending.returned a=.returned b:=rp
theorem Zqe:(prog.info? 5).map (λi=>(i.zero,i.size,i.bytes))=some (some (.int .u8 0),1,1):=qD
theorem MF (h:s.size=0):s.toList.isEmpty=true:=PT
theorem ME (h:0<s.size):s.toList.isEmpty=false:=OV
theorem ZoY (s:aT) (z:Nat):s.extract z s.size=bs ((aH s).drop z):=OT
theorem ZoZ (s:aT) (z:Nat):s.extract 0 z=bs ((aH s).take z):=by apply xc;apply pS.1;simp[bs,aH]
theorem WS {P:Program} (k g e:TypeId) (y:P.underlying k=some (.slice e)) (u:P.underlying e=some (.int .u8)) (hd:P.underlying g=some .string) {l:ax} (h:At w A (l.map bv)) (cap:Nat):
  (convert k g (.slice A l cap)).run P w=.ok (.string (bs l)) w:=by
 rcases A with _|a
 .have D:l=[]:=by rcases l with _|⟨c,t⟩;rfl;obtain⟨b,p,h,_⟩:=h 0 (by simp);cases h
  subst D;exact run_convert_bytes_nil w k e y u 0 cap g hd
 refine run_convert_bytes_back w k g e a cap l y u hd (λj B=> ?_);obtain⟨b,o,q,hb,z⟩:=h j (by rw[Vah];exact B);injection q with q;subst q;rw[Go.WideShapes.add_plain,z];simp[bv]
theorem J' {r:Nat} (k:Fr (only r) w w') {B:Nat} (g:B<=w) (p:B<=r):Below B w w':=k.toBelow' g (λj l e=>by have:j=r:=e;omega)
theorem Xm (h:Fr (only b) w w') (o:Nat) (x:aI):Fr (only b) w (w'.setCell (b,o) x):=h.setCell (p:=⟨b,o,none⟩) (.inl rfl) x
theorem Ul (w:aq) (o p:Obj):Below w w ((w.alloc o).alloc p):=((bf w w).alloc aU _).alloc (by simp) _
theorem Vr {o:Nat} (h:At w (some ⟨b,o,none⟩) vs) (k:Nat):At w (some ⟨b,o+k,none⟩) (vs.drop k):=λi hi=>by rw[iW] at hi;obtain⟨q,t,h1,g,l⟩:=h (k+i) O;injection h1 with h1;injection h1 with h1 p;subst h1;subst p;exact⟨b,o+k,rfl,g,by rw[Iz,IG];exact l⟩
theorem Vq (h:At w A vs) (k:Nat):At w A (vs.take k):=λi hi=>by rw[ek] at hi;obtain⟨b,o,h1,g,l⟩:=h i O;exact⟨b,o,h1,g,by rw[List.getElem_take];exact l⟩
theorem LW {T:TypeId} {cs:Array aI} (h:At w A vs) (Q:Bk w b T cs) (F:∀v∈vs,v∉cs.toList) (k:Nat) (x:aI):At (w.setCell (b,k) x) A vs:=by intro i hi;obtain⟨l,o,t,hb,g⟩:=h i hi;have q:l≠b:=Oe;refine⟨l,o,t,by simpa using hb,?_⟩;exact((Fr.refl (λj=>j=b) w).setCell (p:=⟨b,k,none⟩) (.inl rfl) x).cell (p:=⟨l,_,none⟩) hb q|>.trans g
theorem Zlm {T:TypeId} {cs:Array aI} (h:At w A vs) (Q:Bk w b T cs) (F:∀v∈vs,v∉cs.toList) (l:Fr (only b) w w'):At w' A vs:=by intro i hi;obtain⟨k,o,t,hb,g⟩:=h i hi;have q:k≠b:=Oe;exact⟨k,o,t,Vas hb l.size,(l.cell (p:=⟨k,_,none⟩) hb q).trans g⟩
def NV (w:aq) (v:aI) (n:gL):Prop:=∃A cap,v=.agg #[n.neg,.slice A n.dg cap,n.ex]/\At w A (n.dg.map bv)/\n.dg.length<=cap/\cap<=maxLen
theorem NV.below {v:aI} {n:gL} (h:NV w v n) (hb:Below w w w'):NV w' v n:=by obtain⟨A,cap,h1,g,k,l⟩:=h;exact⟨A,cap,h1,g.below hb,k,l⟩
structure Sz (n:gL):Prop where
 lo: -2000000<=n.ex
 hi:n.ex<=2000000
 len:n.dg.length<=100000
theorem ZbM (b:Bool) (A:Wto) (L cap:Nat) (e:Int) (s1: -2000000<=e) (g:e<=2000000) (s3:L<=100000) (w:aq):
  Calls prog 255 #[.agg #[b,(A,L,cap),e]] w (bM w (e+L-1:Int)):=by go_in;go_wp2;go_returns;exact⟨rfl,(bf w w).alloc aU _⟩
def Iy (g W:aq) (x y:Nat) (k cb:Array aI):Prop:=Bk W x 305 k/\Bk W y 305 cb/\Below g g W
theorem Iy.below {k W W':aq} {x y:Nat} {g cb:Array aI} (h:Iy k W x y g cb) (hb:Below W W W'):Iy k W' x y g cb:=
 ⟨Bk.below h.1 hb (Bk.lt h.1),Bk.below h.2.1 hb (Bk.lt h.2.1),h.2.2.trans (hb.mono h.2.2.size)⟩
def gl (w:aq):Prop:=∀W,Below w w W->Lib.TabIs prog W "internal/strconv.uint64pow10" .u64 Lib.pow10Tab
theorem gl.below (h:gl w) (hb:Below w w w'):gl w':=λk g=>h k (hb.trans (g.mono hb.size))
theorem Rr (n:Nat):Lib.decDigits n=qf n:=by
 induction n using Nat.strongRecOn with
 |ind n ih=>rw[Lib.decDigits,qf];split;rfl;rw[ih (n/10) O]
theorem Zek (n:Int):Lib.itoa n=kd n:=by unfold Lib.itoa kd;split;rw[Rr,show n.natAbs=(-n).toNat by omega];rw[Rr]
theorem Zfc (l:gl w) (n:Int) (h0: -9223372036854775808<=n) (h1:n<=9223372036854775807):
  cK 256 #[n] w (bM w (bs (kd n))):=by refine(Tryz.strconv_Itoa n h0 h1 w (l w (bf _ _))).mono ?_;rintro x w' ⟨rfl,k,os,rfl⟩;refine⟨KN (by rw[Zek];rfl),?_⟩;have h1:=mN (bf w w) k;refine⟨h1.os,h1.tape,h1.output,?_,λj g=> ?_⟩;show w.heap.size<=(w.heap++os).size;rw[Array.size_append];omega;show(w.heap++os)[j]? =w.heap[j]?;rw[Array.getElem?_append_left g]
