import Derived.Test.YtnjkjoklnephcaaGreatDoorJ08
import Derived.Lib.BytesEntry
import Derived.Laws.Externs
import Derived.Lib.Bytealg
set_option linter.all false
set_option maxRecDepth 100000
set_option maxHeartbeats 0
open Go.Proofs.Tryz (prog)
theorem Fl{P:Prop}(h:P:=by rw[h.k.2];decide):P:=h
theorem Jt{P:Prop}(h:P:=by have:=c.toNat_lt;omega):P:=h
theorem Ry{P:Prop}(h:P:=by show(List.set _ _ _).length=8;rw[og];exact h.bl):P:=h
theorem Oq{P:Prop}(h:P:=by rintro rfl;have h2:=hk.cell (o+i);rw[g] at h2;exact F _ (dr hi) (by have a7:cs.toList[o+i]? =some vs[i]:=(by simpa using h2.symm);exact List.mem_of_getElem? a7)):P:=h
namespace Wv
section
variable{f:ax->Nat}{s:ax}
def m' (c:ci):Bool:=decide (48<=c.toNat)&&decide (c.toNat<=57)
def dv (c:ci):Nat:=c.toNat-48
def vd (l:ax):Nat:=l.foldl (λa c=>10*a+dv c) 0
def sG (l:ax):Prop:=∀c∈l,m' c=true
structure gY where
 neg:Bool
 dg:List UInt8
 ex:Int
def X7 (l:ax):ax:=l.dropWhile (· ==48)
def YE (l:ax):ax:=(X7 l.reverse).reverse
def wB:gY:=⟨false,[],0⟩
def XA (n:gY):gY:=
 if YE (X7 n.dg)=[] then wB else⟨n.neg,YE (X7 n.dg),n.ex+((X7 n.dg).length-(YE (X7 n.dg)).length:Nat)⟩
def Qx (n:gY):Int:=n.ex+n.dg.length-1
structure Ei (n:gY):Prop where
 all:sG n.dg
 front:n.dg.head?≠some 48
 back:n.dg.getLast?≠some 48
 zero:n.dg=[]->n.neg=false/\n.ex=0
def sg (b:Bool):Int:=if b then-1 else 1
def V (K:Nat) (n:gY):Int:=sg n.neg*((vd n.dg*10 ^ (n.ex+K).toNat:Nat):Int)
theorem Zqp (l:ax):∀a,l.foldl (λa c=>10*a+dv c) a=a*10 ^ l.length+vd l:=by
 induction l with
 |nil=>simp[vd]
 |cons c t ih=>
  have h1:vd (c::t)=dv c*10 ^ t.length+vd t:=by show(c::t).foldl _ 0=_;grind
  grind
theorem Zh7 (l r:ax):vd (l++r)=vd l*10 ^ r.length+vd r:=by show(l++r).foldl _ 0=_;rw[rn];exact Zqp r (vd l)
theorem Ux (l:ax):∀c∈X7 l,c∈l:=λc h=>(List.dropWhile_suffix _).subset h
theorem S9 (l:ax):(X7 l).head?≠some 48:=by
 induction l with
 |nil=>simp[X7]
 |cons c t ih=>unfold X7 at ih⊢;rw[List.dropWhile_cons];grind
theorem Ki (l:ax):(X7 l)<=l.length:=(List.dropWhile_suffix _).length_le
theorem UA (l:ax):∃k,l=YE l++List.replicate k 48:=by
 unfold YE X7;have h1:=List.takeWhile_append_dropWhile (p:=(· ==48)) (l:=l.reverse);have g:l=(l.reverse.dropWhile (· ==48)).reverse++(l.reverse.takeWhile (· ==48)).reverse:=aI;have q:l.reverse.takeWhile (· ==48)=List.replicate (l.reverse.takeWhile (· ==48)).length 48:=by rw[List.eq_replicate_iff];have:=List.all_takeWhile (p:=(· ==48)) (l:=l.reverse);grind
 grind
theorem Uz (l:ax):(YE l)<=l.length:=by unfold YE;have:=Ki l.reverse;grind
theorem Zcs (l:ax):(YE l).getLast?≠some 48:=by unfold YE;rw[List.getLast?_reverse];exact S9 _
theorem ZgL (l:ax):∀c∈YE l,c∈l:=λc h=>by have:=Ux _ c (List.mem_reverse.1 h);grind
theorem Zct {l:ax} (h:l.head?≠some 48):(YE l).head?≠some 48:=by obtain⟨k,g⟩:=UA l;grind
theorem Z9e {n:gY} (h:sG n.dg):Ei (XA n):=by unfold XA;split;exact⟨by intro c hc;simp[wB] at hc,by simp[wB],by simp[wB],λ_=>⟨rfl,rfl⟩⟩;rename_i h0;exact⟨λc hc=>h c (Ux _ c (ZgL _ c hc)),Zct (S9 _),Zcs _,λe=>absurd e h0⟩
theorem Z46 {n:gY} (h:Ei n):XA n=n:=by
 obtain⟨b,d,e⟩:=n;have q:=h.front;have hb:=h.back
 have h1:X7 d=d:=by
  unfold X7;match d with
  |[]=>rfl
  |c::t=>rw[List.dropWhile_cons,az aI]
 have l:YE d=d:=by
  unfold YE X7
  have:d.reverse.dropWhile (· ==48)=d.reverse:=by
   match hd:d.reverse with
   |[]=>rfl
   |c::t=>have p:d.getLast? =some c:=mM;rw[List.dropWhile_cons,az aI]
  grind
 unfold XA;simp only[h1,l];by_cases h0:d=[];obtain⟨g,k⟩:=h.zero h0;simp only at g k;rw[aP h0,g,k,h0];rfl;grind
def qi (n:Nat):ax:=if h:n<10 then[UInt8.ofNat (48+n)] else qi (n/10)++[UInt8.ofNat (48+n % 10)]
termination_by n
decreasing_by omega
def kd (n:Int):ax:=if n<0 then 45::qi (-n).toNat else qi n.toNat
theorem HJ {d:Nat} (h:d<10):m' (UInt8.ofNat (48+d))=true/\dv (UInt8.ofNat (48+d))=d:=by have:(UInt8.ofNat (48+d)).toNat=48+d:=fp;unfold m' dv;grind
theorem Zlk (c:ci):vd [c]=dv c:=by simp[vd]
theorem KO (n:Nat):sG (qi n):=by
 induction n using Nat.strongRecOn with
 |ind n ih=>
  rw[qi];split;.rename_i h;intro c hc;rw[js] at hc;rw[hc];exact(HJ h).1
  intro c hc;rcases kY.1 hc with h1|h1;exact ih (n/10) O c h1;rw[js] at h1;rw[h1];exact(HJ O).1
theorem Zh8 (n:Nat):vd (qi n)=n:=by
 induction n using Nat.strongRecOn with
 |ind n ih=>
  rw[qi];split;.rename_i h;rw[Zlk];exact(HJ h).2
  rw[Zh7,ih (n/10) O];have:=(HJ (d:=n % 10) O).2;have e:vd [UInt8.ofNat (48+n % 10)]=n % 10:=by rw[Zlk,this]
  grind
theorem o_ (n:Nat):qi n≠[]:=by rw[qi];split<;>simp
theorem AZ {n k:Nat} (g:0<k) (h:n<10 ^ k):(qi n)<=k:=by
 induction k generalizing n with
 |zero=>exact O
 |succ k ih=>rw[qi];grind
def Xw (n:gY):ax×Nat:=
 if n.dg=[] then([48],0)
 else if 17<n.dg.length\/Qx n< -400\/400<Qx n then([],9)
 else((if n.neg then[45] else[])++n.dg.take 1++(if 1<n.dg.length then 46::n.dg.drop 1 else[])++101::kd (Qx n),0)
def lF:ax->Bool×ax
 |[]=>(false,[])
 |c::t=>if c=45 then(true,t) else if c=43 then(false,t) else(false,c::t)
def fe (s:ax):ax:=s.takeWhile m'
def qU (s:ax):ax:=s.dropWhile m'
def xX:ax->Option (ax×ax)
 |[]=>some ([],[])
 |c::t=>if c=46 then(if fe t=[] then none else some (fe t,qU t)) else some ([],c::t)
def xU (f:ax->Nat):ax->Option (Int×ax)
 |[]=>some (0,[])
 |c::t=>if c=101\/c=69 then(if fe (lF t).2=[] then none else some (sg (lF t).1*(f (fe (lF t).2):Int),qU (lF t).2)) else some (0,c::t)
def qv (f:ax->Nat) (s:ax):Option gY:=
 if 64<s.length then none else if fe (lF s).2=[] then none else
 match xX (qU (lF s).2) with
 |none=>none
 |some x=>match xU f x.2 with
  |none=>none
  |some y=>if y.2=[] then some ⟨(lF s).1,fe (lF s).2++x.1,y.1-x.1.length⟩ else none
def kM (p:ax):Nat:=p.foldl (λe c=>min 1048576 (10*e+dv c)) 0
theorem ZoY (cap:Nat) (p:ax):∀a,p.foldl (λe c=>min cap (10*e+dv c)) (min cap a)=min cap (p.foldl (λe c=>10*e+dv c) a):=by
 induction p with
 |nil=>exact aI
 |cons c t ih=>intro a;rw[List.foldl_cons,List.foldl_cons,<-ih];congr 1;omega
theorem ZkK (p:ax):kM p=min 1048576 (vd p):=by have:=ZoY 1048576 p 0;simpa [kM,vd] using this
theorem JI {d r:ax} (hd:sG d) (g:∀c t,r=c::t->m' c=false):fe (d++r)=d/\qU (d++r)=r:=by
 unfold fe qU;induction d with
 |nil=>
  match r with
  |[]=>exact⟨rfl,rfl⟩
  |c::t=>have:=g c t rfl;simp[List.takeWhile_cons,List.dropWhile_cons,this]
 |cons c d ih=>have h1:=hd c fm;obtain⟨a,b⟩:=ih (λx k=>hd x (gN _ k));rw[ju,List.takeWhile_cons,List.dropWhile_cons,aP h1,aP h1,a,b];grind
theorem G0 (s:ax):sG (fe s):=λc h=>by have:=List.all_takeWhile (p:=m') (l:=s);rw[tS] at this;exact this c h
theorem F' (c:ci) (t:ax):xX (c::t)=if c=46 then(if fe t=[] then none else some (fe t,qU t)) else some ([],c::t):=rfl
theorem K0 (c:ci) (t:ax):lF (c::t)=if c=45 then(true,t) else if c=43 then(false,t) else(false,c::t):=rfl
theorem TR (f:ax->Nat) (c:ci) (t:ax):xU f (c::t)=if c=101\/c=69 then(if fe (lF t).2=[] then none else some (sg (lF t).1*(f (fe (lF t).2):Int),qU (lF t).2)) else some (0,c::t):=rfl
theorem UX {c:ci} {t:ax} (h:m' c=true):lF (c::t)=(false,c::t):=by rw[K0];unfold m' at h;have h1:c≠45:=λe=>mM;have g:c≠43:=λe=>mM;grind
theorem Zk1 (E:Int):lF (kd E)=(decide (E<0),qi E.natAbs):=by
 unfold kd;by_cases h:E<0;have:(-E).toNat=E.natAbs:=O;rw[this];simp[lF,h];rw[az h];have:E.toNat=E.natAbs:=O;rw[this];match hd:qi E.natAbs with
 |[]=>exact absurd hd (o_ _)
 |c::t=>have:=KO E.natAbs c aI;rw[UX this];simp[h]
theorem Zk0 {m:gY} (hm:sG m.dg) (h0:m.dg≠[]) (xk:m.dg.length<=17) (Om: -400<=Qx m) (zG:Qx m<=400) (hf:∀p,sG p->vd p<=400->f p=vd p):
  qv f ((if m.neg then[45] else[])++m.dg.take 1++(if 1<m.dg.length then 46::m.dg.drop 1 else[])++101::kd (Qx m))=some m:=by
 obtain⟨b,d,e⟩:=m;simp only at hm h0 xk;obtain⟨E,hE⟩:=ay (Qx ⟨b,d,e⟩);rw[hE] at Om zG;rw[hE];have Kh:E=e+d.length-1:=(by rw[<-hE];rfl);match d,h0 with
 |c::t,_=>
  simp only[List.take_succ_cons,po,List.drop_succ_cons,Al];obtain⟨R,hR⟩:=ay (((if 1<(c::t).length then 46::t else[])++101::kd E:ax));have hc:=hm c fm;have ht:sG t:=λx hx=>hm x (gN _ hx);have es:(if b then[45] else[])++[c]++(if 1<(c::t).length then 46::t else[])++101::kd E=(if b then[45] else[])++(c::R):=aI;simp only[es];have hs:lF ((if b then[45] else[])++(c::R))=(b,c::R):=by cases b;simpa using UX (t:=R) hc;rfl
  have qR:∀x y,R=x::y->m' x=false:=by intro x y h;rw[<-hR] at h;split at h;injection h with h1 _;rw[<-h1];decide;injection h with h1 _;rw[<-h1];decide
  obtain⟨q1,q2⟩:=JI (d:=[c]) (r:=R) (λx hx=>by rw[js] at hx;rw[hx];exact hc) qR
  have hlen:((if b then[45] else[])++(c::R)).length<=64:=by
   have hz:(kd E).length<=4:=by unfold kd;split;have:=AZ (n:=(-E).toNat) (k:=3) O O;rw[f'];omega;have:=AZ (n:=E.toNat) (k:=3) O O;omega
   have h2:(if b then[(45:ci)] else[]).length<=1:=(by cases b<;>simp);have h3:(if 1<(c::t).length then(46::t:ax) else[]).length<=t.length+1:=(by split<;>simp);rw[bT,f',<-hR,bT];rw[f'] at xk;have h4:(101::kd E).length=(kd E).length+1:=rfl;omega
  have hx:xU f (101::kd E)=some (E,[]):=by
   rw[TR,aP (.inl rfl),Zk1];obtain⟨a1,a2⟩:=JI (d:=qi E.natAbs) (r:=[]) (KO _) (λ_ _ h=>by cases h);rw[fu] at a1 a2;simp only[a1,a2];rw[az (o_ _),hf _ (KO _) (by rw[Zh8];omega),Zh8];congr 2;unfold sg;split;.rename_i h;simp at h;omega
   rename_i h;simp at h;omega
  have dp:xX R=some (t,101::kd E):=by rw[<-hR];by_cases h1:1<(c::t).length;rw[aP h1];obtain⟨a1,a2⟩:=JI (d:=t) (r:=101::kd E) ht (λx y h=>by injection h with h _;rw[<-h];decide);rw[ju,F',aP rfl,a1,a2,az (by intro h;rw[h] at h1;simp at h1)];rw[az h1];have:t=[]:=gx (by rw[f'] at h1;omega);subst this;rw[pX,F',az aZ]
  unfold qv;rw[az O,hs];simp only;have q1':fe (c::R)=[c]:=q1;have q2':qU (c::R)=R:=q2;rw[q1',q2',az (by simp),dp];simp only;rw[hx];simp only[if_true];congr 1;rw[f'] at Kh;simp;omega
structure Eo (n:gY):Prop where
 canon:Ei n
 len:n.dg.length<=17
 lo:n.dg≠[]->-400<=Qx n
 hi:n.dg≠[]->Qx n<=400
theorem Zbk {n:gY} (h:Ei n) (h0:(Xw n).2=0):Eo n:=by
 unfold Xw at h0;split at h0;.rename_i hz;exact⟨h,aI,λe=>absurd hz e,λe=>absurd hz e⟩
 split at h0;exact O;exact⟨h,O,λ_=>O,λ_=>O⟩
theorem Zmo {n:gY} (h:Eo n):(Xw n).2=0:=by unfold Xw;split;rfl;rename_i h0;have a:=h.lo h0;have b:=h.hi h0;have c:=h.len;grind
theorem Zg7 (l:∀p,sG p->vd p<=400->f p=vd p) {n:gY} (h:Eo n):∃m,qv f (Xw n).1=some m/\XA m=n:=by
 by_cases h0:n.dg=[]
 .have q:n=wB:=by obtain⟨g,k⟩:=h.canon.zero h0;obtain⟨b,d,e⟩:=n;simp only at g k h0;rw[g,k,h0];rfl
  subst q;exact⟨⟨false,[48],0⟩,rfl,rfl⟩
 have e:(Xw n).1=(if n.neg then[45] else[])++n.dg.take 1++(if 1<n.dg.length then 46::n.dg.drop 1 else[])++101::kd (Qx n):=by have a:=h.lo h0;have b:=h.hi h0;have c:=h.len;unfold Xw;grind
 rw[e];exact⟨n,Zk0 h.canon.all h0 h.len (h.lo h0) (h.hi h0) l,Z46 h.canon⟩
theorem ZoX (p:ax) (h:vd p<=400):kM p=vd p:=by rw[ZkK];omega
theorem G1 (s:ax):(fe s)<=s.length:=(List.takeWhile_prefix _).length_le
theorem Zlr (s:ax):(qU s)<=s.length:=(List.dropWhile_suffix _).length_le
theorem ZnD (s:ax):(lF s).2<=s.length:=by
 match s with
 |[]=>simp[lF]
 |c::t=>rw[K0];split;simp;grind
theorem ZiN {x:ax×ax} (h:xX s=some x):x.1<=s.length/\sG x.1:=by
 match s,h with
 |[],h=>injection h with h;subst h;exact⟨by simp,by intro c g;simp at g⟩
 |c::t,h=>rw[F'] at h;split at h;split at h;exact aI;injection h with h;subst h;have:=G1 t;exact⟨aI,G0 t⟩;injection h with h;subst h;exact⟨by simp,by intro c g;simp at g⟩
theorem Zg8 {n:gY} (h:qv f s=some n):sG n.dg/\n.dg.length<=128/\n.dg≠[]/\s.length<=64:=by
 unfold qv at h;split at h;exact aI;split at h;exact aI
 match hf:xX (qU (lF s).2),h with
 |none,h=>cases h
 |some x,h=>
  simp only at h;obtain⟨k,l2⟩:=ZiN hf;match hx:xU f x.2,h with
  |none,h=>cases h
  |some y,h=>
   simp only at h;split at h;.injection h with h;subst h;have a1:=ZnD s;have a2:=G1 (lF s).2;have a3:=Zlr (lF s).2;refine⟨λc g=> ?_,?_,?_,O⟩;rcases kY.1 g with h1|h1;exact G0 _ c h1;exact l2 c h1;exact aI;simp_all
   grind
def th (s:ax):Option gY:=match qv kM s with
 |none=>none
 |some m=>if Xw (XA m)=(s,0) then some (XA m) else none
theorem ZhS {n:gY} :th s=some n↔Eo n/\s=(Xw n).1:=by
 constructor
 .intro h;unfold th at h;match g:qv kM s,h with
  |none,h=>cases h
  |some m,h=>simp only at h;split at h;injection h with h;subst h;exact⟨Zbk (Z9e (Zg8 g).1) aI,aI⟩;grind
 rintro⟨h1,rfl⟩;obtain⟨m,k,l⟩:=Zg7 (f:=kM) (λp _ h=>ZoX p h) h1;unfold th;have e:Xw n=((Xw n).1,0):=Prod.ext rfl (Zmo h1);grind
def Mg (K:Nat) (n:gY):Nat:=vd n.dg*10 ^ (n.ex+K).toNat
def W (n:gY):Int:=V 1000 n
def zs (k:Nat):ax:=List.replicate k 48
def Ax (n:Nat) (a:gY):Nat:=vd a.dg*10 ^ (a.ex+n).toNat
section
variable {x y z:gY}
end
end
section
variable{d i:Nat}{s:ax}
def ss (s:ax) (i j:Nat):Nat->Nat->Nat
 |n,0=>n
 |n,k+1=>if s.getD (i+n) 0=s.getD (j+n) 0 then ss s i j (n+1) k else n
def oM (s:ax) (i j most:Nat):Nat:=ss s i j 0 most
theorem Um (s:ax) (i j:Nat):∀k n,(∀t,t<n->s.getD (i+t) 0=s.getD (j+t) 0)->n<=ss s i j n k/\ss s i j n k<=n+k/\∀t,t<ss s i j n k->s.getD (i+t) 0=s.getD (j+t) 0:=by
 intro k;induction k with
 |zero=>intro n h;exact⟨aW,aW,h⟩
 |succ k ih=>unfold ss;grind
theorem Mh (s:ax) (i j most:Nat):oM s i j most<=most:=by have:=(Um s i j most 0 (λt h=>O)).2.1;unfold oM;omega
theorem ZoZ (s:ax) (i j most:Nat):∀t,t<oM s i j most->s.getD (i+t) 0=s.getD (j+t) 0:=(Um s i j most 0 (λt h=>O)).2.2
def pG (s:ax) (i most:Nat):Nat->Nat->List (Nat×Nat)->List (Nat×Nat)
 |0,_,o=>o
 |p+1,b,o=>if 4096<i-p\/most<=b then o
  else if s.getD (p+b) 0≠s.getD (i+b) 0 then pG s i most p b o
  else if b<oM s p i most then pG s i most p (oM s p i most) (o++[(oM s p i most,i-p)]) else pG s i most p b o
def Q0 (s:ax) (i:Nat):Nat:=min 273 (s.length-i)
def rF (s:ax) (i:Nat):List (Nat×Nat):=pG s i (Q0 s i) i 1 []
def HD (s:ax) (i:Nat) (c:Nat×Nat):Prop:=2<=c.1/\c.1<=Q0 s i/\1<=c.2/\c.2<=i/\c.2<=4096/\∀t,t<c.1->s.getD (i-c.2+t) 0=s.getD (i+t) 0
theorem ZoG (s:ax) (i:Nat):∀p b o,p<=i->1<=b->(∀c∈o,HD s i c)->(∀c∈o,c.1<=b)->o.Pairwise (λx y=>x.1<y.1)->
  (∀c∈pG s i (Q0 s i) p b o,HD s i c)/\(pG s i (Q0 s i) p b o).Pairwise (λx y=>x.1<y.1):=by
 intro p;induction p with
 |zero=>intro b o _ _ h _ hp;exact⟨h,hp⟩
 |succ p ih=>
  intro b o hpi hb h hm hp;unfold pG;split;exact aI;rename_i hg;split;exact aI;split
  .rename_i hn;have bY:HD s i (oM s p i (Q0 s i),i-p):=by refine⟨dw,Mh _ _ _ _,dw,dw,dw,λt ht=> ?_⟩;have:=ZoZ s p i (Q0 s i) t ht;rw[<-this];congr 1;exact dw
   refine ih _ _ O O (λc hc=> ?_) (λc hc=> ?_) ?_;rcases kY.1 hc with hc|hc;exact h c hc;rw[js.1 hc];exact bY;rcases kY.1 hc with hc|hc;have:=hm c hc;omega;rw[js.1 hc];exact aW;rw[List.pairwise_append];refine⟨hp,by simp,λx hx y hy=> ?_⟩;rw[js.1 hy];have:=hm x hx;exact dw
  grind
theorem Ln (s:ax) (i:Nat):(∀c∈rF s i,HD s i c)/\(rF s i).Pairwise (λx y=>x.1<y.1):=
 ZoG s i i 1 [] aW aW (λc g=>aI) (λc g=>aI) .nil
structure Pc where
 len:Nat
 dist:Nat
 byte:UInt8
deriving Inhabited,DecidableEq
structure St where
 cost:Nat
 pcs:Nat
 first:Pc
deriving Inhabited
def dP:St:=⟨0,0,⟨0,0,0⟩⟩
def price (p:Pc):Nat:=if p.dist=0 then 9 else 12+fc p.dist+fc p.len
def su (hi lo d:Nat):List Pc:=(List.range (hi-lo)).map (λt=>⟨hi-t,d,0⟩)
def un:List (Nat×Nat)->List Pc
 |[]=>[]
 |[c]=>su c.1 1 c.2
 |c::g::r=>su c.1 g.1 c.2++un (g::r)
def zL (tb:List St) (p:Pc):St:=⟨(tb.getD (p.len-1) dP).cost+price p,(tb.getD (p.len-1) dP).pcs+1,p⟩
def D4 (x c:St):Bool:=decide (x.cost<c.cost)||(decide (x.cost=c.cost)&&decide (x.pcs<c.pcs))
def kV (tb:List St) (c:Option St) (p:Pc):Option St:=match c with
 |none=>some (zL tb p)
 |some c=>if D4 (zL tb p) c=true then some (zL tb p) else some c
def vD (s:ax) (i:Nat):Pc:=⟨1,0,s.getD i 0⟩
def vt (s:ax) (i:Nat):List Pc:=un (rF s i).reverse++[vD s i]
def xA (s:ax) (i:Nat) (tb:List St):St:=((vt s i).foldl (kV tb) none).getD dP
def pP (s:ax):Nat->List St
 |0=>[dP]
 |k+1=>xA s (s.length-1-k) (pP s k)::pP s k
theorem U_ (s:ax) (k:Nat):(pP s k)=k+1:=by
 induction k with
 |zero=>rfl
 |succ k ih=>simp[pP,ih]
def qQ (s:ax):List St:=pP s s
def sx (s:ax):Nat->Nat->List Pc
 |0,_=>[]
 |f+1,i=>if i<s then((qQ s).getD i dP).first::sx s f (i+((qQ s).getD i dP).first.len) else[]
def nY (s:ax):List Pc:=sx s s 0
def rU (s:ax) (i:Nat) (p:Pc):Prop:=(p.dist=0/\p.len=1/\p.byte=s.getD i 0/\i<s)\/
 (1<=p.dist/\p.dist<=i/\p.dist<=4096/\2<=p.len/\p.len<=273/\i+p.len<=s/\p.byte=0/\∀t,t<p.len->s.getD (i-p.dist+t) 0=s.getD (i+t) 0)
theorem Vu {hi lo:Nat} {p:Pc} (h:p∈su hi lo d):lo<p.len/\p.len<=hi/\p.dist=d/\p.byte=0:=by obtain⟨t,g,rfl⟩:=iV.1 h;grind
theorem Uw:∀(l:List (Nat×Nat)) (p:Pc),(∀c∈l,2<=c.1)->p∈un l->∃c∈l,2<=p.len/\p.len<=c.1/\p.dist=c.2/\p.byte=0
 |[],p,_,h=>by cases h
 |[c],p,_,h=>by obtain⟨a,b,d,e⟩:=Vu h;grind
 |c::g::r,p,hl,h=>by rcases kY.1 h with h|h;obtain⟨a,b,d,e⟩:=Vu h;grind;obtain⟨x,q,y⟩:=Uw (g::r) p (λz k=>hl z (gN _ k)) h;grind
theorem Wz (hi:i<s):∀p∈vt s i,rU s i p:=by intro p g;rcases kY.1 g with g|g;obtain⟨c,k,h1,q,u,l⟩:=Uw _ p (λc k=>((Ln s i).1 c (List.mem_reverse.1 k)).1) g;obtain⟨k1,k2,k3,B,D,E⟩:=(Ln s i).1 c (List.mem_reverse.1 k);have y:Q0 s i<=273/\Q0 s i<=s.length-i:=⟨Nat.min_le_left _ _,Nat.min_le_right _ _⟩;exact .inr ⟨O,O,O,h1,O,O,l,λt z=>aI⟩;rw[js.1 g];exact .inl ⟨rfl,rfl,rfl,hi⟩
theorem Zbs (tb:List St):∀(l:List Pc) (c:Option St),(∀x,c=some x->∃p,p=x.first)->∀x,l.foldl (kV tb) c=some x->(c=some x)\/x.first∈l:=by
 intro l;induction l with
 |nil=>exact aI
 |cons p r ih=>intro c g x h;rcases ih (kV tb c p) (λx _=>⟨_,rfl⟩) x h with h1|h1;unfold kV at h1;rcases c with _|c;simp only at h1;injection h1 with h1;exact .inr (by rw[<-h1];exact fm);simp only at h1;split at h1;injection h1 with h1;exact .inr (by rw[<-h1];exact fm);grind;grind
theorem Gm (tb:List St) (c:Option St) (p:Pc):∃x,kV tb c p=some x:=by unfold kV;rcases c with _|c;exact aI;simp only;split<;>exact⟨_,rfl⟩
theorem ZcP (hi:i<s) (tb:List St):rU s i (xA s i tb).first:=by
 have g:∃x,(vt s i).foldl (kV tb) none=some x:=by unfold vt;rw[rn];exact Gm _ _ _
 obtain⟨x,g⟩:=g;have:=Zbs tb (vt s i) none (λx h=>aI) x g;unfold xA;rw[g];rcases this with h|h;exact aI;exact Wz hi _ h
theorem Zqd (s:ax) (k:Nat) (l:k<=s):∀j,j<k->(pP s k).getD j dP=xA s (s.length-k+j) (pP s (k-1-j)):=by
 induction k with
 |zero=>exact O
 |succ k ih=>
  intro j g;cases j with
  |zero=>show xA s (s.length-1-k) (pP s k)=_;grind
  |succ j=>show(pP s k).getD j dP=_;grind
theorem Vf (hi:i<s):rU s i ((qQ s).getD i dP).first:=by unfold qQ;rw[Zqd s s aW i hi];have:=ZcP (s:=s) (i:=s.length-s.length+i) O (pP s (s.length-1-i));grind
theorem rU.pos {p:Pc} (h:rU s i p):1<=p.len/\i+p.len<=s:=by rcases h with ⟨_,k,_,g⟩|⟨_,_,_,g,_,l,_⟩<;>omega
/-! ## What the pieces give -/
def QE (d:Nat):Nat->ax->ax
 |0,o=>o
 |n+1,o=>QE d n (o++[o.getD (o.length-d) 0])
def app (o:ax) (p:Pc):ax:=if p.dist=0 then o++[p.byte] else QE p.dist p.len o
theorem Zgy (h:i<s):s.take (i+1)=s.take i++[s.getD i 0]:=mM
theorem Zdq (hd:1<=d):∀n i,d<=i->i+n<=s.length->(∀t,t<n->s.getD (i-d+t) 0=s.getD (i+t) 0)->QE d n (s.take i)=s.take (i+n):=by
 intro n;induction n with
 |zero=>intro i _ _ _;rfl
 |succ n ih=>
  intro i h1 l g;have e:(s.take i).getD ((s.take i).length-d) 0=s.getD i 0:=by have k:(s.take i).length=i:=aI;rw[k];have:=g 0 O;grind
  show QE d n (s.take i++[(s.take i).getD ((s.take i).length-d) 0])=_;rw[e,<-Zgy (show i<s.length by omega),ih (i+1) O O (λt p=>by have:=g (t+1) O;rw[show i+1-d+t=i-d+(t+1) by omega,show i+1+t=i+(t+1) by omega];exact this)];grind
theorem Zoq {p:Pc} (h:rU s i p):app (s.take i) p=s.take (i+p.len):=by unfold app;rcases h with ⟨h1,g,k,l⟩|⟨h1,g,k,l,u,q,y,t⟩;exact mM;rw[az O,Zdq h1 _ _ g q t]
inductive tM (s:List UInt8):Nat->List Pc->Prop
 |done:tM s s.length []
 |step {i:Nat} {p:Pc} {l:List Pc} (h:rU s i p) (r:tM s (i+p.len) l):tM s i (p::l)
theorem Z5g (s:ax):∀f i,i<=s.length->s.length<=i+f->tM s i (sx s f i):=by
 intro f;induction f with
 |zero=>intro i h1 h2;have:i=s.length:=O;subst this;exact .done
 |succ f ih=>
  intro i h1 h2;unfold sx;split;.rename_i h;have hp:=Vf h;have:=hp.pos;exact .step hp (ih _ O O)
  have:i=s.length:=O;subst this;exact .done
theorem QM (s:ax):tM s 0 (nY s):=Z5g s s 0 (cf _) O
end
variable{b v:Nat}{c:ci}{s t:ax}
structure Ms where
 kind:List Nat
 bytes:List (List Nat)
 last:UInt8
 len:List Nat
 dist:List Nat
def wN (n:Nat):List Nat:=List.replicate (2 ^ n) 1024
def m0:Ms:=⟨wN 1,List.replicate 8 (wN 8),0,t0,t0⟩
def si (m:Ms):List Nat:=m.bytes.getD (m.last.toNat/32) []
def gG (b:Nat) (x:Ms×En):Ms×En:=({ x.1 with kind:=(fY 1 b 1 x.1.kind x.2).1 },(fY 1 b 1 x.1.kind x.2).2)
def rD (c:ci) (x:Ms×En):Ms×En:=({ x.1 with bytes:=x.1.bytes.set (x.1.last.toNat/32) (fY 8 c.toNat 1 (si x.1) x.2).1,last:=c },(fY 8 c.toNat 1 (si x.1) x.2).2)
def nW (v:Nat) (x:Ms×En):Ms×En:=({ x.1 with len:=(kT v (x.1.len,x.2)).1 },(kT v (x.1.len,x.2)).2)
def tq (v:Nat) (x:Ms×En):Ms×En:=({ x.1 with dist:=(kT v (x.1.dist,x.2)).1 },(kT v (x.1.dist,x.2)).2)
def lD (p:Pc) (x:Ms×En):Ms×En:=if p.dist=0 then rD p.byte (gG 0 x) else tq (p.dist-1) (nW (p.len-2) (gG 1 x))
def XT:List Pc->Ms×En->Ms×En
 |[],x=>x
 |p::l,x=>XT l (lD p x)
def lx (s:ax):Option ax:=if 4096<s.length then none else some (bj s.length++if s=[] then[] else ji (XT (nY s) (m0,e0)).2)
def fj (m:Ms) (d:De):Nat×Ms×De:=((er 1 1 m.kind d).1-2, { m with kind:=(er 1 1 m.kind d).2.1 },(er 1 1 m.kind d).2.2)
def qg (m:Ms) (d:De):ci×Ms×De:=(UInt8.ofNat ((er 8 1 (si m) d).1-256), { m with bytes:=m.bytes.set (m.last.toNat/32) (er 8 1 (si m) d).2.1,last:=UInt8.ofNat ((er 8 1 (si m) d).1-256) },(er 8 1 (si m) d).2.2)
def lu (m:Ms) (d:De):Int×Ms×De:=((gS m.len d).1, { m with len:=(gS m.len d).2.1 },(gS m.len d).2.2)
def pK (m:Ms) (d:De):Int×Ms×De:=((gS m.dist d).1, { m with dist:=(gS m.dist d).2.1 },(gS m.dist d).2.2)
def zu (n:Nat) (o:ax) (L D:Int):Bool:=decide (L<0)||decide (271<L)||decide ((n:Int)-o.length<L+2)||decide (D<0)||decide ((o.length:Int)<=D)
def rz:Nat->Nat->ax->Ms->De->Option ax
  |0,_,o,_,_=>some o
  | f + 1, n, o, m, d => if o.length < n then
      if(fj m d).1=0 then rz f n (o++[(qg (fj m d).2.1 (fj m d).2.2).1]) (qg (fj m d).2.1 (fj m d).2.2).2.1 (qg (fj m d).2.1 (fj m d).2.2).2.2
      else if zu n o (lu (fj m d).2.1 (fj m d).2.2).1 (pK (lu (fj m d).2.1 (fj m d).2.2).2.1 (lu (fj m d).2.1 (fj m d).2.2).2.2).1=true then none
      else rz f n (QE ((pK (lu (fj m d).2.1 (fj m d).2.2).2.1 (lu (fj m d).2.1 (fj m d).2.2).2.2).1.toNat+1) ((lu (fj m d).2.1 (fj m d).2.2).1.toNat+2) o)
        (pK (lu (fj m d).2.1 (fj m d).2.2).2.1 (lu (fj m d).2.1 (fj m d).2.2).2.2).2.1 (pK (lu (fj m d).2.1 (fj m d).2.2).2.1 (lu (fj m d).2.1 (fj m d).2.2).2.2).2.2
    else some o
def ya (data:ax) (n:Nat):Option ax:=rz n n [] m0 (d0 data)
def qm (data:ax) (most:Int):ax×Nat:=match dI data 4096 with
 |none=>([],12)
 |some (n,r)=>if most<(n:Int) then([],2) else match ya r n with
  |none=>([],12)
  |some s=>if lx s=some data then(s,0) else([],12)
/-! ## A text comes back -/
structure fy (m:Ms):Prop where
 k:iU m.kind/\m.kind.length=2
 bl:m.bytes.length=8
 b:∀t∈m.bytes,iU t/\t.length=256
 l:lM m.len
 d:lM m.dist
theorem Zlg (n:Nat):iU (wN n)/\(wN n).length=2 ^ n:=by refine⟨λx g=> ?_,iK⟩;rw[List.eq_of_mem_replicate g];omega
theorem DW:fy m0:=by refine⟨Zlg 1,by rfl,λt g=> ?_,zg,zg⟩;have:t=wN 8:=List.eq_of_mem_replicate g;rw[this];exact Zlg 8
theorem Lt (c:ci):c.toNat/32<8:=Jt
theorem GD {m:Ms} (h:fy m):iU (si m)/\(si m).length=256:=by have g:m.last.toNat/32<m.bytes.length:=(by rw[h.bl];exact Lt _);have e:si m=m.bytes[m.last.toNat/32]:=(by unfold si;grind);rw[e];exact h.b _ (dr _)
theorem VT {m:Ms} (h:fy m) {t:List Nat} (k:iU t/\t.length=256) (j:Nat):∀u∈m.bytes.set j t,iU u/\u.length=256:=by intro u g;rcases List.mem_or_eq_of_mem_set g with h1|h1;exact h.b u h1;grind
theorem XE {x:Ms×En} (h:fy x.1) (g:dB 0 x.2):fy (gG b x).1/\dB 0 (gG b x).2:=by obtain⟨a,c,d⟩:=Ba 1 b 1 h.k.1 Fl g;exact⟨⟨⟨a,c.trans h.k.2⟩,h.bl,h.b,h.l,h.d⟩,d⟩
theorem Zhx {x:Ms×En} (h:fy x.1) (g:dB 0 x.2):fy (rD c x).1/\dB 0 (rD c x).2:=by obtain⟨t1,p⟩:=GD h;obtain⟨a,b,d⟩:=Ba 8 c.toNat 1 t1 O g;exact⟨⟨h.k,Ry,VT h ⟨a,b.trans p⟩ _,h.l,h.d⟩,d⟩
theorem GQ {x:Ms×En} (h:fy x.1) (g:dB 0 x.2):fy (nW v x).1/\dB 0 (nW v x).2:=by obtain⟨a,b⟩:=Dd (v:=v) (x:=(x.1.len,x.2)) h.l g;exact⟨⟨h.k,h.bl,h.b,a,h.d⟩,b⟩
theorem Zip {x:Ms×En} (h:fy x.1) (g:dB 0 x.2):fy (tq v x).1/\dB 0 (tq v x).2:=by obtain⟨a,b⟩:=Dd (v:=v) (x:=(x.1.dist,x.2)) h.d g;exact⟨⟨h.k,h.bl,h.b,h.l,a⟩,b⟩
theorem GR {p:Pc} {x:Ms×En} (h:fy x.1) (g:dB 0 x.2):fy (lD p x).1/\dB 0 (lD p x).2:=by unfold lD;split;obtain⟨a,b⟩:=XE (b:=0) h g;exact Zhx a b;obtain⟨a,b⟩:=XE (b:=1) h g;obtain⟨c,d⟩:=GQ (v:=p.len-2) a b;exact Zip c d
theorem Zfg (l:List Pc):∀ {x:Ms×En},fy x.1->dB 0 x.2->fy (XT l x).1/\dB 0 (XT l x).2:=by
 induction l with
 |nil=>intro x h g;exact⟨h,g⟩
 |cons p l ih=>intro x h g;obtain⟨a,b⟩:=GR (p:=p) h g;exact ih a b
section
variable {F:ax}
theorem Zhf {x:Ms×En} (h:fy x.1) (g:dB 0 x.2) (l:Wi F (gG b x).2):Wi F x.2:=Hy 1 b 1 h.k.1 Fl g l
theorem Zhd {x:Ms×En} (h:fy x.1) (g:dB 0 x.2) (k:Wi F (rD c x).2):Wi F x.2:=by obtain⟨t1,l⟩:=GD h;exact Hy 8 c.toNat 1 t1 O g k
theorem Zof {p:Pc} {x:Ms×En} (h:fy x.1) (g:dB 0 x.2) (k:Wi F (lD p x).2):Wi F x.2:=by unfold lD at k;split at k;obtain⟨a,b⟩:=XE (b:=0) h g;exact Zhf h g (Zhd a b k);obtain⟨a,b⟩:=XE (b:=1) h g;obtain⟨c,d⟩:=GQ (v:=p.len-2) a b;exact Zhf h g (Dz (x:=((gG 1 x).1.len,(gG 1 x).2)) a.l b (Dz (x:=((nW (p.len-2) (gG 1 x)).1.dist,(nW (p.len-2) (gG 1 x)).2)) c.d d k))
theorem WN (l:List Pc):∀ {x:Ms×En},fy x.1->dB 0 x.2->Wi F (XT l x).2->Wi F x.2:=by
 induction l with
 |nil=>intro x _ _ h;exact h
 |cons p l ih=>intro x h g k;obtain⟨a,b⟩:=GR (p:=p) h g;exact Zof h g (ih a b k)
theorem Zgw (hb:b<2) {x:Ms×En} {d:De} (h:fy x.1) (g:dB 0 x.2) (l:Sy F x.2 d) (p:Wi F (gG b x).2):(fj x.1 d).1=b/\(fj x.1 d).2.1=(gG b x).1/\Sy F (gG b x).2 (fj x.1 d).2.2:=by obtain⟨a1,a2,a3⟩:=LX 1 b 1 h.k.1 Fl g l p;unfold fj gG;grind
theorem ZnN {x:Ms×En} {d:De} (h:fy x.1) (g:dB 0 x.2) (k:Sy F x.2 d) (l:Wi F (rD c x).2):(qg x.1 d).1=c/\(qg x.1 d).2.1=(rD c x).1/\Sy F (rD c x).2 (qg x.1 d).2.2:=by obtain⟨t1,q⟩:=GD h;obtain⟨a1,a2,a3⟩:=LX 8 c.toNat 1 t1 O g k l;have p:UInt8.ofNat ((er 8 1 (si x.1) d).1-256)=c:=mM;unfold qg rD;grind
theorem ZnP (p:v<4611686018427387904) {x:Ms×En} {d:De} (h:fy x.1) (g:dB 0 x.2) (k:Sy F x.2 d) (q:Wi F (nW v x).2):(lu x.1 d).1=v/\(lu x.1 d).2.1=(nW v x).1/\Sy F (nW v x).2 (lu x.1 d).2.2:=by obtain⟨a1,a2,a3⟩:=LW (x:=(x.1.len,x.2)) h.l g p k q;unfold lu nW;grind
theorem ZnO (l:v<4611686018427387904) {x:Ms×En} {d:De} (h:fy x.1) (g:dB 0 x.2) (k:Sy F x.2 d) (p:Wi F (tq v x).2):(pK x.1 d).1=v/\(pK x.1 d).2.1=(tq v x).1/\Sy F (tq v x).2 (pK x.1 d).2.2:=by obtain⟨a1,a2,a3⟩:=LW (x:=(x.1.dist,x.2)) h.d g l k p;unfold pK tq;grind
theorem ZfG (c5:s.length<=4096) {i:Nat} {l:List Pc} (a9:tM s i l):∀(f:Nat) {x:Ms×En} {d:De},s<=i+f->fy x.1->dB 0 x.2->Sy F x.2 d->Wi F (XT l x).2->rz f s (s.take i) x.1 d=some s:=by
 induction a9 with
 |done=>
  intro f x d _ _ _ _ _;have e:s.take s.length=s:=dU aW;cases f with
  |zero=>show some _=_;rw[e]
  |succ f=>unfold rz;grind
 | @step i p l z r ih=>
  intro f x d c6 y t R E;have c3:=z.pos;have a1:=Zoq z;cases f with
  |zero=>exact O
  |succ f=>
   have u:(s.take i)=i:=aI;obtain⟨I,G⟩:=GR (p:=p) y t;have g:Wi F (lD p x).2:=WN l I G E;unfold rz;rw[aP O];have b6:(p.dist=0/\p.len=1)\/(p.dist≠0/\1<=p.dist/\p.dist<=i/\2<=p.len/\p.len<=273):=by rcases z with ⟨h1,D,_⟩|⟨h1,D,_,a7,a8,_⟩;exact O;grind
   rcases b6 with ⟨h1,D⟩|⟨h1,D,c4,a7,a8⟩
   .have e:lD p x=rD p.byte (gG 0 x):=(by unfold lD;rw[aP h1]);rw[e] at g;obtain⟨q,k⟩:=XE (b:=0) y t;obtain⟨k1,k2,k3⟩:=Zgw (b:=0) O y t R (Zhd q k g);have Q:=ZnN (c:=p.byte) (x:=gG 0 x) q k k3 g;rw[<-k2] at Q;obtain⟨b1,a3,b3⟩:=Q;rw[aP k1,b1,a3];have B:s.take i++[p.byte]=s.take (i+p.len):=by rw[<-a1];unfold app;rw[aP h1]
    rw[B];have b9:rD p.byte ((fj x.1 d).2.1,(gG 0 x).2)=lD p x:=(by rw[e,k2]);have:=ih f (x:=lD p x) (d:=(qg (fj x.1 d).2.1 (fj x.1 d).2.2).2.2) O I G (by rw[e];exact b3) E;rw[<-this,e]
   have e:lD p x=tq (p.dist-1) (nW (p.len-2) (gG 1 x)):=(by unfold lD;rw[az h1]);rw[e] at g;obtain⟨q,k⟩:=XE (b:=1) y t;obtain⟨a0,le⟩:=GQ (v:=p.len-2) q k;have a2:Wi F (nW (p.len-2) (gG 1 x)).2:=Dz (x:=((nW (p.len-2) (gG 1 x)).1.dist,(nW (p.len-2) (gG 1 x)).2)) a0.d le g;have b7:Wi F (gG 1 x).2:=Dz (x:=((gG 1 x).1.len,(gG 1 x).2)) q.l k a2;obtain⟨k1,k2,k3⟩:=Zgw (b:=1) O y t R b7;have S:=ZnP (v:=p.len-2) O (x:=gG 1 x) q k k3 a2;rw[<-k2] at S;obtain⟨b4,l2,b5⟩:=S;have b8:i<=4096:=O;have M:=ZnO (v:=p.dist-1) O (x:=nW (p.len-2) (gG 1 x)) a0 le b5 g;rw[<-l2] at M;obtain⟨a4,a5,a6⟩:=M;rw[az (by rw[k1];omega),b4,a4];have hb:zu s (s.take i) ((p.len-2:Nat):Int) ((p.dist-1:Nat):Int)=false:=by unfold zu;rw[u];simp only[Bool.or_eq_false_iff,uN];refine⟨⟨⟨⟨?_,?_⟩,?_⟩,?_⟩,?_⟩<;>omega
   rw[hb,az aZ];have B:QE (((p.dist-1:Nat):Int).toNat+1) (((p.len-2:Nat):Int).toNat+2) (s.take i)=s.take (i+p.len):=by rw[<-a1];unfold app;rw[az h1,ek,ek];congr 1<;>omega
   rw[B,a5];have:=ih f (x:=lD p x) (d:=(pK (lu (fj x.1 d).2.1 (fj x.1 d).2.2).2.1 (lu (fj x.1 d).2.1 (fj x.1 d).2.2).2.2).2.2) O I G (by rw[e];exact a6) E;rw[<-this,e]
end
theorem ZqS (k:s.length<=4096) (p:s≠[]):ya (ji (XT (nY s) (m0,e0)).2) s.length=some s:=by obtain⟨k1,k2⟩:=Zfg (nY s) (x:=(m0,e0)) DW xK;have g:=Zlo k2;have l:=V0 (WN (nY s) (x:=(m0,e0)) DW xK g);exact ZfG k (QM s) s (x:=(m0,e0)) O DW xK l g
theorem ZqR (h:lx s=some t) (most:Int) (l:(s.length:Int)<=most):qm t most=(s,0):=by
 have h0:=h;unfold lx at h;split at h;exact aI;injection h with h;have p:dI t 4096=some (s.length,if s=[] then[] else ji (XT (nY s) (m0,e0)).2):=by rw[<-h];exact Y9 _ _ O O _
 unfold qm;have k:ya (if s=[] then[] else ji (XT (nY s) (m0,e0)).2) s.length=some s:=by by_cases g:s=[];rw[aP g,g];rfl;rw[az g];exact ZqS O g
 grind
theorem Zpx {most:Int} (h:qm t most=(s,0)):lx s=some t:=by unfold qm at h;grind
theorem Db (h:lx s=some t):s.length<=4096:=by unfold lx at h;grind
end Wv
namespace Go.Proofs.Y
open Wv Go.RowKit
variable{A:bS}{b:Nat}{s:aS}{vs:List aJ}{w w':au}
theorem Zqu {k:IntKind} {a b:Int} (h:a=b):Ending.returned (.int k a)=.returned (.int k b):=rr
theorem ZfT {a b:Bool} (h:a=b):Ending.returned a=.returned b:=rr
theorem KZ {a b:aS} (h:a=b):Ending.returned a=.returned b:=rr
theorem Zr4 {a b:aJ} (h:a=b):Ending.returned a=.returned b:=rr
theorem Zqk:(prog.info? 5).map (λi=>(i.zero,i.size,i.bytes))=some (some (.int .u8 0),1,1):=qH
theorem MR (h:s.size=0):s.toList.isEmpty=true:=P7
theorem MQ (h:0<s.size):s.toList.isEmpty=false:=O6
theorem Zp7 (s:aS) (z:Nat):s.extract z s.size=bs ((aH s).drop z):=O5
theorem Zp8 (s:aS) (z:Nat):s.extract 0 z=bs ((aH s).take z):=by apply xc;apply pV.1;simp[bs,aH]
theorem n_ {P:Program} (k g e:TypeId) (y:P.underlying k=some (.slice e)) (u:P.underlying e=some (.int .u8)) (hd:P.underlying g=some .string) {l:ax} (h:At w A (l.map bv)) (cap:Nat):
  (convert k g (.slice A l cap)).run P w=.ok (.string (bs l)) w:=by
 rcases A with _|a
 .have D:l=[]:=by rcases l with _|⟨c,t⟩;rfl;obtain⟨b,p,h,_⟩:=h 0 (by simp);cases h
  subst D;exact run_convert_bytes_nil w k e y u 0 cap g hd
 refine run_convert_bytes_back w k g e a cap l y u hd (λj B=> ?_);obtain⟨b,o,q,hb,z⟩:=h j (by rw[dc];exact B);injection q with q;subst q;rw[Go.WideShapes.add_plain,z];simp[bv]
theorem Ks {r:Nat} (k:Fr (only r) w w') {B:Nat} (g:B<=w) (p:B<=r):Below B w w':=k.toBelow' g (λj l e=>by have:j=r:=e;omega)
theorem Xp (h:Fr (only b) w w') (o:Nat) (x:aJ):Fr (only b) w (w'.setCell (b,o) x):=h.setCell (p:=⟨b,o,none⟩) (.inl rfl) x
theorem UB (w:au) (o p:Obj):Below w w ((w.alloc o).alloc p):=((bi w w).alloc aW _).alloc (by simp) _
theorem Ve {o:Nat} (h:At w (some ⟨b,o,none⟩) vs) (k:Nat):At w (some ⟨b,o+k,none⟩) (vs.drop k):=λi hi=>by rw[jt] at hi;obtain⟨q,t,h1,g,l⟩:=h (k+i) O;injection h1 with h1;injection h1 with h1 p;subst h1;subst p;exact⟨b,o+k,rfl,g,by rw[IC,EA];exact l⟩
theorem VG (h:At w A vs) (k:Nat):At w A (vs.take k):=λi hi=>by rw[eC] at hi;obtain⟨b,o,h1,g,l⟩:=h i O;exact⟨b,o,h1,g,by rw[List.getElem_take];exact l⟩
theorem L9 {T:TypeId} {cs:Array aJ} (h:At w A vs) (hk:Bk w b T cs) (F:∀v∈vs,v∉cs.toList) (k:Nat) (x:aJ):At (w.setCell (b,k) x) A vs:=by intro i hi;obtain⟨l,o,t,hb,g⟩:=h i hi;have q:l≠b:=Oq;refine⟨l,o,t,by simpa using hb,?_⟩;exact((Fr.refl (λj=>j=b) w).setCell (p:=⟨b,k,none⟩) (.inl rfl) x).cell (p:=⟨l,_,none⟩) hb q|>.trans g
theorem Zls {T:TypeId} {cs:Array aJ} (h:At w A vs) (hk:Bk w b T cs) (F:∀v∈vs,v∉cs.toList) (l:Fr (only b) w w'):At w' A vs:=by intro i hi;obtain⟨k,o,t,hb,g⟩:=h i hi;have q:k≠b:=Oq;exact⟨k,o,t,eD hb l.size,(l.cell (p:=⟨k,_,none⟩) hb q).trans g⟩
def NV (w:au) (v:aJ) (n:gY):Prop:=∃A cap,v=.agg #[n.neg,.slice A n.dg cap,n.ex]/\At w A (n.dg.map bv)/\n.dg.length<=cap/\cap<=maxLen
theorem NV.below {v:aJ} {n:gY} (h:NV w v n) (hb:Below w w w'):NV w' v n:=by obtain⟨A,cap,h1,g,k,l⟩:=h;exact⟨A,cap,h1,g.below hb,k,l⟩
structure Sz (n:gY):Prop where
 lo: -2000000<=n.ex
 hi:n.ex<=2000000
 len:n.dg.length<=100000
theorem ZbV (b:Bool) (A:bS) (L cap:Nat) (e:Int) (s1: -2000000<=e) (g:e<=2000000) (s3:L<=100000) (w:au):
  Calls prog 254 #[.agg #[b,(A,L,cap),e]] w (bN w (e+L-1:Int)):=by go_in;go_wp2;go_returns;exact⟨rfl,(bi w w).alloc aW _⟩
def IB (g W:au) (x y:Nat) (k cb:Array aJ):Prop:=Bk W x 301 k/\Bk W y 301 cb/\Below g g W
theorem IB.below {k W W':au} {x y:Nat} {g cb:Array aJ} (h:IB k W x y g cb) (hb:Below W W W'):IB k W' x y g cb:=
 ⟨Bk.below h.1 hb (Bk.lt h.1),Bk.below h.2.1 hb (Bk.lt h.2.1),h.2.2.trans (hb.mono h.2.2.size)⟩
def gL (w:au):Prop:=∀W,Below w w W->Lib.TabIs prog W "internal/strconv.uint64pow10" .u64 Lib.pow10Tab
theorem gL.below (h:gL w) (hb:Below w w w'):gL w':=λk g=>h k (hb.trans (g.mono hb.size))
theorem RH (n:Nat):Lib.decDigits n=qi n:=by
 induction n using Nat.strongRecOn with
 |ind n ih=>rw[Lib.decDigits,qi];split;rfl;rw[ih (n/10) O]
theorem Zes (n:Int):Lib.itoa n=kd n:=by unfold Lib.itoa kd;split;rw[RH,show n.natAbs=(-n).toNat by omega];rw[RH]
theorem Zfk (l:gL w) (n:Int) (h0: -9223372036854775808<=n) (h1:n<=9223372036854775807):
  dt 255 #[n] w (bN w (bs (kd n))):=by refine(Tryz.strconv_Itoa n h0 h1 w (l w (bi _ _))).mono ?_;rintro x w' ⟨rfl,k,os,rfl⟩;refine⟨KZ (by rw[Zes];rfl),?_⟩;have h1:=mU (bi w w) k;refine⟨h1.os,h1.tape,h1.output,?_,λj g=> ?_⟩;show w.heap.size<=(w.heap++os).size;rw[Array.size_append];omega;show(w.heap++os)[j]? =w.heap[j]?;rw[Array.getElem?_append_left g]
