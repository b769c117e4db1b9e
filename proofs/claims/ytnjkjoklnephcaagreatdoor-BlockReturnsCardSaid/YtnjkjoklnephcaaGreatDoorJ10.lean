import Derived.Test.YtnjkjoklnephcaaGreatDoorJ08
import Derived.SliceStrings
import Derived.Test.YtnjkjoklnephcaaGreatDoorJ03
set_option linter.all false
set_option maxRecDepth 100000
set_option maxHeartbeats 0
open Go.Proofs.Tryz (prog)
section
variable{P Q:Prop}
theorem Fe(h:P:=by unfold maxLen at hm;omega):P:=h
theorem Q2(h:P:=by refine key (iv (q j).1) ?_ (by rw[u];exact G);rw[u];simpa using p):P:=h
theorem P1(h:P:=by obtain⟨_,u,_⟩:=g 0 (by omega);simpa [Addr.add] using World.cell?_spot u):P:=h
theorem P2(h:P:=by intro v h1 h2;obtain⟨_,a7⟩:=List.getElem?_eq_some_iff.1 h1;rw[a7];exact h2):P:=h
theorem I4(h:P:=by simp at h0;obtain⟨rfl,rfl,rfl⟩:=h0;exact⟨[],At.nil _ _,by simp,rfl,by omega⟩):P:=h
end
namespace Wv
variable{k:Nat}{l:bd}{w:Int}
def ZH (w:Int) (l:bd):Bool:=l.all (λv=>gW w (aH v))&&(decide (1<=w)&&decide (w<=128)&&decide (l.length<=4096))
theorem ZI :ZH w l=true↔(∀v∈l,gW w (aH v)=true)/\1<=w/\w<=128/\l.length<=4096:=by unfold ZH;grind
def BD (l:bd) (j:Nat):Option aS:=if(vz (aH (l.getD j default)) (aH (l.getD (j+1) default))).2=true then some (bs (vz (aH (l.getD j default)) (aH (l.getD (j+1) default))).1) else none
def gQ (l:bd) (k:Nat):bd:=(List.range k).filterMap (BD l)
def zv (l:bd):bd:=gQ l (l.length-1)
theorem ZdC (l:bd) (k:Nat):gQ l (k+1)=gQ l k++(BD l k).toList:=by unfold gQ;rw[vU,List.filterMap_append];grind
theorem a_ :∀d∈gQ l k,jR (aH d)=true:=by
 intro d hd;obtain⟨j,_,hj⟩:=List.mem_filterMap.1 hd;unfold BD at hj;split at hj;.rename_i h;injection hj with hj;subst hj;exact(Tv (Prod.ext rfl h)).1
 grind
def Yw (F:aS->Nat) (p:aS×Nat) (d:aS):aS×Nat:=if p.2<F d then(d,F d) else p
def BM (g:bd):aS:=(g.foldl (Yw (λd=>g.count d)) (bs [],0)).1
def ZF (l:bd):aS:=if l=[]\/ZH ((l.getD 0 default).size:Int) l=false then bs [] else BM (zv l)
theorem ZhK (F:aS->Nat) (p:aS×Nat) (d:aS):p.2<=(Yw F p d).2/\F d<=(Yw F p d).2:=by unfold Yw;grind
theorem Zmp (F:aS->Nat) (g:bd):∀p,p.2<=(g.foldl (Yw F) p).2/\∀d∈g,F d<=(g.foldl (Yw F) p).2:=by
 induction g with
 |nil=>exact aI
 |cons a r ih=>intro p;obtain⟨h1,k⟩:=ZhK F p a;grind
theorem Xf (l:bd) (x:aS):da (l++[x])=MN (da l) x:=by unfold da;grind
theorem Ze9 (F:aS->Nat) (g:bd) (p:aS×Nat):(da g).foldl (Yw F) p=g.foldl (Yw F) p:=by
 rw[<-List.reverse_reverse g];induction g.reverse with
 |nil=>rfl
 |cons a r ih=>rw[List.reverse_cons,Xf,rn];unfold MN;by_cases h:a∈da r.reverse;rw[aP h,ih];have k:a∈r.reverse:=(X4 _ _).1 h;have:=(Zmp F r.reverse p).2 a k;generalize List.foldl (Yw F) p r.reverse=q at*;unfold Yw;grind;grind
theorem ZiK (F:aS->Nat) (g:bd):∀p,p.2=F p.1->(g.foldl (Yw F) p).2=F (g.foldl (Yw F) p).1:=by
 induction g with
 |nil=>exact aI
 |cons a r ih=>intro p h;apply ih;unfold Yw;grind
def tE (l:bd) (st:aS) (j:Nat):Bool:=decide (qf (aH (l.getD j default)) (aH st)=(aH (l.getD (j+1) default),true))
def jQ (l:bd) (st:aS) (k:Nat):List Int:=((List.range k).filter (λj=> !tE l st j)).map (λ(j:Nat)=>(j:Int)+1)
def iI (l:bd) (st:aS):List Int:=jQ l st (l.length-1)
theorem ZiC (l:bd) (st:aS) (k:Nat):jQ l st (k+1)=if tE l st k=true then jQ l st k else jQ l st k++[(k:Int)+1]:=by unfold jQ;rw[vU,List.filter_append,jv];grind
theorem LM (l:bd) (st:aS) (k:Nat):(jQ l st k)<=k:=by unfold jQ;grind
theorem ZkQ {st:aS} :∀x∈jQ l st k,1<=x/\x<=(k:Int):=by intro x g;obtain⟨j,p,rfl⟩:=iV.1 g;grind
theorem Zbp (l:bd) (st:aS) (k:Nat):(jQ l st k).Pairwise (· <·):=by unfold jQ;rw[List.pairwise_map];exact(List.pairwise_lt_range.sublist List.filter_sublist).imp (λh=>O)
def hK (l:bd) (x:List Int):bd:=x.map (λi=>l.getD i.toNat default)
def ZM (l:bd):bd:=l.map (λv=>bs (fJ (aH v)))
def jl (w:Int):bd->Option bd
 |[]=>some []
 |s::r=>if(ext w (aH s)).2=0 then(jl w r).map (bs (ext w (aH s)).1::·) else none
def ly (last:aS):bd->bd
 |[]=>[]
 |v::r=>bs (jp (aH v) (aH last)).1::ly v r
def Yg (last:aS):bd->bd
 |[]=>[]
 |v::r=>bs (jp (aH v) (aH last)).1::Yg (bs (jp (aH v) (aH last)).1) r
theorem JK (h:∀v∈l,gW w (aH v)=true):jl w (ZM l)=some l:=by
 induction l with
 |nil=>rfl
 |cons v r ih=>have k:=ZK.1 (h v fm);have g:=LO k.1;rw[k.2] at g;show(if(ext w (aH (bs (fJ (aH v))))).2=0 then(jl w (ZM r)).map (bs (ext w (aH (bs (fJ (aH v))))).1::·) else none)=_;rw[Zk,g,aP rfl,ih (λx p=>h x (gN _ p))];rfl
theorem JL {r:bd} (h:jl w l=some r):(∀v∈r,gW w (aH v)=true)/\r=l.length:=by
 induction l generalizing r with
 |nil=>injection h with h;grind
 |cons s t ih=>
  unfold jl at h;split at h
  .rename_i he;match hq:jl w t,h with
   |none,h=>cases h
   |some q,h=>injection h with h;subst h;refine⟨λv hv=> ?_,aI⟩;rcases jx.1 hv with rfl|hv;exact q_ (Prod.ext rfl he);grind
  grind
theorem Dc (l:bd):∀last,(ly last l)=l.length:=by
 induction l with
 |nil=>intro _;rfl
 |cons v r ih=>simp[ly,ih]
theorem Zo9 {a b:ax} (l:gW w a=true) (hb:gW w b=true):gW w (jp a b).1=true/\jp (jp a b).1 b=(a,0):=by obtain⟨a1,a2⟩:=ZK.1 l;obtain⟨b1,p⟩:=ZK.1 hb;obtain⟨m,h1,g,q,k⟩:=Zja a1 b1 O;rw[h1];exact⟨ZK.2 ⟨g,aI⟩,k⟩
theorem ZbJ :∀ {last:aS},gW w (aH last)=true->(∀v∈l,gW w (aH v)=true)->(∀v∈ly last l,gW w (aH v)=true)/\Yg last (ly last l)=l:=by
 induction l with
 |nil=>intro last _ _;exact⟨λv g=>(by cases g),rfl⟩
 |cons v r ih=>intro last p h;have g:=h v fm;obtain⟨t,u⟩:=Zo9 g p;obtain⟨i1,q⟩:=ih (last:=v) g (λx k=>h x (gN _ k));refine⟨λx k=> ?_,?_⟩;rcases jx.1 k with rfl|k;exact t;grind;show bs (jp (aH (bs (jp (aH v) (aH last)).1)) (aH last)).1::Yg (bs (jp (aH (bs (jp (aH v) (aH last)).1)) (aH last)).1) (ly v r)=_;rw[Zk,u];simp only[Zd];rw[q]
theorem Zhn (h1:1<=w) (k:w<=128):gW w (mE w 48)=true:=by unfold mE;rw[az (by simp[nV,cd];omega)];refine ZK.2 ⟨Zo.2 ⟨λc g=> ?_,λh=> ?_,aI⟩,aI⟩;rw[List.eq_of_mem_replicate g];decide;have:=congrArg List.length h;grind
end Wv
namespace Wv
open Go Go.RowKit Go.Deep Go.ChangeShapes Go.WideShapes
variable{A:bS}{cap fuel n:Nat}
theorem GF {w:au} {p:Addr} {v:aJ} (h:w.cell? p=some v):p.block<w:=by rcases Nat.lt_or_ge p.block w.heap.size with h1|h1;exact O;have g:w.heap[p.block]? =none:=Array.getElem?_eq_none h1;simp[World.cell?,g] at h
section
variable {H:Type} {enc:TypeId×aJ->H} {P:Program} {w:au} {base:Nat} {spare:Nat->Bool} {held:Bool}
def kD (n:Int):Prop:= -9223372036854775808<=n/\n<=9223372036854775807
theorem DF {n:Int} (h:(Lit.int .i64 n).wf=true):kD n:=bounds_i64 h
theorem Zgr {t e:TypeId} {x:DataW H×List MemPlace} (E:P.underlying t=some (.slice e)) (c0:P.cellsOf e=1) (I:P.underlying e=some .string)
  (h:DataW.trod enc P w base spare held fuel t [.slice A n cap]=some x):
  ∃l:bd,At w A (l.map sv)/\(∀s∈l,s.size<=9223372036854775807)/\n=l/\n<=9223372036854775807:=by
 rcases open_slice1 E c0 h with ⟨h0,_⟩|⟨a,len,c,m,k,V,D,Pl,y,hb,R,hm,S,rfl,F⟩;exact I4;simp at y;obtain⟨rfl,rfl,rfl⟩:=y;have Q:n<=m:=aI;have each:∀i,i<n->∃q:aS,q.size<=maxLen/\w.cell? (a.add i)=q:=by intro i hi;obtain⟨h1,z⟩:=F i O;obtain⟨q,r,_,a0⟩:=DataW.trod_string I z;grind
 obtain⟨q,p⟩:=choose_lt each;refine⟨(List.range n).map q,?_,?_,by simp,Fe⟩;intro i hi;have M:i<n:=aI;have u:=(p i M).2;obtain⟨b,off,g⟩:=a;have G:g=none:=(by simpa [Addr.add] using World.cell?_spot (p 0 O).2);subst G;rw[add_plain] at u;refine⟨b,off,rfl,GF u,?_⟩;simp only[uL,Ez,sv];exact u;intro c B;obtain⟨i,hi,rfl⟩:=iV.1 B;have:=(p i (List.mem_range.1 hi)).1;unfold maxLen at this;omega
def pv (l:List (Int×Int)):List aJ:=l.flatMap λx=>[iv x.1,iv x.2]
theorem Q8 (l:List (Int×Int)):(pv l)=l.length*2:=by
 induction l with
 |nil=>rfl
 |cons c D ih=>rw[show pv (c::D)=[iv c.1,iv c.2]++pv D from rfl,bT,ih,f'];exact fp
theorem QN (l:List (Int×Int)) (x:Int×Int):pv (l++[x])=pv l++[iv x.1,iv x.2]:=by simp[pv]
theorem zi (D:List (Int×Int)):∀(i:Nat) (h:i<D),(pv D)[i*2]? =some (iv D[i].1)/\(pv D)[i*2+1]? =some (iv D[i].2):=by
 induction D with
 |nil=>exact aI
 |cons c D ih=>
  intro i h;have e:pv (c::D)=[iv c.1,iv c.2]++pv D:=rfl;match i,h with
  |0,_=>exact⟨rfl,rfl⟩
  |i+1,h=>have g:i<D:=aI;rw[e,pR aI,pR aI];have:=ih i g;rw[show(i+1)*2-[iv c.1,iv c.2].length=i*2 from by exact fp,show(i+1)*2+1-[iv c.1,iv c.2].length=i*2+1 from by exact fp];exact this
theorem JQ {t e i0:TypeId} {f0 f1:Field} {x:DataW H×List MemPlace} (a9:P.underlying t=some (.slice e)) (a8:P.underlying e=some (.struct #[f0,f1]))
  (a4:P.cellsOf e=2) (o:f0.offset=0/\f1.offset=1) (tt:f0.type=i0/\f1.type=i0) (c0:P.cellsOf i0=1) (R:P.underlying i0=some (.int .i64))
  (h:DataW.trod enc P w base spare held fuel t [.slice A n cap]=some x):
  ∃l:List (Int×Int),At w A (pv l)/\(∀c∈l,kD c.1/\kD c.2)/\n=l/\n<=9223372036854775807:=by
 obtain⟨b3,b4⟩:=o;obtain⟨t0,t1⟩:=tt;rcases open_slice a9 h with ⟨h0,_⟩|⟨a,len,c,m,k,D,Pl,E,hb,c5,hm,c6,rfl,b0⟩;exact I4;simp at E;obtain⟨rfl,rfl,rfl⟩:=E;have b9:n<=m:=aI
 have each:∀i,i<n->∃q:Int×Int,(kD q.1/\kD q.2)/\w.cell? (a.add (i*2))=q.1/\w.cell? (a.add (i*2+1))=q.2:=by
  intro i hi;obtain⟨a2,h1,h2⟩:=b0 i O;rw[a4] at h1;obtain⟨_,y,B⟩:=World.cells?_some h1;obtain⟨b7,k',c4,b8,_,a5,M⟩:=DataW.trod_struct a8 h2;match b7,a5,a2,y with
  |[c7,y1],_,[v0,v1],_=>have F:=M 0 f0 rfl;have I:=M 1 f1 rfl;simp[b3,t0,c0] at F;simp[b4,t1,c0] at I;obtain⟨a3,r0,_,b6⟩:=DataW.trod_int R F;obtain⟨a1,Q,_,w1⟩:=DataW.trod_int R I;simp at r0 Q;subst r0 Q;have e0:=B 0 O;have a6:=B 1 O;rw[add_add] at e0 a6;exact⟨(a3,a1),⟨DF b6,DF w1⟩,aI,aI⟩
 have b1:Inhabited (Int×Int):=⟨(0,0)⟩;obtain⟨q,g⟩:=choose_lt each;refine⟨(List.range n).map q,?_,?_,by simp,Fe⟩;intro i hi;rw[Q8] at hi;obtain⟨j,c3⟩:=ay (i/2);have S:j<n:=(by simp at hi;omega);obtain⟨_,G,q1⟩:=g j S;obtain⟨b,off,z⟩:=a;have b2:z=none:=P1;subst b2;rw[add_plain] at G q1;refine⟨b,off,rfl,GF G,?_⟩;obtain⟨p,b5⟩:=zi ((List.range n).map q) j (by simpa using S);have u:i=j*2\/i=j*2+1:=O;have key:∀v,(pv ((List.range n).map q))[i]? =some v->w.cell? ⟨b,off+i,none⟩=some v->w.cell? ⟨b,off+i,none⟩=some ((pv ((List.range n).map q))[i]'(by rw[Q8];exact hi)):=P2;rcases u with u|u;exact Q2;refine key (iv (q j).2) ?_ (by rw[u];exact q1);rw[u];simpa using b5;grind
end
end Wv
namespace Wv
open Go.Lib (trailingZeros8)
variable{n:Nat}{s:aS}
def oo (s:aS):Option Nat:=
 if s.size=0 then none
 else if s.data.toList.getD (s.size-1) 0=0 then none
 else if 65536<8*s.size-1-trailingZeros8 (s.data.toList.getD (s.size-1) 0).toNat then none
 else some (8*s.size-1-trailingZeros8 (s.data.toList.getD (s.size-1) 0).toNat)
def zd (s:aS) (n:Nat):Prop:=n<8*s.size/\jD s n=true/\∀i,n<i->i<8*s.size->jD s i=false
theorem zd.unique {m:Nat} (h:zd s n) (k:zd s m):n=m:=by rcases Nat.lt_trichotomy n m with c|c|c;have:=h.2.2 m c k.1;rw[k.2.1] at this;cases this;exact O;have:=k.2.2 n c h.1;rw[h.2.1] at this;cases this
theorem Wg:∀x:Fin 256,x.val≠0->trailingZeros8 x.val<8/\x.val.testBit (trailingZeros8 x.val)=true/\∀j:Fin 8,j.val<trailingZeros8 x.val->x.val.testBit j.val=false:=Au
theorem v_ (s:aS) (h0:s.size≠0) (k:s.data.toList.getD (s.size-1) 0≠0):zd s (8*s.size-1-trailingZeros8 (s.data.toList.getD (s.size-1) 0).toNat):=by
 obtain⟨x,l⟩:=ay (s.data.toList.getD (s.size-1) 0);rw[l] at k⊢;have p:x.toNat≠0:=λh=>k (by have:=congrArg UInt8.ofNat h;simpa using this);obtain⟨h1,q,g⟩:=Wg ⟨x.toNat,iA x⟩ p;simp only at h1 q g;have t:∀i,8*(s.size-1)<=i->i<8*s.size->jD s i=x.toNat.testBit (7-i % 8):=by intro i a b;rw[jD,show i/8=s.size-1 from by exact O,l]
 refine⟨O,?_,λi a b=> ?_⟩;exact aI;rw[t i O b];exact g ⟨7-i % 8,O⟩ aI
theorem M4 (h:oo s=some n):n<=65536/\zd s n/\s.size<=8193:=by unfold oo at h;split at h;exact aI;rename_i h0;split at h;exact aI;rename_i h1;split at h;exact aI;rename_i h2;injection h with h;have:=v_ s h0 h1;rw[h] at this h2;refine⟨O,this,?_⟩;have h8:trailingZeros8 (s.data.toList.getD (s.size-1) 0).toNat<=8:=Go.Lib.trailingZeros8_le8 ⟨_,iA _⟩;omega
theorem ZpF (h:zd s n) (h0:s.size≠0) (g:s.data.toList.getD (s.size-1) 0≠0):oo s=if 65536<n then none else some n:=by have:=(v_ s h0 g).unique h;unfold oo;grind
theorem ZeT (h:s.size=0):oo s=none:=by unfold oo;grind
theorem ZeU (h:s.data.toList.getD (s.size-1) 0=0):oo s=none:=by unfold oo;grind
def rE (l:List Bool):aS:=⟨(cy (l++[true])).toArray⟩
theorem HV (l:List Bool):(rE l).size=l.length/8+1:=by show(cy (l++[true])).toArray.size=_;simp[lz];omega
theorem rbit_pack (l:List Bool) (i:Nat) (h:i<8*(cy l).length):jD ⟨(cy l).toArray⟩ i=l.getD i false:=by
 have h1:(cy l).toArray.toList.getD (i/8) 0=UInt8.ofNat (Y2 l (i/8)):=by simp only[List.getD,fD (show i/8<(cy l).length by omega),XI];rfl
 have g:(UInt8.ofNat (Y2 l (i/8))).toNat=Y2 l (i/8):=by have:=Xe l (i/8);simp[Nat.mod_eq_of_lt this]
 unfold jD;show((cy l).toArray.toList.getD (i/8) 0).toNat.testBit _=_;rw[h1,g];have p:Y2 l (i/8)/2 ^ (7-i % 8) % 2=bt l i:=by have e:∀k,bt l k<=1:=ZqG l;rw[Yx];have F:i % 8<8:=Nat.mod_lt _ O;have hi:i=8*(i/8)+i % 8:=(Nat.div_add_mod i 8).symm;generalize i/8=q at*;generalize i % 8=m at*;subst hi;have e0:=e (8*q);have t:=e (8*q+1);have u:=e (8*q+2);have y:=e (8*q+3);have z:=e (8*q+4);have B:=e (8*q+5);have D:=e (8*q+6);have E:=e (8*q+7);have:m=0\/m=1\/m=2\/m=3\/m=4\/m=5\/m=6\/m=7:=O;grind
 rw[Nat.testBit_eq_decide_div_mod_eq,p,bt];grind
theorem nrd_bstr (l:List Bool) (h:l.length<=65536):oo (rE l)=some l.length/\dY (rE l) l.length=l:=by
 have u:=HV l;have q:(cy (l++[true]))=l.length/8+1:=(by rw[lz,bT,pi];omega);have t:∀i,i<8*(l.length/8+1)->jD (rE l) i=(l++[true]).getD i false:=λi hi=>rbit_pack (l++[true]) i O;have g:zd (rE l) l.length:=by refine⟨O,?_,λi a b=> ?_⟩;exact aI;grind
 constructor;rw[ZpF g O ?_,az O];intro p;have h1:=g.2.1;unfold jD at h1;rw[show l.length/8=(rE l).size-1 from by exact O,p] at h1;simp at h1;apply xa;rw[rM];intro i h1 k;have:=M6 (rE l) l i k;grind
end Wv
namespace Go.Proofs.Y
open Wv Go.RowKit
variable{a:Int}{b:Nat}{w:au}
theorem KY {j k:IntKind} {b g l:Int} (h:a=g) (p:b=l):Ending.returned (.tuple #[.int j a,.int k b])=.returned (.tuple #[.int j g,.int k l]):=by rw[h,p]
theorem Gu {k:IntKind} {b:Int} (h:a=b):Ending.returned (.int k a)=.returned (.int k b):=rr
theorem Zpu {x n:Nat} {s:aS} (h:gJ w b s x n) (p:Int) (h0:0<=p) (h1:p<=62):
  Calls prog 336 #[(b,0),p] w λe w'=>∃(v:Int) (u y:Nat),e=.returned (.tuple #[.int .i64 v,u])/\gJ w' b s y n/\Fr (only b) w w'/\vk 0 p.toNat ((dY s n).drop x) x v u y:=by
 have E:=h.2.1;have k:((dY s n).drop x).length=n-x:=(by rw[jt,rM]);have g:rd 0 p.toNat ((dY s n).drop x)=if n-x<p.toNat then(0,0,12) else(val (((dY s n).drop x).take p.toNat),p.toNat,0):=by rw[<-k];rfl
 by_cases z:n-x<p.toNat;.rw[aP z] at g;have H:=J (ZnS h p O);have l:=J (show ∀v y,vk 0 p.toNat ((dY s n).drop x) x v 12 y from λv y=>⟨λ_=>by rw[g],λh=>by rw[g] at h;simp at h,λh=>by rw[g] at h;simp at h⟩);clear g;go_in;go_wp2_with (go_at_call 337;refine(H.o).mono ?_;rintro e w1 ⟨rfl,q,rfl⟩);go_ret2;exact⟨_,12,x,rfl,h,(Fr.refl _ _).drewN _,l.o _ _⟩
 rw[az z] at g;have t:=Zkg h p.toNat O O;rw[Int.toNat_of_nonneg h0] at t;have H:=J t;have l:=J (show vk 0 p.toNat ((dY s n).drop x) x (val (((dY s n).drop x).take p.toNat):Nat) 0 (x+p.toNat) from⟨λh=>by rw[g] at h;simp at h,λ_ _=>by rw[g];exact⟨rfl,rfl,rfl⟩,λ_ h=>by have:=RW ((dY s n).drop x) p.toNat O;rw[g] at h;simp only at h;omega⟩);clear g t;go_in;go_wp2_with (go_at_call 337;refine(H.o).mono ?_;rintro e w1 ⟨rfl,D,B⟩);go_ret2;exact⟨_,0,_,rfl,D,B,l.o⟩
theorem Zku {d0 k p:aJ} {w1 t:au} (f1:Fr (foot b d0) w w1) (q:xx w d0 k) (u:Fr (foot b k) w1 t) (z:xx w1 k p):
  Fr (foot b d0) w t/\xx w d0 p:=by refine⟨f1.trans' u (λi hi y=> ?_),?_⟩;rcases y with h|h;exact .inl h;rcases q with h1|h1;exact .inr (h1▸h);have:=h1 i h;omega;rcases z with h|h;rcases q with h1|h1;exact .inl (h.trans h1);exact .inr (λg l=>h1 g (h▸l));exact .inr (λg l=>cp f1.size (h g l))
theorem ZpZ {a b:Bool} (h:a=b):Ending.returned a=.returned b:=rr
theorem Z6C {v:Int} (h:0<=v) (p:Nat):(v/2 ^ p==0)=decide (v<2 ^ p):=by obtain⟨n,rfl⟩:=Int.eq_ofNat_of_zero_le h;rw[WC,<-Int.natCast_ediv];have h1:=Nat.two_pow_pos p;have g:n/2 ^ p=0↔n<2 ^ p:=(by rw[Nat.div_eq_zero_iff];omega);rw[lO,beq_iff_eq,decide_eq_true_eq];omega
theorem ZmK (p v:Int) (h0:0<=p) (h1:p<=62) (y: -9223372036854775808<=v) (z:v<=9223372036854775807) (w:au):
  Calls prog 333 #[p,v] w λe w'=>e=.returned (qN 0 p v)/\∃q,w'=w.drewN q:=by
 have k:uz 0 p=true:=(by simp[uz];omega);by_cases t:0<=v;.have g:qN 0 p v=decide (v<2 ^ p.toNat):=(by simp[qN,k,t]);have l:=J g;have u:=J (Z6C t p.toNat);clear g k;skip;go_in;go_wp2;go_ret;exact⟨ZpZ (u.o.trans l.o.symm),0,rfl⟩
 have g:qN 0 p v=false:=(by simp[qN,k,t]);have l:=J g;clear g k;go_in;go_wp2;go_ret;exact⟨ZpZ l.o.symm,0,rfl⟩
theorem Zpv (p v:Int) (h:qN 0 p v=true) (w:au):
  Calls prog 334 #[p,v] w λe w'=>e=.returned (((qS 0 p.toNat v.toNat).length:Nat):Int)/\∃q,w'=w.drewN q:=by have g:=Km h;have k:=J (show(qS 0 p.toNat v.toNat).length=p.toNat from by simp[qS,Z7]);have h0:0<=p:=O;clear g h;go_in;go_wp2;go_ret;exact⟨Gu (by rw[k.o];omega),0,rfl⟩
theorem ZmL {dv:aJ} {l:List Bool} (D:kZ w b dv l) (p v:Int) (h:qN 0 p v=true) (G:l.length<=65536):
  Calls prog 335 #[(b,0),p,v] w λe w'=>e=.returned (.tuple #[])/\∃k,kZ w' b k (l++qS 0 p.toNat v.toNat)/\Fr (foot b dv) w w'/\xx w dv k:=by have g:=Km h;obtain⟨F,g⟩:=g;obtain⟨h0,h1,y⟩:0<=p/\p<=62/\v<2 ^ p.toNat:=O;have z:=ZqZ p.toNat O;have B:=WC p.toNat;have H:=J (R_ D p v h0 O F O O);clear g h y z B;go_in;go_wp2_with (go_at_call 319;refine(H.o).mono ?_;rintro e w1 ⟨rfl,t,u,q,E⟩);go_end0;exact⟨rfl,t,u,q,E⟩
