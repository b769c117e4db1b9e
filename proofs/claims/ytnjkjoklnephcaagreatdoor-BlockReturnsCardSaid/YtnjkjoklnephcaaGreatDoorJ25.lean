import Derived.Test.YtnjkjoklnephcaaGreatDoorJ19
import Derived.Test.YtnjkjoklnephcaaGreatDoorJ24
import Derived.Test.YtnjkjoklnephcaaGreatDoorJ23
import Derived.Laws.StructEq
set_option linter.all false
set_option maxRecDepth 100000
set_option maxHeartbeats 0
open Go.Proofs.Tryz (prog underlying123 underlying125 underlying23 underlying3 underlying49 underlying9)
section
variable{P Q:Prop}
theorem yN(h:P:=by rw[E.o];rfl):P:=h
theorem Jh(h:P:=by intro y l;simp at l;rcases l with rfl|rfl<;>rfl):P:=h
theorem PB(h:P:=by go_wp2;go_returns;exact⟨Z4 g.o.symm,⟨rfl,rfl,rfl,aW,λ_ _=>rfl⟩⟩):P:=h
theorem OV(h:P:=by have S:=J (a2.o _ y).2.2.1;clear y aa e5;go_wp2;go_returns;exact⟨Z4 a8.o.symm,S.o⟩):P:=h
theorem O7(h:P:=by generalize bs d=D at*;clear h1 h2 k g a9 a4 R G;go_in;go_wp21;refine aO a3.o λw2 aa=>?_;go_wp2;go_returns;exact⟨by rw[q.o];rfl,aa⟩):P:=h
theorem IM(h:P:=by obtain⟨b,o,S,ab,c0⟩:=M.get (k*2) _ u.1;obtain⟨l,p,g,_,c1⟩:=M.get (k*2+1) _ u.2;rw[S] at g;injection g with g;injection g with h1 h2;subst h1;subst h2;exact⟨b,o,S,ab,c0,c1⟩):P:=h
theorem NL(h:P:=by clear g;go_in;go_wp21;refine aO (p.o _) λw1 z=>?_;obtain⟨u,z1,aa,_⟩:=a2.o _ z;have a1:=J aa;clear z aa;go_wp21;refine gO (Q.o _ a1.o) a1 λw2 M=>?_;go_wp2;go_returns;exact⟨Z4 E.o.symm,M.o⟩):P:=h
theorem IL(h:P:=by have E:Hid ((true&&sB f t)=false):=J (by rw[p.o];simp[*]);go_in;go_wp21;refine gO (u.o _) q λw1 F=>?_;go_wp2;go_returns;exact⟨by first|exact Z4 E.o.symm|exact Z4 (by rw[E.o,cG (by omega)]),F.o⟩):P:=h
theorem Nw(h:P:=by go_wp21;refine aO (R.o _ S.o) λw3 F=>?_;obtain⟨a6,b0⟩:=G.o _ F;have D:=J (a0.o.trans (F.mono a0.o.size));obtain⟨u,z1,_⟩:=a2.o _ D.o;clear F;go_wp2;go_quiet (fail);go_wp2;refine⟨⟨k+1,x,v,ab,by go_num,rfl,rfl,g6,J ⟨D.o.1,D.o.2,D.o.3,D.o.4,D.o.5⟩⟩,?_⟩;simp[intOf]<;>omega):P:=h
end
namespace Wv
def sB (f t:Int):Bool:=decide (-1<=f)&&decide (f<=t)&&decide (t<=1099511627776)
theorem Ho {f t:Int} :sB f t=true↔-1<=f/\f<=t/\t<=1099511627776:=by unfold sB;grind
def Eh (x k:Int):Int:=if 0<=x then x/k+1 else 0
def nM (f t k:Int):Int:=if sB f t=false\/k<1 then-1 else if 4096<Eh t k-Eh f k then-1 else Eh t k-Eh f k
def ms (f t k:Int):List Int:=(List.range (nM f t k).toNat).map (λ(i:Nat)=>(Eh f k+i)*k)
def tg (b:aS):List (Int×aS)->Int->aS
 |[],_=>b
 |c::l,t=>tg (if c.1<=t then c.2 else b) l t
theorem VF (t:Int):∀(l:List (Int×aS)) (b:aS) (c:Int×aS),tg b (l++[c]) t=if c.1<=t then c.2 else tg b l t
 |[],b,c=>rfl
 |d::l,b,c=>by show tg _ (l++[c]) t=_;rw[VF t l];rfl
end Wv
namespace Go.Proofs.Y
open Wv Go.RowKit
theorem xy {w:au} {A:bS} {l:List (Int×aS)} (M:At w A (cv l)) (k:Nat) (h:k<l):∃b o,A=some ⟨b,o,none⟩/\b<w.heap.size/\w.cell? ⟨b,o+k*2,none⟩=some (.int .i64 l[k].1)/\w.cell? ⟨b,o+k*2+1,none⟩=some (.string l[k].2):=by have u:=ZkO l k h;exact IM
variable{B k:Nat}{W wb:au}{v:aJ}
def tw (l:List (Int×aS)) (m:Int):Bool:=l.all (λx=>decide ((x.2.size:Int)<=150))&&decide ((l.length:Int)<=m)
theorem ZjL {w : au} {A : bS} {l : List (Int × aS)} (B : At w A (cv l)) (n cap : Nat) (p : n = l.length) (G : n <= 9223372036854775807) (m : Int) :
    Calls prog 28 #[(A,n,cap),m] w λx w'=>x=.returned (tw l m)/\w=w':=by
  have Ha:=J B;have I:=J p;have u:Hid (tw l m=(l.all (λx=>decide ((x.2.size:Int)<=150))&&decide ((n:Int)<=m))):=J (by rw[p];rfl);clear B p;go_in;go_wp2;go_loopw [5] (λq wr=>∃k:Nat,k<=n/\q=k/\Hid ((l.take k).all (λx=>decide ((x.2.size:Int)<=150))=true)/\wr=w) (λq _=>(n-intOf q).toNat);exact⟨0,cf _,rfl,J rfl,rfl⟩;obtain⟨k,a0,rfl,z,rfl⟩:=hrel;by_cases ab:k<n
  . have h1:k<l:=im;obtain⟨M,a1,rfl,_,c0,c1⟩:=xy Ha.o k h1;have y:l.take (k+1)=l.take k++[l[k]]:=dD h1;have D:l[k]∈l:=dr _;have Q:(0:Int)<=k:=O;have R:(k:Int)<n:=O;obtain⟨⟨t,a⟩,hs⟩:=ay l[k];rw[hs] at c0 c1 y D;simp only at c0 c1;by_cases S:(150:Int)<a.size;. have g : Hid (tw l m = false) := J (by rw[u.o,Cg];left;rw[IE];exact⟨_,D,fp⟩);go_wp2;go_returns;exact⟨Z4 g.o.symm,rfl⟩
    have F : Hid ((l.take (k + 1)).all (λx => decide ((x.2.size : Int) <= 150)) = true) := J (by rw[y,List.all_append,z.o];exact fp);go_wp2;refine⟨⟨k+1,ab,ck,F,Fg⟩,?_⟩;simp[intOf]<;>omega
  have E:k=n:=O;subst E;have g:Hid (tw l m=decide ((k:Int)<=m)):=J (by have h:=z.o;rw[dU oh] at h;rw[u.o,h,Bool.true_and]);go_wp2;go_returns;exact⟨Z4 g.o.symm,rfl⟩
theorem ZoV:(prog.info? 81).map (λi=>(i.zero,i.size,i.bytes))=some (some (.agg #[(0:Int),ByteArray.empty]),2,24):=dE
def Na (w:au) (v:aJ) (l:List (Int×aS)):Prop:=∃A cap,v=.slice A l cap/\At w A (cv l)
theorem Na.nil (w:au):Na w (.slice none 0 0) []:=⟨none,0,rfl,At.nil _ _⟩
theorem Zm2 (l:List (Int×aS)) (c:Int×aS):cv (l++[c])=cv l++[.int .i64 c.1,.string c.2]:=by unfold cv;rw[yI];rfl
theorem Zda {l:List (Int×aS)} (h:W.ownsRow B 81 2 v k (cv l)) (z:Below B wb W) (u:B<=W) (E:k<=1000000) (c:Int×aS):
  ∃g W',(Builtin.append_ #[49,49] 49 #[v,.slice (some (W,0)) 1 1]).run prog (W.alloc (.cells #[c.1,c.2] 81))=.ok g W'/\W'.ownsRow B 81 2 g (k+1) (cv (l++[c]))/\Below B wb W':=by obtain⟨g,D,t,p,q,_⟩:=KG (P:=prog) 49 81 _ _ 2 underlying49 ZoV rfl aZ (w:=W) h z u [.int .i64 c.1,.string c.2] rfl Jh gn O;rw[<-Zm2] at p;exact⟨g,D,t,p,q⟩
theorem ZmE:(prog.info? 3).map (λi=>(i.zero,i.size,i.bytes))=some (some (.int .i64 0),1,8):=dE
def Nf (w:au) (v:aJ) (l:List Int):Prop:=∃A cap,v=.slice A l cap/\At w A (l.map iv)
theorem Nf.nil (w:au):Nf w (.slice none 0 0) []:=⟨none,0,rfl,At.nil _ _⟩
theorem Zeq {l:List Int} (h:W.ownsRow B 3 1 v k (l.map iv)) (y:Below B wb W) (u:B<=W) (D:k<=1000000) (x:Int):
  ∃g W',(Builtin.append_ #[123,123] 123 #[v,.slice (some (W,0)) 1 1]).run prog (W.alloc (.cells #[x] 3))=.ok g W'/\W'.ownsRow B 3 1 g (k+1) ((l++[x]).map iv)/\Below B wb W':=by obtain⟨g,z,q,t,p,_⟩:=ZU (P:=prog) 123 3 _ _ underlying123 ZmE rfl (w:=W) h y u x rfl gn O;refine⟨g,z,q,?_,p⟩;rw[jv];exact t
end Go.Proofs.Y
namespace Wv
open Go.Proofs.Y
variable{a f t:Int}{b:aS}{c d v:ax}{k n:Nat}{s:Int×Int}{vs:bd}
abbrev d':=Int×aS
def oq (s:Int×Int) (t:Int):Int->aS->List d'->Bool
 |_,_,[]=>true
 |a,b,c::l=>decide (a<c.1)&&decide (c.1<=t)&&fx Z3 s (aH c.2)&&(decide (s.1=3)|| !decide (c.2=b))&&oq s t c.1 c.2 l
theorem Kw {c:d'} {l:List d'} :oq s t a b (c::l)=true↔a<c.1/\c.1<=t/\fx Z3 s (aH c.2)=true/\(s.1=3\/c.2≠b)/\oq s t c.1 c.2 l=true:=by show(decide _&&decide _&&_&&_&&_)=true↔_;grind
def eK (s:Int×Int) (f t:Int) (b:aS) (l:List d'):Bool:=dF s&&sB f t&&fx Z3 s (aH b)&&decide (l.length<=4096)&&oq s t f b l
theorem Xr {l:List d'} :eK s f t b l=true↔dF s=true/\sB f t=true/\fx Z3 s (aH b)=true/\l.length<=4096/\oq s t f b l=true:=by unfold eK;grind
theorem ZnB {l:List d'} (h:eK s f t b l=true):eK s f t b []=true:=by obtain⟨h1,g,k,_⟩:=Xr.1 h;exact Xr.2 ⟨h1,g,k,cf _,rfl⟩
def hP (f:Int) (l:List d'):List Int:=l.map (λc=>c.1-(f+1))
theorem K_ {s:Int×Int} {t f:Int} (k:t-(f+1)<=1099511627776):∀ {l:List d'} {a:Int} {b:aS},oq s t a b l=true->tv (a-(f+1)) (hP f l)=true
 |[],_,_,_=>rfl
 |c::l,a,b,h=>by obtain⟨h1,p,_,_,g⟩:=Kw.1 h;exact QS.2 ⟨aI,aI,K_ k g⟩
theorem QQ {s:Int×Int} {t:Int} :∀ {l:List d'} {a:Int} {b:aS},oq s t a b l=true->∀c∈l,fx Z3 s (aH c.2)=true
 |[],_,_,_,c,g=>aI
 |d::l,a,b,h,c,g=>by obtain⟨_,_,p,_,k⟩:=Kw.1 h;rcases jx.1 g with rfl|g;exact O;exact QQ k c g
theorem Kz {l:List d'} (h:eK s f t b l=true):Zh (hP f l)=true:=by obtain⟨_,g,_,p,k⟩:=Xr.1 h;obtain⟨i1,q,u⟩:=Ho.1 g;unfold Zh;rw[gm,fE];refine⟨?_,by unfold hP;grind⟩;have:=K_ (f:=f) O k;grind
def iS (f:Int) (ts:List Int) (vs:bd):List d':=List.zipWith (λx v=>(x+f+1,v)) ts vs
theorem UJ (f:Int):∀l:List d',iS f (hP f l) (l.map (·.2))=l
 |[]=>rfl
 |c::l=>by show(c.1-(f+1)+f+1,c.2)::iS f (hP f l) (l.map (·.2))=c::l;rw[UJ f l];grind
theorem Tk (f:Int):∀(ts:List Int) (vs:bd),ts=vs.length->hP f (iS f ts vs)=ts/\(iS f ts vs).map (·.2)=vs
 |[],[],_=>⟨rfl,rfl⟩
 |[],_::_,h=>aI
 |_::_,[],h=>aI
 |x::ts,v::vs,h=>by obtain⟨h1,g⟩:=Tk f ts vs aI;constructor;show(x+f+1-(f+1))::hP f (iS f ts vs)=x::ts;grind;show v::(iS f ts vs).map (·.2)=v::vs;rw[g]
theorem XN (f:Int) (ts:List Int) (vs:bd) (h:ts=vs.length):(iS f ts vs)=ts.length:=by unfold iS;grind
/-! ## Values -/
def oP (s:Int×Int):Nat:=if s.1=0 then 2 else 3
def nm (s:Int×Int) (vs:bd):ax×Nat:=if s.1=0 then Y7 s.2 vs else enc vs
def ow (s:Int×Int) (d:ax) (most:Int):bd×Nat:=if s.1=0 then tn s.2 d most else fw d most
theorem Zh3 (h0:s.1=0) (h:fx Z3 s v=true):gW s.2 v=true:=by unfold fx at h;rw[gm] at h;have g:=h.2;unfold rJ at g;grind
theorem Zlm (q:dF s=true) (u:s.1≠3) (k:∀v∈vs,fx Z3 s (aH v)=true) (g:vs.length<=4096):(nm s vs).2=0/\∀most:Int,(vs.length:Int)<=most->ow s (nm s vs).1 most=(vs,0):=by
 unfold nm ow;by_cases h0:s.1=0;obtain⟨w1,t⟩:=YI q h0;have hb:ZH s.2 vs=true:=ZI.2 ⟨λv h=>Zh3 h0 (k v h),w1,t,g⟩;obtain⟨c,x,_,_,y⟩:=JJ hb;rw[aP h0];refine⟨aI,λmost p=> ?_⟩;rw[aP h0,Zih hb,az O];rw[az h0];have l:∀v∈vs,v.size<=128:=λv h=>by have:=(Hz (k v h)).2;exact this
 refine⟨by rw[Md g l],λmost p=> ?_⟩;rw[az h0,LG g l,az O]
theorem Zcz {most:Int} (h:ow s d most=(vs,0)):nm s vs=(d,0):=by unfold nm ow at*;by_cases h0:s.1=0;rcases R5 s.2 d most with ⟨_,h1⟩|⟨_,_,h1|h1⟩|⟨l,h1,g,_⟩;exact aI;exact aI;exact aI;grind;rcases XW d most with (h1|h1)|⟨l,h1,g,_⟩;exact aI;exact aI;grind
/-! ## Frames -/
def ZZ:List (Nat×ax)->Option ax
 |[]=>some []
 |p::r=>match Zp p.1 p.2 with
  |none=>none
  |some w=>(ZZ r).map (w++·)
def zp:Nat->ax->Option (List (Nat×ax))
 |_,[]=>some []
 |0,_::_=>none
 |n+1,a::r=>match ZJ (a::r) with
  |none=>none
  |some (k,c,z)=>(zp n ((a::r).drop z)).map ((k,c)::·)
def jM (d:ax):Option (List (Nat×ax)):=zp d d
theorem FU (h:ZJ d=some (k,c,n)):1<=n/\n<=d:=by obtain⟨h1,_,g⟩:=XZ h;rcases qB n with h0|h0;subst h0;exact absurd rfl (Gx h1);omega
theorem Tb:∀(n m:Nat) (d:ax),d<=n->d.length<=m->zp n d=zp m d
 |0,0,_,_,_=>rfl
 |0,m+1,d,h,_=>by have:d=[]:=gx O;subst this;rfl
 |n+1,0,d,_,h=>by have:d=[]:=gx O;subst this;rfl
 |n+1,m+1,[],_,_=>rfl
 |n+1,m+1,a::r,h1,h2=>by unfold zp;rcases g:ZJ (a::r) with _|q;rfl;obtain⟨k,c,z⟩:=q;obtain⟨l,p⟩:=FU g;simp only;rw[Tb n m ((a::r).drop z) aI aI]
theorem Zkm:jM []=some []:=rfl
theorem Z_ (h:d≠[]) (g:ZJ d=none):jM d=none:=by rcases d with _|⟨a,r⟩;exact aI;unfold jM;rw[f'];unfold zp;rw[g]
theorem Kj (h:ZJ d=some (k,c,n)):jM d=(jM (d.drop n)).map ((k,c)::·):=by
 obtain⟨g,l⟩:=FU h;rcases d with _|⟨a,r⟩;exact aI;unfold jM;rw[f'];conv=>lhs;unfold zp
 rw[h];simp only;rw[Tb r ((a::r).drop n) ((a::r).drop n) aI aW]
theorem Te:∀ {l:List (Nat×ax)} {d:ax},(∀p∈l,p.1<16)->ZZ l=some d->jM d=some l
 |[],d,_,h=>Jc
 |p::r,d,hk,h=>by unfold ZZ at h;rcases k:Zp p.1 p.2 with _|w;exact aI;rw[k] at h;rcases g:ZZ r with _|x;exact aI;rw[g] at h;injection h with h;subst h;have t:=JE (hk p fm) k x;rw[Kj t,Cc,Te (λq u=>hk q (gN _ u)) g];rfl
theorem J4:∀(n:Nat) {d:ax} {l:List (Nat×ax)},d<=n->jM d=some l->ZZ l=some d
 |n,[],l,_,h=>Jc
 |0,a::r,l,hn,_=>aI
 |n+1,a::r,l,hn,h=>by rcases g:ZJ (a::r) with _|q;rw[Z_ (by simp) g] at h;cases h;obtain⟨k,c,z⟩:=q;obtain⟨u,y⟩:=FU g;rw[Kj g] at h;rcases p:jM ((a::r).drop z) with _|m;exact aI;rw[p] at h;injection h with h;subst h;have t:=J4 n (d:=(a::r).drop z) aI p;obtain⟨h1,_⟩:=XZ g;unfold ZZ;rw[h1,t];simp
def rc (l:List (Nat×ax)):ax×Nat:=match ZZ l with
 |none=>([],9)
 |some d=>if 4096<d.length then([],9) else(d,0)
theorem ZnM {l:List (Nat×ax)} (h:rc l=(d,0)):ZZ l=some d/\d.length<=4096:=by unfold rc at h;grind
theorem WO {p:Nat×ax} {r:List (Nat×ax)} (h:ZZ (p::r)=some d):d≠[]:=by unfold ZZ at h;rcases g:Zp p.1 p.2 with _|w;exact aI;rw[g] at h;rcases k:ZZ r with _|x;exact aI;rw[k] at h;injection h with h;rw[<-h];have:=Gx g;intro h;exact this (List.append_eq_nil_iff.1 h).1
/-! ## Streams of changes -/
def tx (s:Int×Int) (f:Int) (l:List d'):List (Nat×ax):=(1,(ke (hP f l)).1)::if s.1=3 then[] else[(oP s,(nm s (l.map (·.2))).1)]
def ma (s:Int×Int) (f t:Int) (b:aS) (l:List d'):ax×Nat:=if eK s f t b l=false then([],1) else if l=[] then([],0) else rc (tx s f l)
def Yv (s:Int×Int) (n:Nat) (r:List (Nat×ax)):Option bd:=if s.1=3 then(if r=[] then some (List.replicate n ⟨#[]⟩) else none) else match r with
 |[p]=>if p.1=oP s/\(ow s p.2 n).2=0/\(ow s p.2 n).1=n then some (ow s p.2 n).1 else none
 |_=>none
def ra (s:Int×Int) (f:Int) (d:ax):Option (List d'):=match jM d with
 |some (p::r)=>if p.1=1/\(nO p.2 4096).2=0/\(nO p.2 4096).1≠[] then(Yv s (nO p.2 4096).1 r).map (iS f (nO p.2 4096).1) else none
 |_=>none
def iQ (s:Int×Int) (f t:Int) (b:aS) (d:ax):List d'×Nat:=if eK s f t b []=false then([],1) else if d=[] then([],0) else if 4096<d.length then([],12) else match ra s f d with
 |none=>([],12)
 |some l=>if eK s f t b l=true then(l,0) else([],12)
theorem LQ {l:List d'} (h:ma s f t b l=(d,0)):eK s f t b l=true/\((l=[]/\d=[])\/(l≠[]/\ZZ (tx s f l)=some d/\d.length<=4096)):=by unfold ma at h;split at h;exact aI;refine⟨aI,?_⟩;split at h;exact aI;rename_i h2;exact .inr ⟨h2,ZnM h⟩
theorem ZiB (k:s.1=3) {v:aS} (h:fx Z3 s (aH v)=true):v=⟨#[]⟩:=by unfold fx at h;rw[gm] at h;have g:=h.2;unfold rJ at g;rw[az O,az O,az O,fE] at g;have:=Zd v;rw[g] at this;exact this.symm
theorem Zr5 {l:List d'} (h:ma s f t b l=(d,0)):iQ s f t b d=(l,0):=by
 obtain⟨z,k⟩:=LQ h;unfold iQ;rw[az (by rw[ZnB z];decide)];rcases k with ⟨h1,y⟩|⟨h1,y,g⟩;exact aI;rw[az (WO y),az O];obtain⟨a0,a4,a5,a1,E⟩:=Xr.1 z;have D:=Kz z;obtain⟨c,_,_,a2⟩:=XY D;have u:(hP f l)=l.length:=(by unfold hP;grind);have M:nO (ke (hP f l)).1 4096=(hP f l,0):=(by rw[Zij D,az O]);have Q:∀p∈tx s f l,p.1<16:=by intro p q;unfold tx at q;rcases jx.1 q with rfl|q;exact O;split at q;exact aI;rw[js.1 q];show oP s<16;unfold oP;grind
 have S:=Te Q y;have F:hP f l≠[]:=λe=>h1 (gx (by rw[<-u,e];rfl));have R:Yv s (hP f l) (if s.1=3 then[] else[(oP s,(nm s (l.map (·.2))).1)])=some (l.map (·.2)):=by unfold Yv;by_cases g:s.1=3;rw[aP g,aP g,aP rfl];congr 1;refine(List.eq_replicate_iff.2 ⟨by rw[dc,u],λv B=> ?_⟩).symm;obtain⟨c,k,rfl⟩:=iV.1 B;exact ZiB g (QQ E c k);rw[az g,az g];obtain⟨_,G⟩:=Zlm a0 g (vs:=l.map (·.2)) (λv B=>by obtain⟨c,k,rfl⟩:=iV.1 B;exact QQ E c k) (by rw[dc];exact a1);have I:=G ((hP f l).length:Int) (by rw[dc,u];exact Int.le_refl _);simp only;rw[I,aP ⟨mL,mL,by rw[dc,u]⟩]
 have a3:ra s f d=some l:=by unfold ra;rw[S];unfold tx;simp only;rw[M,aP ⟨mL,mL,F⟩,R];simp only[Cl];rw[UJ]
 grind
theorem Zl9 {l:List d'} (h:iQ s f t b d=(l,0)):ma s f t b l=(d,0)/\eK s f t b l=true:=by
 unfold iQ at h;split at h;exact aI;rename_i h1;split at h;.rename_i h2;injection h with h _;subst h;have hv:eK s f t b []=true:=aI;refine⟨?_,hv⟩;unfold ma;grind
 rename_i h2;split at h;exact aI;rename_i h4;rcases hR:ra s f d with _|l2;exact aI;rw[hR] at h;simp only at h;split at h
 .rename_i hv;injection h with h _;subst h;refine⟨?_,hv⟩;obtain⟨v1,v2,v3,v4,v5⟩:=Xr.1 hv;unfold ra at hR;rcases hu:jM d with _|fr;exact aI;rw[hu] at hR;rcases fr with _|⟨p,r⟩;exact aI;simp only at hR;split at hR
  .rename_i hc;obtain⟨c1,c2,c3⟩:=hc;rcases JD p.2 4096 with (q|q)|⟨ts,q1,q2,q3,_,q5⟩;rw[q] at c2;cases c2;rw[q] at c2;cases c2;rw[q1] at hR c3;simp only at hR c3;rcases jd:Yv s ts r with _|vs;rw[jd] at hR;cases hR;rw[jd] at hR;injection hR with hR
   have dp:vs=ts.length/\r=if s.1=3 then[] else[(oP s,(nm s vs).1)]:=by
    unfold Yv at jd;by_cases h3:s.1=3
    .rw[aP h3] at jd⊢;split at jd;.rename_i hr;injection jd with jd;rw[<-jd];exact⟨iK,hr⟩
     cases jd
    rw[az h3] at jd⊢;split at jd
    .rename_i p2;split at jd;.rename_i hp;obtain⟨p3,p4,p5⟩:=hp;injection jd with jd;rw[jd] at p5;have pn:ow s p2.2 (ts.length:Int)=(vs,0):=Prod.ext jd p4;have he:=Zcz pn;exact⟨p5,by rw[he,<-p3]⟩
     cases jd
    cases jd
   obtain⟨bm,hr⟩:=dp;obtain⟨z1,z2⟩:=Tk f ts vs bm.symm;have px:=XN f ts vs bm.symm;have hF:tx s f l2=p::r:=by unfold tx;rw[<-hR,z1,z2,q2,<-hr];congr 1;exact Prod.ext c1.symm rfl
   have hW:=J4 d aW hu;have cU:l2≠[]:=λe=>by rw[e] at hR;rw[hR] at px;exact c3 (gx px.symm)
   unfold ma;rw[az (by rw[hv];decide),az cU,hF];unfold rc;rw[hW];simp only;rw[az h4]
  cases hR
 cases h
def Zqa (s:Int×Int) (f t k:Int):Nat:=if dF s=false\/nM f t k<0 then 1 else if s.1=3 then 7 else 0
def Io (s:Int×Int) (f t k:Int) (d:ax):List d'×Nat:=if Zqa s f t k≠0 then([],Zqa s f t k) else if ms f t k=[] then(if d=[] then([],0) else([],12)) else if 4096<d.length then([],12) else match jM d with
 |none=>([],12)
 |some fr=>match Yv s (ms f t k) fr with
  |none=>([],12)
  |some vs=>if vs.all (λv=>fx Z3 s (aH v))=true then((ms f t k).zip vs,0) else([],12)
theorem Zpc (s:Int×Int):oP s<16:=by unfold oP;grind
theorem ZfY {l:List d'} (h:k<l):oq s t a b (l.drop k)=(decide (a<l[k].1)&&decide (l[k].1<=t)&&fx Z3 s (aH l[k].2)&&(decide (s.1=3)|| !decide (l[k].2=b))&&oq s t l[k].1 l[k].2 (l.drop (k+1))):=by rw[kw h];rfl
theorem Gn (h:fx Z3 s v=true):v.length<=128:=(Hz h).2
theorem Zgf {l:List d'} (h:eK s f t b l=true):∀c∈l,c.2.size<=128:=by intro c k;obtain⟨_,_,_,_,g⟩:=Xr.1 h;have:=Gn (QQ g c k);rwa [Z2] at this
theorem Zcy (s:Int×Int) (d:ax) (most:Int):∀v∈(ow s d most).1,v.size<=128:=by unfold ow;split;rcases R5 s.2 d most with ⟨_,h1⟩|⟨_,_,h1|h1⟩|⟨l,h1,_,g,_⟩;exact aI;exact aI;exact aI;rw[h1];intro v q;obtain⟨p,u,y,z⟩:=ZI.1 g;have:=p v q;obtain⟨t,k⟩:=ZK.1 this;rw[Z2] at k;omega;rcases XW d most with (h1|h1)|⟨l,h1,_,_,g,_⟩;exact aI;exact aI;grind
def D0:List d':=[(10,bs [49]),(15,bs [48])]
theorem Mk (a b:ax):(jS a b)<=a.length/\(jS a b)<=b.length:=by unfold jS;grind
theorem ZlH {W:Int} {l:bd} {s:ax} (h:kO 0 W l=some s):∀k,(iG W l (k+1))<=(bj 0++s).length/\iG W l (k+1)≠[]:=by
 intro k
 have e:∀k,iG W l (k+1)=match kO k W l with
   |none=>iG W l k
   |some s=>if iG W l k=[]\/(bj k++s).length<(iG W l k).length then bj k++s else iG W l k:=λ_=>rfl
 induction k with
 |zero=>rw[e,h];simp only;split;exact⟨aW,Mm _ _⟩;grind
 |succ k ih=>
  rw[e];rcases kO (k+1) W l with _|t;exact aI;simp only;split;.rename_i hc;rcases hc with hc|hc;exact aI;exact⟨O,Mm _ _⟩
  grind
theorem Zlu:(nm (0,1) (D0.map (·.2))).1.length<=1000:=by
 unfold nm;have hb:(ZR (D0.map (·.2))).length=4:=by rfl
 have g:kO 0 1 (D0.map (·.2))=some (bj 2++aH (rE (ZR (D0.map (·.2))))):=by rfl
 have h1:=(ZlH g 3).1;have k:(bj 0++(bj 2++aH (rE (ZR (D0.map (·.2)))))).length<=1000:=by rw[bT,bT,Z2,HV,hb];have a1:=lT 0;have a2:=lT 2;have a3:=Ye 0;have a4:=Ye 2;omega
 unfold Y7;grind
theorem Gd {w:ax} (h:Zp k c=some w):w<=c.length+20:=by unfold Zp at h;rcases g:lx c with _|t;exact aI;rw[g] at h;injection h with h;rw[<-h,QV];have h1:(ZN c t)<=c.length:=Fo;have l:=lT (ZN c t);have p:=Ye (ZN c t);omega
theorem Gw (h:c.length<=4096):∃w,Zp k c=some w:=by have:=YF (k:=k) (c:=c);rw[cT h] at this;exact Option.isSome_iff_exists.1 this
end Wv
namespace Wv
theorem Th:∀(l:List (Nat×ax)) (p:Nat×ax),ZZ (l++[p])=(match ZZ l with
  |none=>none
  |some d=>(Zp p.1 p.2).map (d++·))
 |[],p=>by show ZZ [p]=_;unfold ZZ;rcases Zp p.1 p.2 with _|w;rfl;simp[ZZ]
 |q::l,p=>by show ZZ (q::(l++[p]))=_;unfold ZZ;rcases Zp q.1 q.2 with _|w;rfl;simp only;rw[Th l p];rcases ZZ l with _|d;rfl;simp only[Cl];rcases Zp p.1 p.2 with _|x;rfl;simp[ey]
theorem ZcB {l m:List (Nat×ax)} (h:ZZ l=none):ZZ (l++m)=none:=by
 induction l with
 |nil=>cases h
 |cons q l ih=>show ZZ (q::(l++m))=none;unfold ZZ at h⊢;rcases k:Zp q.1 q.2 with _|w;rfl;rw[k] at h;simp only at h⊢;rcases g:ZZ l with _|d;rw[ih g];rfl;rw[g] at h;cases h
end Wv
namespace Go.Proofs.Y
open Wv Go.RowKit
section
variable{A:bS}{l:List (Nat×ax)}{w:au}
def mY (l:List (Nat×ax)):List aJ:=l.flatMap λp=>[.int .i64 (p.1:Int),.string (bs p.2)]
theorem Zms (D:List (Nat×ax)):∀(i:Nat) (h:i<D),(mY D)[i*2]? =(D[i].1:Int)/\(mY D)[i*2+1]? =some (.string (bs D[i].2)):=by
 induction D with
 |nil=>intro i h;simp at h
 |cons c D ih=>
  intro i h;have e:mY (c::D)=[.int .i64 (c.1:Int),.string (bs c.2)]++mY D:=rfl;match i,h with
  |0,_=>exact⟨rfl,rfl⟩
  |i+1,h=>have g:i<D:=(by simpa using h);rw[e,pR fp,pR fp];have:=ih i g;rw[show(i+1)*2-[(Value.int .i64 (c.1:Int)),.string (bs c.2)].length=i*2 from by exact fp,show(i+1)*2+1-[(Value.int .i64 (c.1:Int)),.string (bs c.2)].length=i*2+1 from by exact fp];exact this
theorem ZiO (l:List (Nat×ax)) (c:Nat×ax):mY (l++[c])=mY l++[.int .i64 (c.1:Int),.string (bs c.2)]:=by unfold mY;rw[yI];rfl
theorem HH (M:At w A (mY l)) (k:Nat) (h:k<l):∃b o,A=some ⟨b,o,none⟩/\b<w.heap.size/\w.cell? ⟨b,o+k*2,none⟩=(l[k].1:Int)/\w.cell? ⟨b,o+k*2+1,none⟩=some (.string (bs l[k].2)):=by have u:=Zms l k h;exact IM
def H9 (l:List (Nat×ax)):aJ:=match ZZ l with
 |none=>.tuple #[.string ⟨#[]⟩,(9:Int)]
 |some d=>.tuple #[bs d,(0:Int)]
theorem Z8w (a6:At w A (mY l)) (M:∀p∈l,p.1<16) (G:∀p∈l,p.2.length<=1000000000) (n cap:Nat) (a7:n=l) (c3:n<=1000):
  Calls prog 106 #[(A,n,cap)] w (bN w (H9 l)):=by
 obtain⟨Ha,I,b2,b1,b0⟩:=ia a6 a7 (λ(k:Nat) (M:k<16) (c:ax) (G:c.length<=1000000000) W=>Do k M c G W) M G
 have a3:Hid (H9 l=match ZZ l with
  |none=>.tuple #[.string ⟨#[]⟩,(9:Int)]
  |some d=>.tuple #[bs d,(0:Int)]):=J rfl
 generalize H9 l=FV at*;clear a6 a7 M G;go_in;go_wp2;go_loopw [4,11] (λb7 a1 wr=>∃(i:Nat) (d:ax),i<=n/\a1=i/\b7=.string (bs d)/\Hid (ZZ (l.take i)=some d)/\Hid (d.length<=5000*i)/\Hid (Below w w wr)) (λ_ a1 _=>(n-intOf a1).toNat);exact⟨0,[],cf _,rfl,rfl,J (by rw[po];rfl),J (cf _),J (bi _ _)⟩;obtain⟨i,d,hi,rfl,rfl,a8,a5,hb⟩:=hrel;by_cases ab:i<n
 .have a4:i<l:=im;obtain⟨c5,d2,rfl,d3,c0,c1⟩:=HH (Ha.o.below hb.o) i a4;have F:l.take (i+1)=l.take i++[l[i]]:=dD a4;have a2:=b1.o l[i] (dr _);have Q:=b0.o l[i] (dr _);have a9:l=l.take i++([l[i]]++l.drop (i+1)):=by rw[<-ey,<-F,sT]
  obtain⟨⟨k,c⟩,hp⟩:=ay l[i];rw[hp] at c0 c1 F a2 Q a9;simp only at c0 c1 a2 Q;have z:=Th (l.take i) (k,c);rw[<-F,a8.o] at z;simp only at z;have g:=J (b2.o k a2 c Q);unfold rG at g;have B:=J (hb.o.alloc hb.o.size (.cells #[k,bs c] 87));have d1:(0:Int)<=i:=O;have d5:(i:Int)<n:=O;rcases y:Zp k c with _|u
  .rw[y] at g z;have b3:ZZ l=none:=by rw[a9,<-ey,<-F];exact ZcB z
   have E:Hid (FV=.tuple #[.string ⟨#[]⟩,(9:Int)]):=J (by rw[a3.o,b3]);rw[show nj none=.tuple #[.string ⟨#[]⟩,(9:Int)] from rfl] at g;generalize bs c=S at*;go_wp21;refine aO (g.o _) λb9 aa=>?_;have R:=J (B.o.trans (aa.mono B.o.size));go_wp2;go_returns;exact⟨yN,R.o⟩
  rw[y] at g z;have d4:u.length<=5000:=by have q:=y;unfold Zp at q;rcases a0:lx c with _|t;rw[a0] at q;cases q;rw[a0] at q;injection q with q;have c6:=Db a0;rw[<-q,QV];have c7:(ZN c t).length<=4096:=Jp;have c8:=lT (ZN c t);have c9:=Ye (ZN c t);omega
  rw[show nj (some u)=.tuple #[bs u,(0:Int)] from rfl] at g;have b8:Hid (ZZ (l.take (i+1))=some (d++u)):=J (by rw[z];rfl);have b4:Hid ((d++u).length<=5000*(i+1)):=J (by rw[bT];have:=a5.o;omega);have c4:(bs d).size+(bs u).size<=9223372036854775807:=(by rw[Z0,Z0];have:=a5.o;omega);have b6:=J (Z8 d u);generalize bs c=S at*;generalize bs d=D at*;generalize bs u=U at*;go_wp21;refine aO (g.o _) λb9 aa=>?_;have R:=J (B.o.trans (aa.mono B.o.size));go_wp2;refine⟨⟨i+1,d++u,ab,ck,by rw[<-b6.o],b8,b4,R⟩,?_⟩;simp[intOf]<;>omega
 have b5:i=n:=O;subst b5;have E:Hid (FV=.tuple #[bs d,(0:Int)]):=J (by have h:=a8.o;rw[dU oh] at h;rw[a3.o,h]);go_wp2;go_returns;exact⟨yN,hb.o⟩
theorem WB (a c f t:Int) (w:au):
  Calls prog 64 #[.agg #[a,c],f,t] w (bN w (.bool (dF (a,c)&&sB f t))):=by
 have u:=J (λW=>UE a c W);have p:Hid (sB f t=(decide (-1<=f)&&decide (f<=t)&&decide (t<=1099511627776))):=J rfl;have q:=J ((bi w w).alloc aW (.cells #[a,c] 68));obtain⟨B,g⟩:=ay (dF (a,c));rw[g] at u⊢;clear g;cases B;.have E:Hid ((false&&sB f t)=false):=J rfl;go_in;go_wp21;refine gO (u.o _) q λw1 F=>?_;go_wp2;go_returns;exact⟨rfl,F.o⟩
 by_cases h1: -1<=f
 .by_cases k:f<=t
  .by_cases l:t<=1099511627776;.have E:Hid ((true&&sB f t)=true):=J (by rw[p.o];simp[*]);go_in;go_wp21;refine gO (u.o _) q λw1 F=>?_;go_wp2;go_returns;exact⟨by first|exact Z4 E.o.symm|exact Z4 (by rw[E.o,cG O]),F.o⟩
   exact IL
  exact IL
 exact IL
theorem So (u:At w A (mY l)) (z:∀p∈l,p.1<16) (y:∀p∈l,p.2.length<=1000000000) (n cap:Nat) (B:n=l) (E:n<=1000):
  Calls prog 70 #[(A,n,cap)] w (bN w (.tuple #[bs (rc l).1,((rc l).2:Int)])):=by
 have a3:=J (Z8w u z y n cap B E)
 have k:Hid (H9 l=match ZZ l with
  |none=>.tuple #[.string ⟨#[]⟩,(9:Int)]
  |some d=>.tuple #[bs d,(0:Int)]):=J rfl
 have g:Hid (rc l=match ZZ l with
  |none=>([],9)
  |some d=>if 4096<d.length then([],9) else(d,0)):=J rfl
 have a4:bs ([]:ax)=⟨#[]⟩:=rfl;clear u z y B;rcases a9:ZZ l with _|d;.have h1:=k.o;have h2:=g.o;rw[a9] at h1 h2;simp only at h1 h2;rw[h1] at a3;have q:Hid (Ending.returned (.tuple #[bs (rc l).1,((rc l).2:Int)])=.returned (.tuple #[.string ⟨#[]⟩,(9:Int)])):=J (by rw[h2];rfl);clear h1 h2 k g a9 a4;go_in;go_wp21;refine aO a3.o λw2 aa=>?_;go_wp2;go_returns;exact⟨by rw[q.o];rfl,aa⟩
 have h1:=k.o;have h2:=g.o;rw[a9] at h1 h2;simp only at h1 h2;rw[h1] at a3;have G:(bs d).size=d:=Z0 d;by_cases R:4096<d.length;rw[aP R] at h2;have q:Hid (Ending.returned (.tuple #[bs (rc l).1,((rc l).2:Int)])=.returned (.tuple #[.string ⟨#[]⟩,(9:Int)])):=J (by rw[h2];rfl);have t:(4096:Int)<((bs d).size:Int):=O;exact O7;rw[az R] at h2;have q:Hid (Ending.returned (.tuple #[bs (rc l).1,((rc l).2:Int)])=.returned (.tuple #[bs d,(0:Int)])):=J (by rw[h2];rfl);have t:¬(4096:Int)<((bs d).size:Int):=O;exact O7
end
theorem He:(prog.info? 9).map (λi=>(i.zero,i.size,i.bytes))=some (some (.string ByteArray.empty),1,16):=dE
def IA (w:au) (v:aJ) (l:bd):Prop:=∃A cap,v=.slice A l cap/\At w A (bD l)
theorem Zn7 {w:au} {base e:Nat} {v:aJ} {l:bd} (h:w.ownsRow base e 1 v l (bD l)):IA w v l:=E8
theorem Zgv (l:bd) (s:aS):bD (l++[s])=bD l++[.string s]:=by unfold bD;rw[jv];rfl
theorem Zfw {w:au} {A:bS} {l:List (Int×aS)} (z:At w A (cv l)) (n cap:Nat) (B:n=l) (a4:n<=1000000):
  Calls prog 105 #[(A,n,cap)] w λx w'=>∃v,x=.returned v/\IA w' v (l.map (·.2))/\Below w w w':=by
 have Ha:=J z;have I:=J B;have a3:Hid (w.ownsRow w 9 1 (.slice none 0 0) 0 (bD ((l.take 0).map (·.2)))):=J (by rw[po];exact Zm);clear z B;go_in;go_wp2;go_loopw [3,8] (λs3 k wr=>∃i:Nat,i<=n/\k=i/\Hid (wr.ownsRow w 9 1 s3 i (bD ((l.take i).map (·.2))))/\Hid (Below w w wr)) (λ_ k _=>(n-intOf k).toNat);exact⟨0,cf _,rfl,a3,J (bi _ _)⟩;obtain⟨i,hi,rfl,g,hb⟩:=hrel;obtain⟨A5,D,a0,rfl⟩:=Za g.o;by_cases ab:i<n
 .have y:i<l:=im;obtain⟨a5,a7,rfl,a8,c0,c1⟩:=xy (Ha.o.below hb.o) i y;have q:l.take (i+1)=l.take i++[l[i]]:=dD y;obtain⟨⟨T,V⟩,hTV⟩:=ay l[i];rw[hTV] at c0 c1 q;simp only at c0 c1;have p:=hb.o.alloc hb.o.size (.cells #[T,V] 81);have G:=Z6 g.o (Fr.of_below (S:=nob) ((bi wr wr).alloc aW (.cells #[T,V] 81))) (λ_ _ f=>f);obtain⟨b0,W',t,u,F,_⟩:=ZU (P:=prog) 23 9 _ _ underlying23 He rfl G p p.size (.string V) rfl gn O;have a1:bD ((l.take (i+1)).map (·.2))=bD ((l.take i).map (·.2))++[.string V]:=(by rw[q,jv,<-Zgv];rfl);rw[<-a1] at u;rw[World.size_alloc] at t;obtain⟨M,R,a2⟩:=bF t u F;have a6:(0:Int)<=i:=O;have b1:(i:Int)<n:=O
  go_wp2_with (
   at_builtin;refine Z5 iW rfl _ _ _ rfl _ _ (by rfl) (by rfl) M.o ?_);refine⟨⟨i+1,ab,ck,R,a2⟩,?_⟩;simp[intOf]<;>omega
 have E:i=n:=O;subst E;have Q:Hid (IA wr (.slice A5 D a0) (l.map (·.2))):=J (by have h:=g.o;rw[dU oh] at h;exact Zn7 (by rw[dc,<-I.o];exact h));go_wp2;go_returns;exact⟨_,rfl,Q.o,hb.o⟩
theorem ZkR:(prog.info? 87).map (λi=>(i.zero,i.size,i.bytes))=some (some (.agg #[(0:Int),ByteArray.empty]),2,24):=dE
def Is (w:au) (v:aJ) (l:List (Nat×ax)):Prop:=∃A cap,v=.slice A l cap/\At w A (mY l)
def Zra:aJ->Nat
 |.string s=>s.size
 |_=>0
def BQ (w:au) (o:Option (List (Nat×ax))) (x:Ending) (w':au):Prop:=∃v,x=.returned (.tuple #[v,(if o=none then 12 else 0:Int)])/\Is w' v (o.getD [])/\Below w w w'
theorem Zn6 {w:au} {base e:Nat} {v:aJ} {l:List (Nat×ax)} (h:w.ownsRow base e 2 v l (mY l)):Is w v l:=E8
theorem R8 (data:ax) (hd:data.length<=1000000) (w:au):
  Calls prog 84 #[bs data] w λx w'=>BQ w (jM data) x w':=by
 have a4:=J (λ(d:ax) (h:d.length<=1000000000) W=>J2 d h W);have c5:=J (λ(o:Option (List (Nat×ax))) x w'=>(Iff.rfl:BQ w o x w'↔BQ w o x w'));obtain⟨g,u⟩:=ay (jM data);have h0:Hid (g=(jM data).map ([]++·)):=J (by rw[u];cases g<;>simp);have c4:Hid (w.ownsRow w 87 2 (.slice none 0 0) 0 (mY [])):=J Zm;rw[u];go_in;go_wp2;go_loopw [0,4] (λQ c3 wr=>∃(r:ax) (fr:List (Nat×ax)),Q=.string (bs r)/\r.length<=1000000/\Hid (fr.length+r.length<=1000000)/\Hid (g=(jM r).map (fr++·))/\Hid (wr.ownsRow w 87 2 c3 fr (mY fr))/\Hid (Below w w wr)) (λQ _ _=>Zra Q);exact⟨data,[],rfl,hd,J (by simpa using hd),h0,c4,J (bi _ _)⟩;obtain⟨r,fr,rfl,c8,p,u,D,hb⟩:=hrel;obtain⟨A5,a6,b5,rfl⟩:=Za D.o;have a2:=YZ r;by_cases h0:r=[];.subst h0;have t:Hid (g=some fr):=J (by rw[u.o,Zkm];simp);have a3:Hid (Is wr (.slice A5 a6 b5) fr):=J (Zn6 D.o);rw[show bs ([]:ax)=⟨#[]⟩ from rfl] at a2⊢;go_wp2;go_returns;exact⟨_,by rw[t.o];rfl,by rw[t.o];exact a3.o,hb.o⟩
 rw[cG h0] at a2;have B:=J (a4.o r O wr);rcases E:ZJ r with _|q;.have I:uD r=.tuple #[.agg #[(0:Int),.string ⟨#[]⟩],(0:Int),(12:Int)]:=Fj;rw[I] at B;have t:Hid (g=none):=J (by rw[u.o,Z_ h0 E];rfl);generalize bs r=S at*;go_wp21;refine aO B.o λR aa=>?_;have a8:=J ((hb.o.trans (aa.mono hb.o.size)).alloc (cp hb.o.size aa.size) (.cells #[(0:Int),.string ⟨#[]⟩] 87));go_wp2;go_returns;exact⟨_,by rw[t.o];rfl,by rw[t.o];exact⟨none,0,rfl,At.nil _ _⟩,a8.o⟩
 obtain⟨k,c,z⟩:=q;have I:uD r=.tuple #[.agg #[k,bs c],z,(0:Int)]:=Fx;rw[I] at B;obtain⟨d1,d2⟩:=FU E;have M:=Kj E;have t:Hid (g=(jM (r.drop z)).map ((fr++[(k,c)])++·)):=J (by rw[u.o,M,Option.map_map];congr 1;funext y;simp);have a9:(bs r).size=r:=Z0 r;have G:(bs r).extract z (bs r).size=bs (r.drop z):=(by rw[A0,Zk]);have b3:Hid ((fr++[(k,c)]).length+(r.drop z).length<=1000000):=J (by have:=p.o;rw[bT,jt];exact fp);have b1:(r.drop z).length<=1000000:=Fu;have a5:(bs (r.drop z)).size<(bs r).size:=(by rw[Z0,Z0,jt];omega);have b9:(z:Int)<=((bs r).size:Int):=O;have c6:(0:Int)<=z:=O;have c7:fr.length<=1000000:=(by have:=p.o;omega);go_wp21;refine aO B.o λR aa=>?_;have a0:=(hb.o.trans (aa.mono hb.o.size)).alloc (cp hb.o.size aa.size) (.cells #[k,bs c] 87);have b6:=Z6 (Z6 D.o (Fr.of_below (S:=nob) aa) (λ_ _ f=>f)) (Fr.of_below (S:=nob) ((bi R.heap.size R).alloc aW (.cells #[k,bs c] 87))) (λ_ _ f=>f);obtain⟨c9,W',a1,F,a7,_⟩:=KG (P:=prog) 125 87 _ _ 2 underlying125 ZkR rfl aZ b6 a0 a0.size [.int .i64 (k:Int),.string (bs c)] rfl Jh gn O;have b7:mY (fr++[(k,c)])=mY fr++[.int .i64 (k:Int),.string (bs c)]:=ZiO fr (k,c);rw[<-b7] at F;rw[World.size_alloc] at a1;have b4:(fr++[(k,c)]).length=fr.length+1:=(by simp);rw[<-b4] at F;obtain⟨b0,b2,b8⟩:=bF a1 F a7
 go_wp2_with (
  at_builtin;refine Z5 iW rfl _ _ _ rfl _ _ (by rfl) (by rfl) b0.o ?_);rw[<-a9,G];exact⟨⟨r.drop z,fr++[(k,c)],rfl,b1,b3,t,b2,b8⟩,a5⟩
variable{A:bS}{W w:au}{a c:Int}{l:List (Int×aS)}
def rm (a c:Int) (w:au):Prop:=∀v:aS,v.size<=1099511627776->∀W,Below w w W->dt 57 #[a,c,v] W (bN W (fx Z3 (a,c) (aH v)))
theorem rm.below (h:rm a c w) (hb:Below w w W):rm a c W:=λv k X g=>h v k X (hb.trans (g.mono hb.size))
theorem rm.alloc {B:Nat} (h:rm a c w) (hb:Below w w W):rm a c W:=h.below hb
theorem Dm (hb:Below (w.alloc (.cells #[a,c] 68)) (w.alloc (.cells #[a,c] 68)) W):W.cell? (w,0)=a/\W.cell? (w,1)=c/\Below w w W/\w<W.heap.size:=by have h:=(Bk.new w 68 #[a,c]).below hb (by simp);exact⟨h.cell 0,h.cell 1,((bi w w).alloc aW _).trans (hb.mono (by simp)),h.lt⟩
theorem Zi0 {x:Int} {v:aS} (hb:Below (w.alloc (.cells #[x,v] 81)) (w.alloc (.cells #[x,v] 81)) W):W.cell? (w,0)=x/\W.cell? (w,1)=v:=by have h:=(Bk.new w 81 #[x,v]).below hb (by simp);exact⟨h.cell 0,h.cell 1⟩
theorem Zlh (x y:aS):(x.toList==y.toList)=decide (x=y):=by have h:=(HA (aH x) (aH y)).2;rw[Zd,Zd] at h;rw[h,decide_eq_decide];exact⟨λe=>by rw[<-Zd x,e,Zd],λe=>by rw[e]⟩
theorem Yk {b:aS} (c9:At w A (cv l)) (a c f t:Int) (d1:rm a c w) (c7:b.size<=1099511627776) (c5:∀x∈l,x.2.size<=1099511627776) (n cap:Nat) (b9:n=l) (d8:n<=9223372036854775807):
  Calls prog 29 #[.agg #[a,c],f,t,b,(A,n,cap)] w (bN w (eK (a,c) f t b l)):=by
 obtain⟨Ha,I,p,c3⟩:=dm c9 b9 (λW=>WB a c f t W) (λv h W b2=>d1 v h W b2);have g:Hid (eK (a,c) f t b l=(dF (a,c)&&sB f t&&fx Z3 (a,c) (aH b)&&decide (n<=4096)&&oq (a,c) t f b l)):=J (by rw[b9];rfl);obtain⟨d4,a2,d7⟩:=bF (λi (h:i<l.length)=>c5 _ (dr h)) (λW h=>Dm (w:=w) (W:=W) (a:=a) (c:=c) h) c7;clear c9 b9 d1 c5 c7;obtain⟨b4,c8⟩:=ay ((dF (a,c)&&sB f t));rw[c8] at p g;clear c8;cases b4;.have E:Hid (eK (a,c) f t b l=false):=J (by rw[g.o];rfl);clear g;go_in;go_wp21;refine aO (p.o _) λw1 z=>?_;obtain⟨_,_,aa,_⟩:=a2.o _ z;go_wp2;go_returns;exact⟨Z4 E.o.symm,aa⟩
 have Q:=J (λW b2=>c3.o b d7.o W b2);obtain⟨B,a9⟩:=ay (fx Z3 (a,c) (aH b));rw[a9] at Q g;clear a9;cases B;have E:Hid (eK (a,c) f t b l=false):=J (by rw[g.o];rfl);exact NL;by_cases e4:(4096:Int)<n;have E:Hid (eK (a,c) f t b l=false):=J (by rw[g.o,cG O];rfl);exact NL;have E:Hid (eK (a,c) f t b l=oq (a,c) t f b l):=J (by rw[g.o,cT O];rfl);clear g;go_in;go_wp21;refine aO (p.o _) λw1 z=>?_;obtain⟨u,z1,aa,_⟩:=a2.o _ z;have c6:=J z;have a1:=J aa;clear z aa;go_wp21;refine gO (Q.o _ a1.o) c6 λw2 M=>?_;clear u z1 c6 a1 Q p;go_wp2;go_loopw [3,11,36] (λs3 d6 b7 wr=>∃(k:Nat) (q:Int) (d:aS),k<=n/\b7=k/\d6=q/\s3=.string d/\Hid (oq (a,c) t f b l=oq (a,c) t q d (l.drop k))/\Hid (Below (w.alloc (.cells #[a,c] 68)) (w.alloc (.cells #[a,c] 68)) wr)) (λ_ _ b7 _=>(n-intOf b7).toNat);exact⟨0,f,b,cf _,rfl,rfl,rfl,J rfl,M⟩;clear M;obtain⟨k,q,d,e6,rfl,rfl,rfl,a5,hb⟩:=hrel;obtain⟨u,z1,aa,e3⟩:=a2.o _ hb.o;by_cases ab:k<n
 .have b6:k<l:=im;obtain⟨d9,e9,rfl,f2,c0,c1⟩:=xy (Ha.o.below aa) k b6;have b5:=ZfY (s:=(a,c)) (t:=t) (a:=q) (b:=d) b6;have e5:=d4.o k b6;obtain⟨⟨x,v⟩,hs⟩:=ay l[k];rw[hs] at c0 c1 b5 e5;simp only at c0 c1 b5 e5;have a3:Hid (eK (a,c) f t b l=_):=J (E.o.trans (a5.o.trans b5));have G:=J (λW h=>Zi0 (w:=wr) (W:=W) (x:=x) (v:=v) h);have y:=hb.o.alloc hb.o.size (.cells #[x,v] 81);have a0:=J y;have e1:(0:Int)<=k:=O;have e2:(k:Int)<n:=O;clear b5 hs b6;by_cases e7:x<=q;have a8:Hid (eK (a,c) f t b l=false):=J (by rw[a3.o,cG (show ¬q<x by omega)];rfl);exact OV;by_cases e8:t<x;have a8:Hid (eK (a,c) f t b l=false):=J (by rw[a3.o,cG (show ¬x<=t by omega)];simp);exact OV;have R:=J (λW b2=>c3.o v e5 W b2);have S:=J (a2.o _ y).2.2.1;have b8:Hid (fx Z3 (a,c) (aH v)=fx Z3 (a,c) (aH v)):=J rfl;obtain⟨B,a9⟩:=ay (fx Z3 (a,c) (aH v));rw[a9] at R;have c4:=J a9;clear y aa e5 a9 b8;cases B;.have a8:Hid (eK (a,c) f t b l=false):=J (by rw[a3.o,c4.o];simp);go_wp21;refine gO (R.o _ S.o) S λw3 D=>?_;go_wp2;go_returns;exact⟨Z4 a8.o.symm,D.o⟩
  have a7:Hid (eK (a,c) f t b l=((decide (a=3)|| !decide (v=d))&&oq (a,c) t x v (l.drop (k+1)))):=J (by rw[a3.o,c4.o,cT (show q<x by omega),cT (show x<=t by omega)];simp);by_cases a4:a=3;have g6:Hid (oq (a,c) t f b l=oq (a,c) t x v (l.drop (k+1))):=J (by rw[<-E.o,a7.o,cT a4];simp);have d2:(a !=3)=false:=(by rw[a4];rfl);clear a3 a7 a5 a4;exact Nw;have d2:(a !=3)=true:=(by rw[kx];exact a4);have b3:=Zlh v d;by_cases b1:v=d;.have a8:Hid (eK (a,c) f t b l=false):=J (by rw[a7.o,cT b1,cG a4];rfl);rw[cT b1] at b3;clear a3 a7 a5 a4 b1;go_wp21;refine aO (R.o _ S.o) λw3 F=>?_;obtain⟨a6,b0⟩:=G.o _ F;have D:=J (a0.o.trans (F.mono a0.o.size));obtain⟨u,z1,d5,_⟩:=a2.o _ D.o;clear F;go_wp2;go_returns;exact⟨Z4 a8.o.symm,d5⟩
  have g6:Hid (oq (a,c) t f b l=oq (a,c) t x v (l.drop (k+1))):=J (by rw[<-E.o,a7.o,cG b1];simp);rw[cG b1] at b3;clear a3 a7 a5 a4 b1;exact Nw
 have d3:k=n:=O;subst d3;have a8:Hid (eK (a,c) f t b l=true):=J (by rw[E.o,a5.o,oe oh];rfl);clear a5;go_wp2;go_returns;exact⟨Z4 a8.o.symm,aa⟩
theorem Zbe:prog.underlying 81=some (.struct (prog.fieldsOf 81)):=dE
theorem Zi2:prog.stoodInHeld 81=false:=dE
theorem Zi3:∃f0 f1,(prog.fieldsOf 81).toList=[f0,f1]/\f0.name≠ "_" /\f1.name≠ "_" /\f0.type=3/\f1.type=9/\f0.offset=0/\f1.offset=1:=
 ⟨(prog.fieldsOf 81)[0]!,(prog.fieldsOf 81)[1]!,dE,of_decide_eq_true dE,of_decide_eq_true dE,dE,dE,dE,dE⟩
theorem ZoU (x y:Int) (u v:aS) (W:au):(Op.equalIn 10000 81 (.agg #[x,u]) (.agg #[y,v])).run prog W=.ok (decide ((x,u)=(y,v))) W:=by rw[run_equalIn_agg _ _ _ _ _ Zbe Zi2];obtain⟨f0,f1,h,l,n1,t0,t1,p,q⟩:=Zi3;have e:=Zlh u v;rw[h];simp[Op.eqFields,l,n1,t0,t1,p,q,go_sem,underlying3,underlying9];by_cases g:x=y;rw[aP g,cT g,Bool.true_and];by_cases k:u=v;rw[aP (by rw[k]),cT k];rw[cG k] at e⊢;rw[az (by simpa using e)];rw[az g,cG g,Bool.false_and]
theorem ZlX (x y:Int) (u v:aS) (W:au):(binOp .neq 81 (.agg #[x,u]) (.agg #[y,v])).run prog W=.ok (.bool (!decide ((x,u)=(y,v)))) W:=by rw[run_neq_struct,ZoU];rfl
theorem Zdb (op:BinOp) (a b:Operand) (g k:Array aJ) (W:au):(eqGuard op 81 a b (.agg g) (.agg k)).run prog W=.ok () W:=run_eqGuard_agg _ _ _ _ _ _ _ dE
theorem T5 {B:bS} {r:List (Int×aS)} (a7:At w A (cv l)) (hb:At w B (cv r)) (n cap m a5:Nat) (a9:n=l) (a8:m=r) (b5:n<=9223372036854775807) (c6:m<=9223372036854775807):
  Calls prog 20 #[(A,n,cap),(B,m,a5)] w (bN w (decide (l=r))):=by
 obtain⟨Ha,a1,I,E⟩:=dm a7 hb a9 a8;by_cases a0:n=m
 .subst a0;go_in;go_wp2;go_loopw [5] (λG wr=>∃(k q:Nat),k<=n/\G=k/\Hid (l.take k=r.take k)/\wr=w.drewN q) (λG _=>(n-intOf G).toNat);exact⟨0,0,cf _,rfl,J rfl,rfl⟩;obtain⟨k,q,c3,rfl,p,rfl⟩:=hrel;by_cases ab:k<n
  .have h1:k<l:=im;have S:k<r:=FA;obtain⟨b6,c4,rfl,_,c0,c1⟩:=xy Ha.o k h1;obtain⟨b7,c5,rfl,_,d0,R⟩:=xy a1.o k S;have b8:(0:Int)<=k:=O;have b9:(k:Int)<n:=O;have M:=λ(h:l[k]=r[k])=>(show l.take (k+1)=r.take (k+1) by rw[dD h1,dD S,p.o,h]);have Q:=λ(h:¬l[k]=r[k]) (e:l=r)=>h (by subst e;rfl);obtain⟨⟨x,u⟩,hX⟩:=ay l[k];obtain⟨⟨y,v⟩,hY⟩:=ay r[k];rw[hX,hY] at M Q;rw[hX] at c0 c1;rw[hY] at d0 R;simp only at c0 c1 d0 R;have F:=J M;have a3:=J Q;have b1:=λW=>ZlX x y u v W;have b0:=λop a b b2 b3 W=>Zdb op a b b2 b3 W;go_wp2;go_quiet (fail);by_cases D:(x,u)=(y,v)
   .have a4:=F.o D;obtain⟨t,z⟩:=Prod.mk.inj D;have a2:=J a4;subst t;subst z;rw[cT (show x=x from rfl),cT (show u=u from rfl)];go_wp2
    all_goals first
     |(refine⟨⟨k+1,_,ab,ck,a2,rfl⟩,?_⟩;simp[intOf]<;>omega)
   have g:Hid (decide (l=r)=false):=J (cG (a3.o D))
   have hb:(!decide (x=y)|| !decide (u=v))=true:=by by_cases t:x=y;by_cases z:u=v;exact absurd (by rw[t,z]) D;rw[cG z];simp;rw[cG t];rfl
   rw[hb];exact PB
  have a6:k=n:=O;subst a6;have g:Hid (decide (l=r)=true):=J (cT (by have:=p.o;rw[dU oh,dU Fz] at this;exact this));exact PB
 have b4:((n:Int) !=m)=true:=fb;have g:Hid (decide (l=r)=false):=J (cG (λh=>a0 (by rw[I.o,E.o,h])));go_in;go_wp2;go_returns;exact⟨Z4 g.o.symm,bi _ _⟩
theorem L4 (a c:Int) (k:gL w):rm a c w:=λv l W g=>by have:=Tg a c (aH v) (by exact l) (k.below g);exact this
