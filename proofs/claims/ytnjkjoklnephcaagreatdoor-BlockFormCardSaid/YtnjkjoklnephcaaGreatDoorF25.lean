import Derived.Test.YtnjkjoklnephcaaGreatDoorF19
import Derived.Test.YtnjkjoklnephcaaGreatDoorF24
import Derived.Test.YtnjkjoklnephcaaGreatDoorF23
import Derived.Laws.StructEq
set_option linter.all false
set_option maxRecDepth 100000
set_option maxHeartbeats 0
open Go.Proofs.Tryz (prog underlying123 underlying125 underlying23 underlying3 underlying49 underlying9)
section
variable{P Q:Prop}
theorem yI(h:P:=by rw[E.o];rfl):P:=h
theorem yw(h:P:=by exact⟨0,cf _,rfl,J rfl,rfl⟩):P:=h
theorem vV(h:P:=by go_wp2;go_returns;exact⟨Z4 E.o.symm,rfl⟩):P:=h
theorem I5(h:P:=by intro y l;simp at l;rcases l with rfl|rfl<;>rfl):P:=h
theorem P5(h:P:=by go_wp2;go_returns;exact⟨Z4 g.o.symm,⟨rfl,rfl,rfl,aU,λ_ _=>rfl⟩⟩):P:=h
theorem OG(h:P:=by have a6:=J (a2.o _ D).2.2.1;clear D aa e4;go_wp2;go_returns;exact⟨Z4 a7.o.symm,a6.o⟩):P:=h
theorem EC(h:P:=by go_wp2;refine⟨⟨k+1,ab,by go_num,by rw[e6.o],(by first|trivial|rfl)⟩,?_⟩;simp[intOf]<;>omega):P:=h
theorem OW(h:P:=by generalize bs d=D at*;clear h1 L k g q Q R G;go_in;go_wp21;refine aP a4.o λw2 aa=>?_;go_wp2;go_returns;exact⟨by rw[t.o];rfl,aa⟩):P:=h
theorem IK(h:P:=by obtain⟨b,o,S,ab,c0⟩:=M.get (k*2) _ q.1;obtain⟨l,p,g,_,c1⟩:=M.get (k*2+1) _ q.2;rw[S] at g;injection g with g;injection g with h1 L;subst h1;subst L;exact⟨b,o,S,ab,c0,c1⟩):P:=h
theorem L6(h:P:=by clear g;go_in;go_wp21;refine aP (p.o _) λw1 z=>?_;obtain⟨u,z1,aa,_⟩:=a2.o _ z;have a3:=J aa;clear z aa;go_wp21;refine ij (G.o _ a3.o) a3 λw2 a1=>?_;go_wp2;go_returns;exact⟨Z4 E.o.symm,a1.o⟩):P:=h
theorem IJ(h:P:=by have E:Hid ((true&&sx f t)=false):=J (by rw[p.o];simp[*]);go_in;go_wp21;refine ij (u.o _) q λw1 y=>?_;go_wp2;go_returns;exact⟨by first|exact Z4 E.o.symm|exact Z4 (by rw[E.o,cI (by omega)]),y.o⟩):P:=h
end
theorem N'{P:Prop}(h:P:=by go_wp21;refine aP (M.o _ a6.o) λw3 y=>?_;obtain⟨a0,Q⟩:=a8.o _ y;have F:=J (R.o.trans (y.mono R.o.size));obtain⟨u,z1,_⟩:=a2.o _ F.o;clear y;go_wp2;go_quiet (fail);go_wp2;refine⟨⟨k+1,x,v,ab,by go_num,rfl,rfl,g5,J ⟨F.o.1,F.o.2,F.o.3,F.o.4,F.o.5⟩⟩,?_⟩;simp[intOf]<;>omega):P:=h
namespace Wv
def sx (f t:Int):Bool:=decide (-1<=f)&&decide (f<=t)&&decide (t<=1099511627776)
theorem Hb {f t:Int} :sx f t=true↔-1<=f/\f<=t/\t<=1099511627776:=by unfold sx;grind
def Ed (x k:Int):Int:=if 0<=x then x/k+1 else 0
def nM (f t k:Int):Int:=if sx f t=false\/k<1 then-1 else if 4096<Ed t k-Ed f k then-1 else Ed t k-Ed f k
def ms (f t k:Int):List Int:=(List.range (nM f t k).toNat).map (λ(i:Nat)=>(Ed f k+i)*k)
def ti (b:aT):List (Int×aT)->Int->aT
 |[],_=>b
 |c::l,t=>ti (if c.1<=t then c.2 else b) l t
theorem Vp (t:Int):∀(l:List (Int×aT)) (b:aT) (c:Int×aT),ti b (l++[c]) t=if c.1<=t then c.2 else ti b l t
 |[],b,c=>rfl
 |d::l,b,c=>by show ti _ (l++[c]) t=_;rw[Vp t l];rfl
end Wv
namespace Go.Proofs.Y
open Wv Go.RowKit
theorem xx {w:aq} {A:bN} {l:List (Int×aT)} (M:At w A (cv l)) (k:Nat) (h:k<l):∃b o,A=some ⟨b,o,none⟩/\b<w.heap.size/\w.cell? ⟨b,o+k*2,none⟩=some (.int .i64 l[k].1)/\w.cell? ⟨b,o+k*2+1,none⟩=some (.string l[k].2):=by have q:=Z_ l k h;exact IK
variable{B k:Nat}{W wb:aq}{l:List (Int×aT)}{v:aI}
theorem ZrA {w:aq} {A:bN} {b:aT} (z:At w A (cv l)) (n cap:Nat) (B:n=l) (E:n<=9223372036854775807) (t:Int):
  Calls prog 66 #[b,(A,n,cap),t] w λx w'=>x=.returned (ti b l t)/\w=w':=by have Ha:=J z;have I:=J B;go_in;go_wp2;go_loopw [7,8] (λD g wr=>∃k:Nat,k<=n/\g=k/\D=.string (ti b (l.take k) t)/\wr=w) (λ_ g _=>(n-intOf g).toNat);exact⟨0,cf _,rfl,rfl,rfl⟩;obtain⟨k,M,rfl,rfl,rfl⟩:=hrel;by_cases ab:k<n;have h1:k<l:=iF;obtain⟨F,Q,rfl,_,c0,c1⟩:=xx Ha.o k h1;have u:l.take (k+1)=l.take k++[l[k]]:=dK h1;have d:=Vp t (l.take k) b l[k];rw[<-u] at d;have G:(0:Int)<=k:=O;have L:(k:Int)<n:=O;obtain⟨⟨x,v⟩,hs⟩:=ay l[k];rw[hs] at c0 c1 d;simp only at c0 c1 d;generalize ti b (l.take k) t=V at*;have j:=J d;by_cases p:x<=t;have e6:Hid (ti b (l.take (k+1)) t=v):=J (by rw[j.o,Vag p]);exact EC;have e6:Hid (ti b (l.take (k+1)) t=V):=J (by rw[j.o,aD p]);exact EC;have y:k=n:=O;subst y;have q:Hid (ti b (l.take k) t=ti b l t):=J (by rw[d' og]);go_wp2;go_returns;exact⟨Bc q.o,rfl⟩
def tz (l:List (Int×aT)) (m:Int):Bool:=l.all (λx=>decide ((x.2.size:Int)<=150))&&decide ((l.length:Int)<=m)
theorem ZjD {w : aq} {A : bN} {l : List (Int × aT)} (u : At w A (cv l)) (n cap : Nat) (d : n = l.length) (D : n <= 9223372036854775807) (m : Int) :
    Calls prog 28 #[(A,n,cap),m] w λx w'=>x=.returned (tz l m)/\w=w':=by
  have Ha:=J u;have I:=J d;have j:Hid (tz l m=(l.all (λx=>decide ((x.2.size:Int)<=150))&&decide ((n:Int)<=m))):=J (by rw[d];rfl);clear u d;go_in;go_wp2;go_loopw [5] (λg wr=>∃k:Nat,k<=n/\g=k/\Hid ((l.take k).all (λx=>decide ((x.2.size:Int)<=150))=true)/\wr=w) (λg _=>(n-intOf g).toNat);exact yw;obtain⟨k,Q,rfl,q,rfl⟩:=hrel;by_cases ab:k<n;. have h1:k<l:=iF;obtain⟨F,R,rfl,_,c0,c1⟩:=xx Ha.o k h1;have p:l.take (k+1)=l.take k++[l[k]]:=dK h1;have y:l[k]∈l:=dt _;have G:(0:Int)<=k:=O;have L:(k:Int)<n:=O;obtain⟨⟨t,a⟩,hs⟩:=ay l[k];rw[hs] at c0 c1 p y;simp only at c0 c1;by_cases M:(150:Int)<a.size;have E : Hid (tz l m = false) := J (by rw[j.o,Ca];left;rw[IC];exact⟨_,y,fj⟩);exact vV;have B : Hid ((l.take (k + 1)).all (λx => decide ((x.2.size : Int) <= 150)) = true) := J (by rw[p,List.all_append,q.o];exact fj);go_wp2;refine⟨⟨k+1,ab,ci,B,Fv⟩,?_⟩;simp[intOf]<;>omega
  have z:k=n:=O;subst z;have E:Hid (tz l m=decide ((k:Int)<=m)):=J (by have h:=q.o;rw[d' og] at h;rw[j.o,h,Bool.true_and]);exact vV
theorem ZoM:(prog.info? 81).map (λi=>(i.zero,i.size,i.bytes))=some (some (.agg #[(0:Int),ByteArray.empty]),2,24):=dw
def M1 (w:aq) (v:aI) (l:List (Int×aT)):Prop:=∃A cap,v=.slice A l cap/\At w A (cv l)
theorem M1.nil (w:aq):M1 w (.slice none 0 0) []:=⟨none,0,rfl,At.nil _ _⟩
theorem ZlX (l:List (Int×aT)) (c:Int×aT):cv (l++[c])=cv l++[.int .i64 c.1,.string c.2]:=by unfold cv;rw[yD];rfl
theorem Zd0 (h:W.ownsRow B 81 2 v k (cv l)) (t:Below B wb W) (q:B<=W) (z:k<=1000000) (c:Int×aT):
  ∃d W',(Builtin.append_ #[49,49] 49 #[v,.slice (some (W,0)) 1 1]).run prog (W.alloc (.cells #[c.1,c.2] 81))=.ok d W'/\W'.ownsRow B 81 2 d (k+1) (cv (l++[c]))/\Below B wb W':=by obtain⟨d,u,p,g,j,_⟩:=Gi (P:=prog) 49 81 _ _ 2 underlying49 ZoM rfl aY (w:=W) h t q [.int .i64 c.1,.string c.2] rfl I5 fU O;rw[<-ZlX] at g;exact⟨d,u,p,g,j⟩
theorem Zmy:(prog.info? 3).map (λi=>(i.zero,i.size,i.bytes))=some (some (.int .i64 0),1,8):=dw
def M3 (w:aq) (v:aI) (l:List Int):Prop:=∃A cap,v=.slice A l cap/\At w A (l.map iv)
theorem M3.nil (w:aq):M3 w (.slice none 0 0) []:=⟨none,0,rfl,At.nil _ _⟩
theorem Zei {l:List Int} (h:W.ownsRow B 3 1 v k (l.map iv)) (t:Below B wb W) (q:B<=W) (y:k<=1000000) (x:Int):
  ∃d W',(Builtin.append_ #[123,123] 123 #[v,.slice (some (W,0)) 1 1]).run prog (W.alloc (.cells #[x] 3))=.ok d W'/\W'.ownsRow B 3 1 d (k+1) ((l++[x]).map iv)/\Below B wb W':=by obtain⟨d,u,j,p,g,_⟩:=ZU (P:=prog) 123 3 _ _ underlying123 Zmy rfl (w:=W) h t q x rfl fU O;refine⟨d,u,j,?_,g⟩;rw[jy];exact p
end Go.Proofs.Y
namespace Wv
open Go.Proofs.Y
variable{a f t:Int}{b:aT}{c d v:ax}{k n:Nat}{s:Int×Int}{vs:a'}
abbrev dO:=Int×aT
def oq (s:Int×Int) (t:Int):Int->aT->List dO->Bool
 |_,_,[]=>true
 |a,b,c::l=>decide (a<c.1)&&decide (c.1<=t)&&fO Z3 s (aH c.2)&&(decide (s.1=3)|| !decide (c.2=b))&&oq s t c.1 c.2 l
theorem Kn {c:dO} {l:List dO} :oq s t a b (c::l)=true↔a<c.1/\c.1<=t/\fO Z3 s (aH c.2)=true/\(s.1=3\/c.2≠b)/\oq s t c.1 c.2 l=true:=by show(decide _&&decide _&&_&&_&&_)=true↔_;grind
def eE (s:Int×Int) (f t:Int) (b:aT) (l:List dO):Bool:=dS s&&sx f t&&fO Z3 s (aH b)&&decide (l.length<=4096)&&oq s t f b l
theorem Xn {l:List dO} :eE s f t b l=true↔dS s=true/\sx f t=true/\fO Z3 s (aH b)=true/\l.length<=4096/\oq s t f b l=true:=by unfold eE;grind
theorem Znv {l:List dO} (h:eE s f t b l=true):eE s f t b []=true:=by obtain⟨h1,d,g,_⟩:=Xn.1 h;exact Xn.2 ⟨h1,d,g,cf _,rfl⟩
def gY (f:Int) (l:List dO):List Int:=l.map (λc=>c.1-(f+1))
theorem l_ {s:Int×Int} {t f:Int} (g:t-(f+1)<=1099511627776):∀ {l:List dO} {a:Int} {b:aT},oq s t a b l=true->tv (a-(f+1)) (gY f l)=true
 |[],_,_,_=>rfl
 |c::l,a,b,h=>by obtain⟨h1,j,_,_,d⟩:=Kn.1 h;exact QR.2 ⟨aO,aO,l_ g d⟩
theorem QP {s:Int×Int} {t:Int} :∀ {l:List dO} {a:Int} {b:aT},oq s t a b l=true->∀c∈l,fO Z3 s (aH c.2)=true
 |[],_,_,_,c,g=>aO
 |d::l,a,b,h,c,g=>by obtain⟨_,_,k,_,j⟩:=Kn.1 h;rcases jA.1 g with rfl|g;exact O;exact QP j c g
theorem Kr {l:List dO} (h:eE s f t b l=true):Zi (gY f l)=true:=by obtain⟨_,d,_,j,g⟩:=Xn.1 h;obtain⟨i1,k,p⟩:=Hb.1 d;unfold Zi;rw[gm,fq];refine⟨?_,by unfold gY;grind⟩;have:=l_ (f:=f) O g;grind
def iU (f:Int) (ts:List Int) (vs:a'):List dO:=List.zipWith (λx v=>(x+f+1,v)) ts vs
theorem Uy (f:Int):∀l:List dO,iU f (gY f l) (l.map (·.2))=l
 |[]=>rfl
 |c::l=>by show(c.1-(f+1)+f+1,c.2)::iU f (gY f l) (l.map (·.2))=c::l;rw[Uy f l];grind
theorem Su (f:Int):∀(ts:List Int) (vs:a'),ts=vs.length->gY f (iU f ts vs)=ts/\(iU f ts vs).map (·.2)=vs
 |[],[],_=>⟨rfl,rfl⟩
 |[],_::_,h=>aO
 |_::_,[],h=>aO
 |x::ts,v::vs,h=>by obtain⟨h1,d⟩:=Su f ts vs aO;constructor;show(x+f+1-(f+1))::gY f (iU f ts vs)=x::ts;grind;show v::(iU f ts vs).map (·.2)=v::vs;rw[d]
theorem XK (f:Int) (ts:List Int) (vs:a') (h:ts=vs.length):(iU f ts vs)=ts.length:=by unfold iU;grind
/-! ## Values -/
def oN (s:Int×Int):Nat:=if s.1=0 then 2 else 3
def mZ (s:Int×Int) (vs:a'):ax×Nat:=if s.1=0 then Y8 s.2 vs else enc vs
def ow (s:Int×Int) (d:ax) (most:Int):a'×Nat:=if s.1=0 then tr s.2 d most else fl d most
theorem E_ (h0:s.1=0) (h:fO Z3 s v=true):vld s.2 v=true:=by unfold fO at h;rw[gm] at h;have d:=h.2;unfold sD at d;grind
theorem Zlg (l:dS s=true) (q:s.1≠3) (g:∀v∈vs,fO Z3 s (aH v)=true) (d:vs.length<=4096):(mZ s vs).2=0/\∀most:Int,(vs.length:Int)<=most->ow s (mZ s vs).1 most=(vs,0):=by
 unfold mZ ow;by_cases h0:s.1=0;obtain⟨w1,p⟩:=XI l h0;have hb:ZG s.2 vs=true:=ZH.2 ⟨λv h=>E_ h0 (g v h),w1,p,d⟩;obtain⟨c,x,_,_,t⟩:=JY hb;rw[Vag h0];refine⟨aO,λmost k=> ?_⟩;rw[Vag h0,Zi8 hb,aD O];rw[aD h0];have j:∀v∈vs,v.size<=128:=λv h=>by have:=(Hq (g v h)).2;exact this
 refine⟨by rw[L4 d j],λmost k=> ?_⟩;rw[aD h0,Lb d j,aD O]
theorem Zcq {most:Int} (h:ow s d most=(vs,0)):mZ s vs=(d,0):=by unfold mZ ow at*;by_cases h0:s.1=0;rcases RJ s.2 d most with ⟨_,h1⟩|⟨_,_,h1|h1⟩|⟨l,h1,g,_⟩;exact aO;exact aO;exact aO;grind;rcases XR d most with (h1|h1)|⟨l,h1,g,_⟩;exact aO;exact aO;grind
/-! ## Frames -/
def Y0:List (Nat×ax)->Option ax
 |[]=>some []
 |p::r=>match Zo p.1 p.2 with
  |none=>none
  |some w=>(Y0 r).map (w++·)
def zn:Nat->ax->Option (List (Nat×ax))
 |_,[]=>some []
 |0,_::_=>none
 |n+1,a::r=>match ZI (a::r) with
  |none=>none
  |some (k,c,z)=>(zn n ((a::r).drop z)).map ((k,c)::·)
def jJ (d:ax):Option (List (Nat×ax)):=zn d d
theorem FH (h:ZI d=some (k,c,n)):1<=n/\n<=d:=by obtain⟨h1,_,g⟩:=XU h;rcases rS n with h0|h0;subst h0;exact absurd rfl (Gf h1);omega
theorem Sm:∀(n m:Nat) (d:ax),d<=n->d.length<=m->zn n d=zn m d
 |0,0,_,_,_=>rfl
 |0,m+1,d,h,_=>by have:d=[]:=ia O;subst this;rfl
 |n+1,0,d,_,h=>by have:d=[]:=ia O;subst this;rfl
 |n+1,m+1,[],_,_=>rfl
 |n+1,m+1,a::r,h1,h2=>by unfold zn;rcases g:ZI (a::r) with _|q;rfl;obtain⟨k,c,z⟩:=q;obtain⟨j,l⟩:=FH g;simp only;rw[Sm n m ((a::r).drop z) aO aO]
theorem Zke:jJ []=some []:=rfl
theorem D_ (h:d≠[]) (g:ZI d=none):jJ d=none:=by rcases d with _|⟨a,r⟩;exact aO;unfold jJ;rw[gd];unfold zn;rw[g]
theorem Kb (h:ZI d=some (k,c,n)):jJ d=(jJ (d.drop n)).map ((k,c)::·):=by
 obtain⟨g,j⟩:=FH h;rcases d with _|⟨a,r⟩;exact aO;unfold jJ;rw[gd];conv=>lhs;unfold zn
 rw[h];simp only;rw[Sm r ((a::r).drop n) ((a::r).drop n) aO aU]
theorem Sn:∀ {l:List (Nat×ax)} {d:ax},(∀p∈l,p.1<16)->Y0 l=some d->jJ d=some l
 |[],d,_,h=>Ja
 |p::r,d,hk,h=>by unfold Y0 at h;rcases j:Zo p.1 p.2 with _|w;exact aO;rw[j] at h;rcases g:Y0 r with _|x;exact aO;rw[g] at h;injection h with h;subst h;have k:=JB (hk p fi) j x;rw[Kb k,B7,Sn (λq t=>hk q (gM _ t)) g];rfl
theorem JT:∀(n:Nat) {d:ax} {l:List (Nat×ax)},d<=n->jJ d=some l->Y0 l=some d
 |n,[],l,_,h=>Ja
 |0,a::r,l,hn,_=>aO
 |n+1,a::r,l,hn,h=>by rcases g:ZI (a::r) with _|q;rw[D_ (by simp) g] at h;cases h;obtain⟨k,c,z⟩:=q;obtain⟨t,u⟩:=FH g;rw[Kb g] at h;rcases j:jJ ((a::r).drop z) with _|m;exact aO;rw[j] at h;injection h with h;subst h;have p:=JT n (d:=(a::r).drop z) aO j;obtain⟨h1,_⟩:=XU g;unfold Y0;rw[h1,p];simp
def rb (l:List (Nat×ax)):ax×Nat:=match Y0 l with
 |none=>([],9)
 |some d=>if 4096<d.length then([],9) else(d,0)
theorem ZnG {l:List (Nat×ax)} (h:rb l=(d,0)):Y0 l=some d/\d.length<=4096:=by unfold rb at h;grind
theorem VU {p:Nat×ax} {r:List (Nat×ax)} (h:Y0 (p::r)=some d):d≠[]:=by unfold Y0 at h;rcases g:Zo p.1 p.2 with _|w;exact aO;rw[g] at h;rcases j:Y0 r with _|x;exact aO;rw[j] at h;injection h with h;rw[<-h];have:=Gf g;intro h;exact this (List.append_eq_nil_iff.1 h).1
/-! ## Streams of changes -/
def tA (s:Int×Int) (f:Int) (l:List dO):List (Nat×ax):=(1,(ke (gY f l)).1)::if s.1=3 then[] else[(oN s,(mZ s (l.map (·.2))).1)]
def mX (s:Int×Int) (f t:Int) (b:aT) (l:List dO):ax×Nat:=if eE s f t b l=false then([],1) else if l=[] then([],0) else rb (tA s f l)
def Yw (s:Int×Int) (n:Nat) (r:List (Nat×ax)):Option a':=if s.1=3 then(if r=[] then some (List.replicate n ⟨#[]⟩) else none) else match r with
 |[p]=>if p.1=oN s/\(ow s p.2 n).2=0/\(ow s p.2 n).1=n then some (ow s p.2 n).1 else none
 |_=>none
def qZ (s:Int×Int) (f:Int) (d:ax):Option (List dO):=match jJ d with
 |some (p::r)=>if p.1=1/\(nE p.2 4096).2=0/\(nE p.2 4096).1≠[] then(Yw s (nE p.2 4096).1 r).map (iU f (nE p.2 4096).1) else none
 |_=>none
def iS (s:Int×Int) (f t:Int) (b:aT) (d:ax):List dO×Nat:=if eE s f t b []=false then([],1) else if d=[] then([],0) else if 4096<d.length then([],12) else match qZ s f d with
 |none=>([],12)
 |some l=>if eE s f t b l=true then(l,0) else([],12)
theorem Lw {l:List dO} (h:mX s f t b l=(d,0)):eE s f t b l=true/\((l=[]/\d=[])\/(l≠[]/\Y0 (tA s f l)=some d/\d.length<=4096)):=by unfold mX at h;split at h;exact aO;refine⟨aO,?_⟩;split at h;exact aO;rename_i h2;exact .inr ⟨h2,ZnG h⟩
theorem Zis (g:s.1=3) {v:aT} (h:fO Z3 s (aH v)=true):v=⟨#[]⟩:=by unfold fO at h;rw[gm] at h;have d:=h.2;unfold sD at d;rw[aD O,aD O,aD O,fq] at d;have:=Zc v;rw[d] at this;exact this.symm
theorem ZqX {l:List dO} (h:mX s f t b l=(d,0)):iS s f t b d=(l,0):=by
 obtain⟨w,j⟩:=Lw h;unfold iS;rw[aD (by rw[Znv w];decide)];rcases j with ⟨h1,u⟩|⟨h1,u,g⟩;exact aO;rw[aD (VU u),aD O];obtain⟨Q,a1,a2,R,B⟩:=Xn.1 w;have z:=Kr w;obtain⟨c,_,_,S⟩:=XT z;have q:(gY f l)=l.length:=(by unfold gY;grind);have G:nE (ke (gY f l)).1 4096=(gY f l,0):=(by rw[Zia z,aD O]);have I:∀p∈tA s f l,p.1<16:=by intro p k;unfold tA at k;rcases jA.1 k with rfl|k;exact O;split at k;exact aO;rw[jv.1 k];show oN s<16;unfold oN;grind
 have M:=Sn I u;have D:gY f l≠[]:=λe=>h1 (ia (by rw[<-q,e];rfl));have L:Yw s (gY f l) (if s.1=3 then[] else[(oN s,(mZ s (l.map (·.2))).1)])=some (l.map (·.2)):=by unfold Yw;by_cases g:s.1=3;rw[Vag g,Vag g,Vag rfl];congr 1;refine(List.eq_replicate_iff.2 ⟨by rw[c',q],λv y=> ?_⟩).symm;obtain⟨c,j,rfl⟩:=iX.1 y;exact Zis g (QP B c j);rw[aD g,aD g];obtain⟨_,E⟩:=Zlg Q g (vs:=l.map (·.2)) (λv y=>by obtain⟨c,j,rfl⟩:=iX.1 y;exact QP B c j) (by rw[c'];exact R);have F:=E ((gY f l).length:Int) (by rw[c',q];exact Int.le_refl _);simp only;rw[F,Vag ⟨mG,mG,by rw[c',q]⟩]
 have a0:qZ s f d=some l:=by unfold qZ;rw[M];unfold tA;simp only;rw[G,Vag ⟨mG,mG,D⟩,L];simp only[Cg];rw[Uy]
 grind
theorem ZpV {l:List dO} (h:iS s f t b d=(l,0)):mX s f t b l=(d,0)/\eE s f t b l=true:=by
 unfold iS at h;split at h;exact aO;rename_i h1;split at h;.rename_i h2;injection h with h _;subst h;have hv:eE s f t b []=true:=aO;refine⟨?_,hv⟩;unfold mX;grind
 rename_i h2;split at h;exact aO;rename_i h4;rcases hR:qZ s f d with _|l2;exact aO;rw[hR] at h;simp only at h;split at h
 .rename_i hv;injection h with h _;subst h;refine⟨?_,hv⟩;obtain⟨v1,v2,v3,v4,v5⟩:=Xn.1 hv;unfold qZ at hR;rcases hu:jJ d with _|fr;exact aO;rw[hu] at hR;rcases fr with _|⟨p,r⟩;exact aO;simp only at hR;split at hR
  .rename_i hc;obtain⟨c1,c2,c3⟩:=hc;rcases JA p.2 4096 with (q|q)|⟨ts,q1,q2,q3,_,q5⟩;rw[q] at c2;cases c2;rw[q] at c2;cases c2;rw[q1] at hR c3;simp only at hR c3;rcases jj:Yw s ts r with _|vs;rw[jj] at hR;cases hR;rw[jj] at hR;injection hR with hR
   have dp:vs=ts.length/\r=if s.1=3 then[] else[(oN s,(mZ s vs).1)]:=by
    unfold Yw at jj;by_cases h3:s.1=3
    .rw[Vag h3] at jj⊢;split at jj;.rename_i hr;injection jj with jj;rw[<-jj];exact⟨iE,hr⟩
     cases jj
    rw[aD h3] at jj⊢;split at jj
    .rename_i p2;split at jj;.rename_i hp;obtain⟨p3,p4,p5⟩:=hp;injection jj with jj;rw[jj] at p5;have pj:ow s p2.2 (ts.length:Int)=(vs,0):=Prod.ext jj p4;have he:=Zcq pj;exact⟨p5,by rw[he,<-p3]⟩
     cases jj
    cases jj
   obtain⟨bh,hr⟩:=dp;obtain⟨z1,z2⟩:=Su f ts vs bh.symm;have pq:=XK f ts vs bh.symm;have hF:tA s f l2=p::r:=by unfold tA;rw[<-hR,z1,z2,q2,<-hr];congr 1;exact Prod.ext c1.symm rfl
   have hW:=JT d aU hu;have cQ:l2≠[]:=λe=>by rw[e] at hR;rw[hR] at pq;exact c3 (ia pq.symm)
   unfold mX;rw[aD (by rw[hv];decide),aD cQ,hF];unfold rb;rw[hW];simp only;rw[aD h4]
  cases hR
 cases h
def Zq3 (s:Int×Int) (f t k:Int):Nat:=if dS s=false\/nM f t k<0 then 1 else if s.1=3 then 7 else 0
def Ih (s:Int×Int) (f t k:Int) (d:ax):List dO×Nat:=if Zq3 s f t k≠0 then([],Zq3 s f t k) else if ms f t k=[] then(if d=[] then([],0) else([],12)) else if 4096<d.length then([],12) else match jJ d with
 |none=>([],12)
 |some fr=>match Yw s (ms f t k) fr with
  |none=>([],12)
  |some vs=>if vs.all (λv=>fO Z3 s (aH v))=true then((ms f t k).zip vs,0) else([],12)
theorem Zp3 (s:Int×Int):oN s<16:=by unfold oN;grind
theorem ZfR {l:List dO} (h:k<l):oq s t a b (l.drop k)=(decide (a<l[k].1)&&decide (l[k].1<=t)&&fO Z3 s (aH l[k].2)&&(decide (s.1=3)|| !decide (l[k].2=b))&&oq s t l[k].1 l[k].2 (l.drop (k+1))):=by rw[kw h];rfl
def zH (d:Bool) (t:Int):Int->aT->List dO->Bool
 |_,_,[]=>true
 |a,b,c::l=>decide (a<c.1)&&decide (c.1<=t)&&(d|| !decide (c.2=b))&&zH d t c.1 c.2 l
theorem Zrg (s:Int×Int) (t:Int):∀(l:List dO) (a:Int) (b:aT),oq s t a b l=(zH (decide (s.1=3)) t a b l&&l.all (λc=>fO Z3 s (aH c.2)))
 |[],_,_=>rfl
 |c::l,a,b=>by show(_&&_&&_&&_&&oq s t c.1 c.2 l)=((_&&_&&_&&zH _ t c.1 c.2 l)&&(fO Z3 s (aH c.2)&&l.all _));rw[Zrg s t l c.1 c.2];grind
def risR (d:Bool) (f t:Int) (b:aT) (l:List dO):Bool:=sx f t&&decide (l.length<=4096)&&zH d t f b l
theorem ZrB (s:Int×Int) (f t:Int) (b:aT) (l:List dO):eE s f t b l=(dS s&&fO Z3 s (aH b)&&risR (decide (s.1=3)) f t b l&&l.all (λc=>fO Z3 s (aH c.2))):=by unfold eE risR;rw[Zrg];grind
theorem Gc (h:fO Z3 s v=true):v.length<=128:=(Hq h).2
theorem Zg8 {l:List dO} (h:eE s f t b l=true):∀c∈l,c.2.size<=128:=by intro c g;obtain⟨_,_,_,_,d⟩:=Xn.1 h;have:=Gc (QP d c g);rwa [Z2] at this
theorem Zcp (s:Int×Int) (d:ax) (most:Int):∀v∈(ow s d most).1,v.size<=128:=by unfold ow;split;rcases RJ s.2 d most with ⟨_,h1⟩|⟨_,_,h1|h1⟩|⟨l,h1,_,g,_⟩;exact aO;exact aO;exact aO;rw[h1];intro v p;obtain⟨k,t,u,w⟩:=ZH.1 g;have:=k v p;obtain⟨q,j⟩:=ZN.1 this;rw[Z2] at j;omega;rcases XR d most with (h1|h1)|⟨l,h1,_,_,g,_⟩;exact aO;exact aO;grind
def DQ:List dO:=[(10,bs [49]),(15,bs [48])]
theorem Mb (a b:ax):(jS a b)<=a.length/\(jS a b)<=b.length:=by unfold jS;grind
theorem ZlB {W:Int} {l:a'} {s:ax} (h:kQ 0 W l=some s):∀k,(iB W l (k+1))<=(bi 0++s).length/\iB W l (k+1)≠[]:=by
 intro k
 have e:∀k,iB W l (k+1)=match kQ k W l with
   |none=>iB W l k
   |some s=>if iB W l k=[]\/(bi k++s).length<(iB W l k).length then bi k++s else iB W l k:=λ_=>rfl
 induction k with
 |zero=>rw[e,h];simp only;split;exact⟨aU,Md _ _⟩;grind
 |succ k ih=>
  rw[e];rcases kQ (k+1) W l with _|t;exact aO;simp only;split;.rename_i hc;rcases hc with hc|hc;exact aO;exact⟨O,Md _ _⟩
  grind
theorem Zlo:(mZ (0,1) (DQ.map (·.2))).1.length<=1000:=by
 unfold mZ;have hb:(ZR (DQ.map (·.2))).length=4:=by rfl
 have d:kQ 0 1 (DQ.map (·.2))=some (bi 2++aH (rC (ZR (DQ.map (·.2))))):=by rfl
 have h1:=(ZlB d 3).1;have g:(bi 0++(bi 2++aH (rC (ZR (DQ.map (·.2)))))).length<=1000:=by rw[bV,bV,Z2,HO,hb];have a1:=lS 0;have a2:=lS 2;have a3:=Yf 0;have a4:=Yf 2;omega
 unfold Y8;grind
theorem F0 {w:ax} (h:Zo k c=some w):w<=c.length+20:=by unfold Zo at h;rcases d:lx c with _|t;exact aO;rw[d] at h;injection h with h;rw[<-h,QT];have h1:(ZM c t)<=c.length:=Fi;have g:=lS (ZM c t);have j:=Yf (ZM c t);omega
theorem Gd (h:c.length<=4096):∃w,Zo k c=some w:=by have:=X7 (k:=k) (c:=c);rw[dd h] at this;exact Option.isSome_iff_exists.1 this
end Wv
namespace Wv
theorem Sq:∀(l:List (Nat×ax)) (p:Nat×ax),Y0 (l++[p])=(match Y0 l with
  |none=>none
  |some d=>(Zo p.1 p.2).map (d++·))
 |[],p=>by show Y0 [p]=_;unfold Y0;rcases Zo p.1 p.2 with _|w;rfl;simp[Y0]
 |q::l,p=>by show Y0 (q::(l++[p]))=_;unfold Y0;rcases Zo q.1 q.2 with _|w;rfl;simp only;rw[Sq l p];rcases Y0 l with _|d;rfl;simp only[Cg];rcases Zo p.1 p.2 with _|x;rfl;simp[er]
theorem Zct {l m:List (Nat×ax)} (h:Y0 l=none):Y0 (l++m)=none:=by
 induction l with
 |nil=>exact po
 |cons q l ih=>show Y0 (q::(l++m))=none;unfold Y0 at h⊢;rcases j:Zo q.1 q.2 with _|w;rfl;rw[j] at h;simp only at h⊢;rcases g:Y0 l with _|d;rw[ih g];rfl;rw[g] at h;cases h
end Wv
namespace Go.Proofs.Y
open Wv Go.RowKit
section
variable{A:bN}{l:List (Nat×ax)}{w:aq}
def mP (l:List (Nat×ax)):List aI:=l.flatMap λp=>[.int .i64 (p.1:Int),.string (bs p.2)]
theorem Zmm (D:List (Nat×ax)):∀(i:Nat) (h:i<D),(mP D)[i*2]? =(D[i].1:Int)/\(mP D)[i*2+1]? =some (.string (bs D[i].2)):=by
 induction D with
 |nil=>intro i h;simp at h
 |cons c D ih=>
  intro i h;have e:mP (c::D)=[.int .i64 (c.1:Int),.string (bs c.2)]++mP D:=rfl;match i,h with
  |0,_=>exact⟨rfl,rfl⟩
  |i+1,h=>have d:i<D:=(by simpa using h);rw[e,pO fj,pO fj];have:=ih i d;rw[show(i+1)*2-[(Value.int .i64 (c.1:Int)),.string (bs c.2)].length=i*2 from by exact fj,show(i+1)*2+1-[(Value.int .i64 (c.1:Int)),.string (bs c.2)].length=i*2+1 from by exact fj];exact this
theorem ZiF (l:List (Nat×ax)) (c:Nat×ax):mP (l++[c])=mP l++[.int .i64 (c.1:Int),.string (bs c.2)]:=by unfold mP;rw[yD];rfl
theorem HB (M:At w A (mP l)) (k:Nat) (h:k<l):∃b o,A=some ⟨b,o,none⟩/\b<w.heap.size/\w.cell? ⟨b,o+k*2,none⟩=(l[k].1:Int)/\w.cell? ⟨b,o+k*2+1,none⟩=some (.string (bs l[k].2)):=by have q:=Zmm l k h;exact IK
def H5 (l:List (Nat×ax)):aI:=match Y0 l with
 |none=>.tuple #[.string ⟨#[]⟩,(9:Int)]
 |some d=>.tuple #[bs d,(0:Int)]
theorem Z8q (a4:At w A (mP l)) (G:∀p∈l,p.1<16) (F:∀p∈l,p.2.length<=1000000000) (n cap:Nat) (a5:n=l) (b8:n<=1000):
  Calls prog 106 #[(A,n,cap)] w (bM w (H5 l)):=by
 obtain⟨Ha,I,b0,a9,a8⟩:=ii a4 a5 (λ(k:Nat) (G:k<16) (c:ax) (F:c.length<=1000000000) W=>Z1k k G c F W) G F
 have a1:Hid (H5 l=match Y0 l with
  |none=>.tuple #[.string ⟨#[]⟩,(9:Int)]
  |some d=>.tuple #[bs d,(0:Int)]):=J rfl
 generalize H5 l=FV at*;clear a4 a5 G F;go_in;go_wp2;go_loopw [4,11] (λb5 R wr=>∃(i:Nat) (d:ax),i<=n/\R=i/\b5=.string (bs d)/\Hid (Y0 (l.take i)=some d)/\Hid (d.length<=5000*i)/\Hid (Below w w wr)) (λ_ R _=>(n-intOf R).toNat);exact⟨0,[],cf _,rfl,rfl,J (by rw[Vbv];rfl),J (cf _),J (bf _ _)⟩;obtain⟨i,d,hi,rfl,rfl,a6,a3,hb⟩:=hrel;by_cases ab:i<n
 .have a2:i<l:=iF;obtain⟨c3,c9,rfl,d2,c0,c1⟩:=HB (Ha.o.below hb.o) i a2;have B:l.take (i+1)=l.take i++[l[i]]:=dK a2;have a0:=a9.o l[i] (dt _);have L:=a8.o l[i] (dt _);have a7:l=l.take i++([l[i]]++l.drop (i+1)):=by rw[<-er,<-B,vH]
  obtain⟨⟨k,c⟩,hp⟩:=ay l[i];rw[hp] at c0 c1 B a0 L a7;simp only at c0 c1 a0 L;have y:=Sq (l.take i) (k,c);rw[<-B,a6.o] at y;simp only at y;have g:=J (b0.o k a0 c L);unfold rJ at g;have z:=J (hb.o.alloc hb.o.size (.cells #[k,bs c] 87));have c5:(0:Int)<=i:=O;have d3:(i:Int)<n:=O;rcases q:Zo k c with _|u
  .rw[q] at g y;have b1:Y0 l=none:=by rw[a7,<-er,<-B];exact Zct y
   have E:Hid (FV=.tuple #[.string ⟨#[]⟩,(9:Int)]):=J (by rw[a1.o,b1]);rw[show mV none=.tuple #[.string ⟨#[]⟩,(9:Int)] from rfl] at g;generalize bs c=S at*;go_wp21;refine aP (g.o _) λb7 aa=>?_;have M:=J (z.o.trans (aa.mono z.o.size));go_wp2;go_returns;exact⟨yI,M.o⟩
  rw[q] at g y;have d1:u.length<=5000:=by have j:=q;unfold Zo at j;rcases Q:lx c with _|t;rw[Q] at j;cases j;rw[Q] at j;injection j with j;have c4:=C5 Q;rw[<-j,QT];have c6:(ZM c t).length<=4096:=Jm;have c7:=lS (ZM c t);have c8:=Yf (ZM c t);omega
  rw[show mV (some u)=.tuple #[bs u,(0:Int)] from rfl] at g;have b6:Hid (Y0 (l.take (i+1))=some (d++u)):=J (by rw[y];rfl);have b2:Hid ((d++u).length<=5000*(i+1)):=J (by rw[bV];have:=a3.o;omega);have b9:(bs d).size+(bs u).size<=9223372036854775807:=(by rw[Z0,Z0];have:=a3.o;omega);have b4:=J (Z9 d u);generalize bs c=S at*;generalize bs d=D at*;generalize bs u=U at*;go_wp21;refine aP (g.o _) λb7 aa=>?_;have M:=J (z.o.trans (aa.mono z.o.size));go_wp2;refine⟨⟨i+1,d++u,ab,ci,by rw[<-b4.o],b6,b2,M⟩,?_⟩;simp[intOf]<;>omega
 have b3:i=n:=O;subst b3;have E:Hid (FV=.tuple #[bs d,(0:Int)]):=J (by have h:=a6.o;rw[d' og] at h;rw[a1.o,h]);go_wp2;go_returns;exact⟨yI,hb.o⟩
theorem V2 (a c f t:Int) (w:aq):
  Calls prog 64 #[.agg #[a,c],f,t] w (bM w (.bool (dS (a,c)&&sx f t))):=by
 have u:=J (λW=>Uo a c W);have p:Hid (sx f t=(decide (-1<=f)&&decide (f<=t)&&decide (t<=1099511627776))):=J rfl;have q:=J ((bf w w).alloc aU (.cells #[a,c] 68));obtain⟨B,d⟩:=ay (dS (a,c));rw[d] at u⊢;clear d;cases B;.have E:Hid ((false&&sx f t)=false):=J rfl;go_in;go_wp21;refine ij (u.o _) q λw1 y=>?_;go_wp2;go_returns;exact⟨rfl,y.o⟩
 by_cases h1: -1<=f
 .by_cases g:f<=t
  .by_cases j:t<=1099511627776;.have E:Hid ((true&&sx f t)=true):=J (by rw[p.o];simp[*]);go_in;go_wp21;refine ij (u.o _) q λw1 y=>?_;go_wp2;go_returns;exact⟨by first|exact Z4 E.o.symm|exact Z4 (by rw[E.o,cI O]),y.o⟩
   exact IJ
  exact IJ
 exact IJ
theorem RX (u:At w A (mP l)) (z:∀p∈l,p.1<16) (y:∀p∈l,p.2.length<=1000000000) (n cap:Nat) (B:n=l) (E:n<=1000):
  Calls prog 70 #[(A,n,cap)] w (bM w (.tuple #[bs (rb l).1,((rb l).2:Int)])):=by
 have a4:=J (Z8q u z y n cap B E)
 have k:Hid (H5 l=match Y0 l with
  |none=>.tuple #[.string ⟨#[]⟩,(9:Int)]
  |some d=>.tuple #[bs d,(0:Int)]):=J rfl
 have g:Hid (rb l=match Y0 l with
  |none=>([],9)
  |some d=>if 4096<d.length then([],9) else(d,0)):=J rfl
 have Q:bs ([]:ax)=⟨#[]⟩:=rfl;clear u z y B;rcases q:Y0 l with _|d;.have h1:=k.o;have L:=g.o;rw[q] at h1 L;simp only at h1 L;rw[h1] at a4;have t:Hid (Ending.returned (.tuple #[bs (rb l).1,((rb l).2:Int)])=.returned (.tuple #[.string ⟨#[]⟩,(9:Int)])):=J (by rw[L];rfl);clear h1 L k g q Q;go_in;go_wp21;refine aP a4.o λw2 aa=>?_;go_wp2;go_returns;exact⟨by rw[t.o];rfl,aa⟩
 have h1:=k.o;have L:=g.o;rw[q] at h1 L;simp only at h1 L;rw[h1] at a4;have G:(bs d).size=d:=Z0 d;by_cases R:4096<d.length;rw[Vag R] at L;have t:Hid (Ending.returned (.tuple #[bs (rb l).1,((rb l).2:Int)])=.returned (.tuple #[.string ⟨#[]⟩,(9:Int)])):=J (by rw[L];rfl);have j:(4096:Int)<((bs d).size:Int):=O;exact OW;rw[aD R] at L;have t:Hid (Ending.returned (.tuple #[bs (rb l).1,((rb l).2:Int)])=.returned (.tuple #[bs d,(0:Int)])):=J (by rw[L];rfl);have j:¬(4096:Int)<((bs d).size:Int):=O;exact OW
end
theorem GV:(prog.info? 9).map (λi=>(i.zero,i.size,i.bytes))=some (some (.string ByteArray.empty),1,16):=dw
def Ix (w:aq) (v:aI) (l:a'):Prop:=∃A cap,v=.slice A l cap/\At w A (bz l)
theorem Zn1 {w:aq} {base e:Nat} {v:aI} {l:a'} (h:w.ownsRow base e 1 v l (bz l)):Ix w v l:=E6
theorem Zgp (l:a') (s:aT):bz (l++[s])=bz l++[.string s]:=by unfold bz;rw[jy];rfl
theorem Zfp {w:aq} {A:bN} {l:List (Int×aT)} (u:At w A (cv l)) (n cap:Nat) (y:n=l) (a2:n<=1000000):
  Calls prog 105 #[(A,n,cap)] w λx w'=>∃v,x=.returned v/\Ix w' v (l.map (·.2))/\Below w w w':=by
 have Ha:=J u;have I:=J y;have a1:Hid (w.ownsRow w 9 1 (.slice none 0 0) 0 (bz ((l.take 0).map (·.2)))):=J (by rw[Vbv];exact Zl);clear u y;go_in;go_wp2;go_loopw [3,8] (λa0 g wr=>∃i:Nat,i<=n/\g=i/\Hid (wr.ownsRow w 9 1 a0 i (bz ((l.take i).map (·.2))))/\Hid (Below w w wr)) (λ_ g _=>(n-intOf g).toNat);exact⟨0,cf _,rfl,a1,J (bf _ _)⟩;obtain⟨i,hi,rfl,d,hb⟩:=hrel;obtain⟨A5,z,M,rfl⟩:=Z7 d.o;by_cases ab:i<n
 .have q:i<l:=iF;obtain⟨a3,a5,rfl,a6,c0,c1⟩:=xx (Ha.o.below hb.o) i q;have j:l.take (i+1)=l.take i++[l[i]]:=dK q;obtain⟨⟨T,V⟩,hTV⟩:=ay l[i];rw[hTV] at c0 c1 j;simp only at c0 c1;have t:=hb.o.alloc hb.o.size (.cells #[T,V] 81);have E:=Z6 d.o (Fr.of_below (S:=nob) ((bf wr wr).alloc aU (.cells #[T,V] 81))) (λ_ _ f=>f);obtain⟨a7,W',k,p,D,_⟩:=ZU (P:=prog) 23 9 _ _ underlying23 GV rfl E t t.size (.string V) rfl fU O;have Q:bz ((l.take (i+1)).map (·.2))=bz ((l.take i).map (·.2))++[.string V]:=(by rw[j,jy,<-Zgp];rfl);rw[<-Q] at p;rw[World.size_alloc] at k;obtain⟨F,L,R⟩:=bD k p D;have a4:(0:Int)<=i:=O;have a8:(i:Int)<n:=O
  go_wp2_with (
   at_builtin;refine Z5 iG rfl _ _ _ rfl _ _ (by rfl) (by rfl) F.o ?_);refine⟨⟨i+1,ab,ci,L,R⟩,?_⟩;simp[intOf]<;>omega
 have B:i=n:=O;subst B;have G:Hid (Ix wr (.slice A5 z M) (l.map (·.2))):=J (by have h:=d.o;rw[d' og] at h;exact Zn1 (by rw[c',<-I.o];exact h));go_wp2;go_returns;exact⟨_,rfl,G.o,hb.o⟩
theorem N1:(prog.info? 87).map (λi=>(i.zero,i.size,i.bytes))=some (some (.agg #[(0:Int),ByteArray.empty]),2,24):=dw
def Ir (w:aq) (v:aI) (l:List (Nat×ax)):Prop:=∃A cap,v=.slice A l cap/\At w A (mP l)
def Zr2:aI->Nat
 |.string s=>s.size
 |_=>0
def BK (w:aq) (o:Option (List (Nat×ax))) (x:Ending) (w':aq):Prop:=∃v,x=.returned (.tuple #[v,(if o=none then 12 else 0:Int)])/\Ir w' v (o.getD [])/\Below w w w'
theorem Zn0 {w:aq} {base e:Nat} {v:aI} {l:List (Nat×ax)} (h:w.ownsRow base e 2 v l (mP l)):Ir w v l:=E6
theorem RM (data:ax) (hd:data.length<=1000000) (w:aq):
  Calls prog 84 #[bs data] w λx w'=>BK w (jJ data) x w':=by
 have a2:=J (λ(d:ax) (h:d.length<=1000000000) W=>JR d h W);have c3:=J (λ(o:Option (List (Nat×ax))) x w'=>(Iff.rfl:BK w o x w'↔BK w o x w'));obtain⟨g,t⟩:=ay (jJ data);have h0:Hid (g=(jJ data).map ([]++·)):=J (by rw[t];cases g<;>simp);have b9:Hid (w.ownsRow w 87 2 (.slice none 0 0) 0 (mP [])):=J Zl;rw[t];go_in;go_wp2;go_loopw [0,4] (λL b8 wr=>∃(r:ax) (fr:List (Nat×ax)),L=.string (bs r)/\r.length<=1000000/\Hid (fr.length+r.length<=1000000)/\Hid (g=(jJ r).map (fr++·))/\Hid (wr.ownsRow w 87 2 b8 fr (mP fr))/\Hid (Below w w wr)) (λL _ _=>Zr2 L);exact⟨data,[],rfl,hd,J (by simpa using hd),h0,b9,J (bf _ _)⟩;obtain⟨r,fr,rfl,c6,j,t,B,hb⟩:=hrel;obtain⟨A5,a4,b3,rfl⟩:=Z7 B.o;have a0:=YU r;by_cases h0:r=[];.subst h0;have p:Hid (g=some fr):=J (by rw[t.o,Zke];simp);have a1:Hid (Ir wr (.slice A5 a4 b3) fr):=J (Zn0 B.o);rw[show bs ([]:ax)=⟨#[]⟩ from rfl] at a0⊢;go_wp2;go_returns;exact⟨_,by rw[p.o];rfl,by rw[p.o];exact a1.o,hb.o⟩
 rw[cI h0] at a0;have u:=J (a2.o r O wr);rcases E:ZI r with _|q;.have G:ux r=.tuple #[.agg #[(0:Int),.string ⟨#[]⟩],(0:Int),(12:Int)]:=Fe;rw[G] at u;have p:Hid (g=none):=J (by rw[t.o,D_ h0 E];rfl);generalize bs r=S at*;go_wp21;refine aP u.o λM aa=>?_;have a6:=J ((hb.o.trans (aa.mono hb.o.size)).alloc (co hb.o.size aa.size) (.cells #[(0:Int),.string ⟨#[]⟩] 87));go_wp2;go_returns;exact⟨_,by rw[p.o];rfl,by rw[p.o];exact⟨none,0,rfl,At.nil _ _⟩,a6.o⟩
 obtain⟨k,c,z⟩:=q;have G:ux r=.tuple #[.agg #[k,bs c],z,(0:Int)]:=Fo;rw[G] at u;obtain⟨c8,c9⟩:=FH E;have I:=Kb E;have p:Hid (g=(jJ (r.drop z)).map ((fr++[(k,c)])++·)):=J (by rw[t.o,I,Option.map_map];congr 1;funext y;simp);have a7:(bs r).size=r:=Z0 r;have F:(bs r).extract z (bs r).size=bs (r.drop z):=(by rw[AM,Zm]);have b1:Hid ((fr++[(k,c)]).length+(r.drop z).length<=1000000):=J (by have:=j.o;rw[bV,iW];exact fj);have a9:(r.drop z).length<=1000000:=(by rw[iW];omega);have a3:(bs (r.drop z)).size<(bs r).size:=(by rw[Z0,Z0,iW];omega);have b7:(z:Int)<=((bs r).size:Int):=O;have c4:(0:Int)<=z:=O;have c5:fr.length<=1000000:=(by have:=j.o;omega);go_wp21;refine aP u.o λM aa=>?_;have Q:=(hb.o.trans (aa.mono hb.o.size)).alloc (co hb.o.size aa.size) (.cells #[k,bs c] 87);have b5:=Z6 (Z6 B.o (Fr.of_below (S:=nob) aa) (λ_ _ f=>f)) (Fr.of_below (S:=nob) ((bf M.heap.size M).alloc aU (.cells #[k,bs c] 87))) (λ_ _ f=>f);obtain⟨c7,W',R,D,a5,_⟩:=Gi (P:=prog) 125 87 _ _ 2 underlying125 N1 rfl aY b5 Q Q.size [.int .i64 (k:Int),.string (bs c)] rfl I5 fU O;have b4:mP (fr++[(k,c)])=mP fr++[.int .i64 (k:Int),.string (bs c)]:=ZiF fr (k,c);rw[<-b4] at D;rw[World.size_alloc] at R;have b2:(fr++[(k,c)]).length=fr.length+1:=(by simp);rw[<-b2] at D;obtain⟨a8,b0,b6⟩:=bD R D a5
 go_wp2_with (
  at_builtin;refine Z5 iG rfl _ _ _ rfl _ _ (by rfl) (by rfl) a8.o ?_);rw[<-a7,F];exact⟨⟨r.drop z,fr++[(k,c)],rfl,a9,b1,p,b0,b6⟩,a3⟩
variable{A:bN}{W w:aq}{a c:Int}{l:List (Int×aT)}
def rj (a c:Int) (w:aq):Prop:=∀v:aT,v.size<=1099511627776->∀W,Below w w W->cK 57 #[a,c,v] W (bM W (fO Z3 (a,c) (aH v)))
theorem rj.below (h:rj a c w) (hb:Below w w W):rj a c W:=λv g X d=>h v g X (hb.trans (d.mono hb.size))
theorem rj.alloc {B:Nat} (h:rj a c w) (hb:Below w w W):rj a c W:=h.below hb
theorem Dc (hb:Below (w.alloc (.cells #[a,c] 68)) (w.alloc (.cells #[a,c] 68)) W):W.cell? (w,0)=a/\W.cell? (w,1)=c/\Below w w W/\w<W.heap.size:=by have h:=(Bk.new w 68 #[a,c]).below hb (by simp);exact⟨h.cell 0,h.cell 1,((bf w w).alloc aU _).trans (hb.mono (by simp)),h.lt⟩
theorem ZhS {x:Int} {v:aT} (hb:Below (w.alloc (.cells #[x,v] 81)) (w.alloc (.cells #[x,v] 81)) W):W.cell? (w,0)=x/\W.cell? (w,1)=v:=by have h:=(Bk.new w 81 #[x,v]).below hb (by simp);exact⟨h.cell 0,h.cell 1⟩
theorem Zla (x y:aT):(x.toList==y.toList)=decide (x=y):=by have h:=(Hu (aH x) (aH y)).2;rw[Zc,Zc] at h;rw[h,decide_eq_decide];exact⟨λe=>by rw[<-Zc x,e,Zc],λe=>by rw[e]⟩
theorem Yk {b:aT} (c7:At w A (cv l)) (a c f t:Int) (c8:rj a c w) (c5:b.size<=1099511627776) (c3:∀x∈l,x.2.size<=1099511627776) (n cap:Nat) (b7:n=l) (d7:n<=9223372036854775807):
  Calls prog 29 #[.agg #[a,c],f,t,b,(A,n,cap)] w (bM w (eE (a,c) f t b l)):=by
 obtain⟨Ha,I,p,b8⟩:=dc c7 b7 (λW=>V2 a c f t W) (λv h W b0=>c8 v h W b0);have g:Hid (eE (a,c) f t b l=(dS (a,c)&&sx f t&&fO Z3 (a,c) (aH b)&&decide (n<=4096)&&oq (a,c) t f b l)):=J (by rw[b7];rfl);obtain⟨d3,a2,d5⟩:=bD (λi (h:i<l.length)=>c3 _ (dt h)) (λW h=>Dc (w:=w) (W:=W) (a:=a) (c:=c) h) c5;clear c7 b7 c8 c3 c5;obtain⟨b2,c6⟩:=ay ((dS (a,c)&&sx f t));rw[c6] at p g;clear c6;cases b2;.have E:Hid (eE (a,c) f t b l=false):=J (by rw[g.o];rfl);clear g;go_in;go_wp21;refine aP (p.o _) λw1 z=>?_;obtain⟨_,_,aa,_⟩:=a2.o _ z;go_wp2;go_returns;exact⟨Z4 E.o.symm,aa⟩
 have G:=J (λW b0=>b8.o b d5.o W b0);obtain⟨B,a5⟩:=ay (fO Z3 (a,c) (aH b));rw[a5] at G g;clear a5;cases B;have E:Hid (eE (a,c) f t b l=false):=J (by rw[g.o];rfl);exact L6;by_cases e3:(4096:Int)<n;have E:Hid (eE (a,c) f t b l=false):=J (by rw[g.o,cI O];rfl);exact L6;have E:Hid (eE (a,c) f t b l=oq (a,c) t f b l):=J (by rw[g.o,dd O];rfl);clear g;go_in;go_wp21;refine aP (p.o _) λw1 z=>?_;obtain⟨u,z1,aa,_⟩:=a2.o _ z;have c4:=J z;have a3:=J aa;clear z aa;go_wp21;refine ij (G.o _ a3.o) c4 λw2 a1=>?_;clear u z1 c4 a3 G p;go_wp2;go_loopw [3,11,36] (λd6 d4 b5 wr=>∃(k:Nat) (q:Int) (d:aT),k<=n/\b5=k/\d4=q/\d6=.string d/\Hid (oq (a,c) t f b l=oq (a,c) t q d (l.drop k))/\Hid (Below (w.alloc (.cells #[a,c] 68)) (w.alloc (.cells #[a,c] 68)) wr)) (λ_ _ b5 _=>(n-intOf b5).toNat);exact⟨0,f,b,cf _,rfl,rfl,rfl,J rfl,a1⟩;clear a1;obtain⟨k,q,d,e5,rfl,rfl,rfl,S,hb⟩:=hrel;obtain⟨u,z1,aa,e2⟩:=a2.o _ hb.o;by_cases ab:k<n
 .have b4:k<l:=iF;obtain⟨d8,e8,rfl,e9,c0,c1⟩:=xx (Ha.o.below aa) k b4;have b3:=ZfR (s:=(a,c)) (t:=t) (a:=q) (b:=d) b4;have e4:=d3.o k b4;obtain⟨⟨x,v⟩,hs⟩:=ay l[k];rw[hs] at c0 c1 b3 e4;simp only at c0 c1 b3 e4;have j:Hid (eE (a,c) f t b l=_):=J (E.o.trans (S.o.trans b3));have a8:=J (λW h=>ZhS (w:=wr) (W:=W) (x:=x) (v:=v) h);have D:=hb.o.alloc hb.o.size (.cells #[x,v] 81);have R:=J D;have d9:(0:Int)<=k:=O;have e1:(k:Int)<n:=O;clear b3 hs b4;by_cases e6:x<=q;have a7:Hid (eE (a,c) f t b l=false):=J (by rw[j.o,cI (show ¬q<x by omega)];rfl);exact OG;by_cases e7:t<x;have a7:Hid (eE (a,c) f t b l=false):=J (by rw[j.o,cI (show ¬x<=t by omega)];simp);exact OG;have M:=J (λW b0=>b8.o v e4 W b0);have a6:=J (a2.o _ D).2.2.1;have b6:Hid (fO Z3 (a,c) (aH v)=fO Z3 (a,c) (aH v)):=J rfl;obtain⟨B,a5⟩:=ay (fO Z3 (a,c) (aH v));rw[a5] at M;have b9:=J a5;clear D aa e4 a5 b6;cases B;.have a7:Hid (eE (a,c) f t b l=false):=J (by rw[j.o,b9.o];simp);go_wp21;refine ij (M.o _ a6.o) a6 λw3 F=>?_;go_wp2;go_returns;exact⟨Z4 a7.o.symm,F.o⟩
  have a4:Hid (eE (a,c) f t b l=((decide (a=3)|| !decide (v=d))&&oq (a,c) t x v (l.drop (k+1)))):=J (by rw[j.o,b9.o,dd (show q<x by omega),dd (show x<=t by omega)];simp);by_cases L:a=3;have g5:Hid (oq (a,c) t f b l=oq (a,c) t x v (l.drop (k+1))):=J (by rw[<-E.o,a4.o,dd L];simp);have c9:(a !=3)=false:=(by rw[L];rfl);clear j a4 S L;exact N';have c9:(a !=3)=true:=(by rw[kx];exact L);have b1:=Zla v d;by_cases a9:v=d;.have a7:Hid (eE (a,c) f t b l=false):=J (by rw[a4.o,dd a9,cI L];rfl);rw[dd a9] at b1;clear j a4 S L a9;go_wp21;refine aP (M.o _ a6.o) λw3 y=>?_;obtain⟨a0,Q⟩:=a8.o _ y;have F:=J (R.o.trans (y.mono R.o.size));obtain⟨u,z1,d2,_⟩:=a2.o _ F.o;clear y;go_wp2;go_returns;exact⟨Z4 a7.o.symm,d2⟩
  have g5:Hid (oq (a,c) t f b l=oq (a,c) t x v (l.drop (k+1))):=J (by rw[<-E.o,a4.o,cI a9];simp);rw[cI a9] at b1;clear j a4 S L a9;exact N'
 have d1:k=n:=O;subst d1;have a7:Hid (eE (a,c) f t b l=true):=J (by rw[E.o,S.o,oc og];rfl);clear S;go_wp2;go_returns;exact⟨Z4 a7.o.symm,aa⟩
theorem Zb4:prog.underlying 81=some (.struct (prog.fieldsOf 81)):=dw
theorem ZhU:prog.stoodInHeld 81=false:=dw
theorem ZhV:∃f0 f1,(prog.fieldsOf 81).toList=[f0,f1]/\f0.name≠ "_" /\f1.name≠ "_" /\f0.type=3/\f1.type=9/\f0.offset=0/\f1.offset=1:=
 ⟨(prog.fieldsOf 81)[0]!,(prog.fieldsOf 81)[1]!,dw,of_decide_eq_true dw,of_decide_eq_true dw,dw,dw,dw,dw⟩
theorem ZoL (x y:Int) (u v:aT) (W:aq):(Op.equalIn 10000 81 (.agg #[x,u]) (.agg #[y,v])).run prog W=.ok (decide ((x,u)=(y,v))) W:=by rw[run_equalIn_agg _ _ _ _ _ Zb4 ZhU];obtain⟨f0,f1,h,j,n1,t0,t1,k,l⟩:=ZhV;have e:=Zla u v;rw[h];simp[Op.eqFields,j,n1,t0,t1,k,l,go_sem,underlying3,underlying9];by_cases d:x=y;rw[Vag d,dd d,Bool.true_and];by_cases g:u=v;rw[Vag (by rw[g]),dd g];rw[cI g] at e⊢;rw[aD (by simpa using e)];rw[aD d,cI d,Bool.false_and]
theorem ZlS (x y:Int) (u v:aT) (W:aq):(binOp .neq 81 (.agg #[x,u]) (.agg #[y,v])).run prog W=.ok (.bool (!decide ((x,u)=(y,v)))) W:=by rw[run_neq_struct,ZoL];rfl
theorem Zd1 (op:BinOp) (a b:Operand) (xs d:Array aI) (W:aq):(eqGuard op 81 a b (.agg xs) (.agg d)).run prog W=.ok () W:=run_eqGuard_agg _ _ _ _ _ _ _ dw
theorem TK {B:bN} {r:List (Int×aT)} (a4:At w A (cv l)) (hb:At w B (cv r)) (n cap m a2:Nat) (a6:n=l) (a5:m=r) (b1:n<=9223372036854775807) (b9:m<=9223372036854775807):
  Calls prog 20 #[(A,n,cap),(B,m,a2)] w (bM w (decide (l=r))):=by
 obtain⟨Ha,R,I,E⟩:=dc a4 hb a6 a5;by_cases Q:n=m
 .subst Q;go_in;go_wp2;go_loopw [5] (λD wr=>∃(k q:Nat),k<=n/\D=k/\Hid (l.take k=r.take k)/\wr=w.drewN q) (λD _=>(n-intOf D).toNat);exact⟨0,0,cf _,rfl,J rfl,rfl⟩;obtain⟨k,q,b6,rfl,d,rfl⟩:=hrel;by_cases ab:k<n
  .have h1:k<l:=iF;have M:k<r:=Fs;obtain⟨b2,b7,rfl,_,c0,c1⟩:=xx Ha.o k h1;obtain⟨b3,b8,rfl,_,d0,L⟩:=xx R.o k M;have b4:(0:Int)<=k:=O;have b5:(k:Int)<n:=O;have F:=λ(h:l[k]=r[k])=>(show l.take (k+1)=r.take (k+1) by rw[dK h1,dK M,d.o,h]);have G:=λ(h:¬l[k]=r[k]) (e:l=r)=>h (by subst e;rfl);obtain⟨⟨x,u⟩,hX⟩:=ay l[k];obtain⟨⟨y,v⟩,hY⟩:=ay r[k];rw[hX,hY] at F G;rw[hX] at c0 c1;rw[hY] at d0 L;simp only at c0 c1 d0 L;have z:=J F;have a0:=J G;have a9:=λW=>ZlS x y u v W;have a8:=λop a b xs a7 W=>Zd1 op a b xs a7 W;go_wp2;go_quiet (fail);by_cases t:(x,u)=(y,v)
   .have a1:=z.o t;obtain⟨j,p⟩:=Prod.mk.inj t;have S:=J a1;subst j;subst p;rw[dd (show x=x from rfl),dd (show u=u from rfl)];go_wp2
    all_goals first
     |(refine⟨⟨k+1,_,ab,ci,S,rfl⟩,?_⟩;simp[intOf]<;>omega)
   have g:Hid (decide (l=r)=false):=J (cI (a0.o t))
   have hb:(!decide (x=y)|| !decide (u=v))=true:=by by_cases j:x=y;by_cases p:u=v;exact absurd (by rw[j,p]) t;rw[cI p];simp;rw[cI j];rfl
   rw[hb];exact P5
  have a3:k=n:=O;subst a3;have g:Hid (decide (l=r)=true):=J (dd (by have:=d.o;rw[d' og,d' Fq] at this;exact this));exact P5
 have b0:((n:Int) !=m)=true:=eV;have g:Hid (decide (l=r)=false):=J (cI (λh=>Q (by rw[I.o,E.o,h])));go_in;go_wp2;go_returns;exact⟨Z4 g.o.symm,bf _ _⟩
theorem LN (a c:Int) (g:gl w):rj a c w:=λv j W d=>by have:=Sp a c (aH v) (by exact j) (g.below d);exact this
