import Derived.Test.YtikecoijpkmnbaaGreatDoorJ19
import Derived.Test.YtikecoijpkmnbaaGreatDoorJ24
import Derived.Test.YtikecoijpkmnbaaGreatDoorJ23
import Derived.Laws.StructEq
set_option linter.all false
set_option maxRecDepth 100000
set_option maxHeartbeats 0
open Go.Proofs.Tryz (prog underlying103 underlying23 underlying3 underlying50 underlying9)
section
variable{P Q:Prop}
theorem yI(h:P:=by rw[I.o];rfl):P:=h
theorem IX(h:P:=by rw[qA];exact Zl):P:=h
theorem W7h(h:P:=by rcases E with ⟨h,_⟩|⟨_,h⟩;omega;rw[<-h,z]):P:=h
theorem W7g(h:P:=by rw[<-z];exact Int.ediv_le_self k (by omega)):P:=h
theorem I5(h:P:=by intro y l;simp at l;rcases l with rfl|rfl<;>rfl):P:=h
theorem Uh(h:P:=by rw[<-a1];exact Int.mul_nonneg (by omega) (by omega)):P:=h
theorem P5(h:P:=by go_wp2;go_returns;exact⟨Z4 g.o.symm,⟨rfl,rfl,rfl,aU,λ_ _=>rfl⟩⟩):P:=h
theorem KV(h:P:=by go_in;go_wp2;go_returns;exact⟨_,by rw[y.o];rfl,by rw[I.o];exact M3.nil _,bf _ _⟩):P:=h
theorem JR(h:P:=by have S:=J (a2.o _ D).2.2.1;clear D aa e4;go_wp2;go_returns;exact⟨Z4 z.o.symm,S.o⟩):P:=h
theorem RD(h:P:=by clear B u E a2 p l g Q S;go_in;go_wp2;go_returns;exact⟨_,by rw[y.o];rfl,by rw[I.o];exact M3.nil _,bf _ _⟩):P:=h
theorem OW(h:P:=by generalize bs d=D at*;clear h1 h2 k g q Q R G;go_in;go_wp21;refine aP a4.o λw2 aa=>?_;go_wp2;go_returns;exact⟨by rw[t.o];rfl,aa⟩):P:=h
theorem uY(h:P:=by
 go_wp2_with (
  at_builtin;refine Z5 (by with_reducible rfl) rfl _ _ _ rfl _ _ (by rfl) (by rfl) b7.o ?_);refine⟨⟨i+1,ab,by go_num,p,B⟩,?_⟩;simp[intOf]<;>omega):P:=h
theorem IK(h:P:=by obtain⟨b,o,S,ab,c0⟩:=M.get (k*2) _ q.1;obtain⟨l,p,g,_,c1⟩:=M.get (k*2+1) _ q.2;rw[S] at g;injection g with g;injection g with h1 h2;subst h1;subst h2;exact⟨b,o,S,ab,c0,c1⟩):P:=h
theorem W5A(h:P:=by clear g;go_in;go_wp21;refine aP (p.o _) λw1 E=>?_;obtain⟨u,z1,aa,_⟩:=a2.o _ E;have a3:=J aa;clear E aa;go_wp21;refine ij (G.o _ a3.o) a3 λw2 a1=>?_;go_wp2;go_returns;exact⟨Z4 I.o.symm,a1.o⟩):P:=h
theorem IJ(h:P:=by have I:Hid ((true&&sx f t)=false):=J (by rw[p.o];simp[*]);go_in;go_wp21;refine ij (u.o _) q λw1 y=>?_;go_wp2;go_returns;exact⟨by first|exact Z4 I.o.symm|exact Z4 (by rw[I.o,Vai (by omega)]),y.o⟩):P:=h
theorem Q'{P:Prop}(h:P:=by have z:Hid (M3 wr (.slice A5 j9 i0) R):=J (by have h:=a8.o;have t:R=i:=(by have:=a0.o;omega);rw[d' (by omega)] at h;exact Zst (by rw[t];exact h));clear a8;go_wp2;go_returns;exact⟨_,by rw[y.o];rfl,z.o,hb.o⟩):P:=h
theorem N'{P:Prop}(h:P:=by go_wp21;refine aP (M.o _ S.o) λw3 y=>?_;obtain⟨a7,a8⟩:=b0.o _ y;have F:=J (R.o.trans (y.mono R.o.size));obtain⟨u,z1,_⟩:=a2.o _ F.o;clear y;go_wp2;go_quiet (fail);go_wp2;refine⟨⟨k+1,x,v,ab,by go_num,rfl,rfl,g5,J ⟨F.o.1,F.o.2,F.o.3,F.o.4,F.o.5⟩⟩,?_⟩;simp[intOf]<;>omega):P:=h
theorem W7x(h:P:=by
 have k:IntKind.i64.wrap x=x:=(by rw[IntWalk.i64_in _ (by omega)]);obtain⟨v',W',b4,b5,a6⟩:=Zei a8.o hb.o hb.o.size (by omega) x;rw[<-G] at b5;obtain⟨b7,p,B⟩:=bD b4 b5 a6;have g:Hid ((i:Int)+1<=q+1):=J ab;clear D b9 c5 G b4 b5 a6 a8 hb a3
 go_wp2_with (
  at_builtin;refine Z5 (by with_reducible rfl) rfl _ _ _ rfl _ _ (by rfl) (by rfl) b7.o ?_);refine⟨⟨i+1,g.o,by go_num,p,B⟩,?_⟩;have:=g.o;simp[intOf]<;>omega):P:=h
end
namespace Wv
variable{f k t x:Int}
def sx (f t:Int):Bool:=decide (-1<=f)&&decide (f<=t)&&decide (t<=1099511627776)
theorem Hb :sx f t=true↔-1<=f/\f<=t/\t<=1099511627776:=by unfold sx;grind
def Ed (x k:Int):Int:=if 0<=x then x/k+1 else 0
def nM (f t k:Int):Int:=if sx f t=false\/k<1 then-1 else if 4096<Ed t k-Ed f k then-1 else Ed t k-Ed f k
def ms (f t k:Int):List Int:=(List.range (nM f t k).toNat).map (λ(i:Nat)=>(Ed f k+i)*k)
theorem Zsb {y:Int} (g:1<=k) (h:x<=y):Ed x k<=Ed y k:=by unfold Ed;by_cases h0:0<=x;have:=Int.ediv_le_ediv (show 0<k by omega) h;omega;rw[Vae h0];split;have:=Ao (a:=y) (b:=k) O O;omega;omega
theorem PJ (f t k:Int):nM f t k<=4096:=by unfold nM;grind
theorem Nn (f t k:Int):(ms f t k)=(nM f t k).toNat:=by unfold ms;grind
def pc (f k:Int):Int:=Ed f k*k
theorem Zsq (B:1<=k) (z: -1<=f):((f+1) % k=0/\pc f k=f+1)\/(0<(f+1) % k/\pc f k=f+1+(k-(f+1) % k)):=by
 unfold pc Ed;by_cases h0:0<=f
 .rw[Vag h0];have h1:=P8 f k;have u:=CD f (show k≠0 by omega);have y:=zH f (show 0<k by omega);obtain⟨q,g⟩:=ay (f/k);obtain⟨m,l⟩:=ay (f % k);rw[g,l] at h1;rw[g,EK,Int.one_mul,Int.mul_comm q k];by_cases p:m+1=k;left;have e:f+1=k*(q+1):=aO;refine⟨nk,O⟩;have e:f+1=k*q+(m+1):=O;have t:(f+1) % k=m+1:=by rw[e,Int.mul_add_emod_self_left];exact Int.emod_eq_of_lt O O
  grind
 have:f= -1:=O;subst this;simp
theorem Zso (q:1<=k) (h:sx f t=true):(t<pc f k/\Ed t k-Ed f k=0)\/(pc f k<=t/\(t-pc f k)/k+1=Ed t k-Ed f k):=by
 obtain⟨i1,z,E⟩:=Hb.1 h;have y:=Zsb q z;have h1:=P8 t k;have B:=CD t (show k≠0 by omega);have D:=zH t (show 0<k by omega);obtain⟨u,l⟩:=ay (Ed f k);have p:0<=u:=by rw[<-l];unfold Ed;split;have:=Ao (a:=f) (b:=k) O O;omega;omega
 unfold pc;rw[l] at y⊢;by_cases g:t<u*k
 .left;refine⟨g,?_⟩;have:Ed t k<=u:=by unfold Ed;split;have:t/k<u:=Int.ediv_lt_of_lt_mul O g;omega;omega
  omega
 have h0:0<=t:=by have:=Int.mul_nonneg p (show 0<=k by omega);omega
 have e:(t-u*k)/k=t/k-u:=by have:=Int.add_mul_ediv_right t (-u) (show k≠0 by omega);grind
 unfold Ed;grind
theorem Nm (f t k:Int) (i:Nat) (h:i<(ms f t k)):(ms f t k)[i]=pc f k+i*k:=by simp only[ms,uF,Ew,pc];grind
theorem Np (h:x∈ms f t k):1<=k/\f<x/\x<=t/\x % k=0:=by obtain⟨i,hi,rfl⟩:=List.getElem_of_mem h;rw[Nn] at hi;have hn:nM f t k≠-1:=λe=>O;unfold nM at hn hi;split at hn;exact O;rename_i hc;rw[Vae hc] at hi;have Rd:sx f t=true:=aO;have hk:1<=k:=O;split at hn;exact O;rw[Nm];obtain⟨i1,i2,i3⟩:=Hb.1 Rd;have GA:=Zsq hk i1;rcases Zso hk Rd with ⟨_,c2⟩|⟨c1,c2⟩;exact O;have kS:(i:Int)<=(t-pc f k)/k:=O;have h5:=Int.mul_le_mul_of_nonneg_right kS (show 0<=k by omega);have h6:=Int.ediv_mul_le (t-pc f k) (show k≠0 by omega);have h7:=Int.mul_nonneg (show(0:Int)<=i by omega) (show 0<=k by omega);have h8:=zH (f+1) (show 0<k by omega);refine⟨hk,?_,O,?_⟩;exact O;unfold pc;rw[<-EK];exact Int.mul_emod_left _ _
def ti (b:aT):List (Int×aT)->Int->aT
 |[],_=>b
 |c::l,t=>ti (if c.1<=t then c.2 else b) l t
theorem Vp (t:Int):∀(l:List (Int×aT)) (b:aT) (c:Int×aT),ti b (l++[c]) t=if c.1<=t then c.2 else ti b l t
 |[],b,c=>rfl
 |d::l,b,c=>by show ti _ (l++[c]) t=_;rw[Vp t l];rfl
theorem Zs5 (t:Int):∀(l:List (Int×aT)) (b:aT),(∀c∈l,t<c.1)->ti b l t=b
 |[],_,_=>rfl
 |d::l,b,h=>by show ti (if d.1<=t then d.2 else b) l t=b;rw[Vae aO];exact Zs5 t l b (λc g=>h c (gM _ g))
theorem Zsj (t:Int):∀(l m:List (Int×aT)) (b:aT),ti b (l++m) t=ti (ti b l t) m t
 |[],_,_=>rfl
 |d::l,m,b=>Zsj t l m _
theorem ZtC {l:List (Int×aT)} {b:aT} {k:Nat} (q:k<=l) (h1:∀j (h:j<l.length),k<=j->t<l[j].1) (g:∀(h0:0<k),(l[k-1]'O).1<=t):ti b l t=if h0:0<k then(l[k-1]'O).2 else b:=by
 have hd:∀c∈l.drop k,t<c.1:=by intro c p;obtain⟨i,hi,rfl⟩:=List.getElem_of_mem p;grind
 conv=>lhs;rw[<-vH k l]
 rw[Zsj,Zs5 t _ _ hd];by_cases h0:0<k
 .rw[dif_pos h0];have e:l.take k=l.take (k-1)++[l[k-1]'O]:=by have:=dK (show k-1<l.length by omega);grind
  rw[e,Vp,Vag (g h0)]
 rw[dif_neg h0,show k=0 by omega,qA];rfl
def vx (f t k:Int) (b:aT) (l:List (Int×aT)):List (Int×aT):=(ms f t k).map (λx=>(x,ti b l x))
theorem Zt7 (f t k:Int) (b:aT) (l:List (Int×aT)):(vx f t k b l)=(nM f t k).toNat:=by unfold vx;rw[Vah,Nn]
end Wv
namespace Go.Proofs.Y
open Wv Go.RowKit
theorem xx {w:aq} {A:Wto} {l:List (Int×aT)} (M:At w A (cv l)) (k:Nat) (h:k<l):∃b o,A=some ⟨b,o,none⟩/\b<w.heap.size/\w.cell? ⟨b,o+k*2,none⟩=some (.int .i64 l[k].1)/\w.cell? ⟨b,o+k*2+1,none⟩=some (.string l[k].2):=by have q:=Z_ l k h;exact IK
variable{B base e k:Nat}{W w wb:aq}{l:List (Int×aT)}{v:aI}
def tz (l:List (Int×aT)) (m:Int):Bool:=l.all (λx=>decide ((x.2.size:Int)<=150))&&decide ((l.length:Int)<=m)
theorem ZjD {w : aq} {A : Wto} {l : List (Int × aT)} (B : At w A (cv l)) (n cap : Nat) (p : n = l.length) (G : n <= 9223372036854775807) (m : Int) :
    Calls prog 14 #[(A,n,cap),m] w λx w'=>x=.returned (tz l m)/\w=w':=by
  have Ha:=J B;have a0:=J p;have u:Hid (tz l m=(l.all (λx=>decide ((x.2.size:Int)<=150))&&decide ((n:Int)<=m))):=J (by rw[p];rfl);clear B p;go_in;go_wp2;go_loopw [5] (λq wr=>∃k:Nat,k<=n/\q=k/\Hid ((l.take k).all (λx=>decide ((x.2.size:Int)<=150))=true)/\wr=w) (λq _=>(n-intOf q).toNat);exact⟨0,cf _,rfl,J rfl,rfl⟩;obtain⟨k,S,rfl,z,rfl⟩:=hrel;by_cases ab:k<n
  . have h1:k<l:=iF;obtain⟨I,a1,rfl,_,c0,c1⟩:=xx Ha.o k h1;have y:l.take (k+1)=l.take k++[l[k]]:=dK h1;have D:l[k]∈l:=dt _;have M:(0:Int)<=k:=O;have Q:(k:Int)<n:=O;obtain⟨⟨t,a⟩,hs⟩:=ay l[k];rw[hs] at c0 c1 y D;simp only at c0 c1;by_cases R:(150:Int)<a.size;. have g : Hid (tz l m = false) := J (by rw[u.o,Ca];left;rw[Vc5];exact⟨_,D,fj⟩);go_wp2;go_returns;exact⟨Z4 g.o.symm,rfl⟩
    have F : Hid ((l.take (k + 1)).all (λx => decide ((x.2.size : Int) <= 150)) = true) := J (by rw[y,List.all_append,z.o];exact fj);go_wp2;refine⟨⟨k+1,ab,ci,F,Fv⟩,?_⟩;simp[intOf]<;>omega
  have E:k=n:=O;subst E;have g:Hid (tz l m=decide ((k:Int)<=m)):=J (by have h:=z.o;rw[d' og] at h;rw[u.o,h,Bool.true_and]);go_wp2;go_returns;exact⟨Z4 g.o.symm,rfl⟩
theorem ZoM:(prog.info? 68).map (λi=>(i.zero,i.size,i.bytes))=some (some (.agg #[(0:Int),ByteArray.empty]),2,24):=dw
def M1 (w:aq) (v:aI) (l:List (Int×aT)):Prop:=∃A cap,v=.slice A l cap/\At w A (cv l)
theorem M1.nil (w:aq):M1 w (.slice none 0 0) []:=⟨none,0,rfl,At.nil _ _⟩
theorem ZlX (l:List (Int×aT)) (c:Int×aT):cv (l++[c])=cv l++[.int .i64 c.1,.string c.2]:=by unfold cv;rw[yD];rfl
theorem ZtA (h:w.ownsRow base e 2 v l (cv l)):M1 w v l:=E6
theorem xZ (h:W.ownsRow B 68 2 v k (cv l)) (z:Below B wb W) (u:B<=W) (E:k<=1000000) (c:Int×aT):
  ∃g W',(Builtin.append_ #[50,50] 50 #[v,.slice (some (W,0)) 1 1]).run prog (W.alloc (.cells #[c.1,c.2] 68))=.ok g W'/\W'.ownsRow B 68 2 g (k+1) (cv (l++[c]))/\Below B wb W':=by obtain⟨g,D,t,p,q,_⟩:=Gi (P:=prog) 50 68 _ _ 2 underlying50 ZoM rfl aY (w:=W) h z u [.int .i64 c.1,.string c.2] rfl I5 fU O;rw[<-ZlX] at p;exact⟨g,D,t,p,q⟩
theorem Zmy:(prog.info? 3).map (λi=>(i.zero,i.size,i.bytes))=some (some (.int .i64 0),1,8):=dw
def M3 (w:aq) (v:aI) (l:List Int):Prop:=∃A cap,v=.slice A l cap/\At w A (l.map iv)
theorem M3.nil (w:aq):M3 w (.slice none 0 0) []:=⟨none,0,rfl,At.nil _ _⟩
theorem Zst {l:List Int} (h:w.ownsRow base e 1 v l (l.map iv)):M3 w v l:=E6
theorem Zei {l:List Int} (h:W.ownsRow B 3 1 v k (l.map iv)) (y:Below B wb W) (u:B<=W) (D:k<=1000000) (x:Int):
  ∃g W',(Builtin.append_ #[103,103] 103 #[v,.slice (some (W,0)) 1 1]).run prog (W.alloc (.cells #[x] 3))=.ok g W'/\W'.ownsRow B 3 1 g (k+1) ((l++[x]).map iv)/\Below B wb W':=by obtain⟨g,z,q,t,p,_⟩:=ZU (P:=prog) 103 3 _ _ underlying103 Zmy rfl (w:=W) h y u x rfl fU O;refine⟨g,z,q,?_,p⟩;rw[jy];exact t
theorem Zt1 {f t k:Int} {i:Nat} (h:i<(ms f t k)):∃x,x=pc f k+i*k/\f<x/\x<=t/\(ms f t k).take (i+1)=(ms f t k).take i++[x]:=by have g:=Np (dt h);have l:=Nm f t k i h;exact⟨_,l,g.2.1,g.2.2.1,dK h⟩
theorem Zsv (f t k:Int) (Rd:sx f t=true) (b8:1<=k) (c4:mE k) (w:aq):
  Calls prog 49 #[f,t,k] w λx w'=>∃v,x=.returned (.tuple #[v,decide (0<=nM f t k)])/\M3 w' v (ms f t k)/\Below w w w':=by
 obtain⟨i1,e2,e3⟩:=Hb.1 Rd;have GA:=Zsq b8 i1;have E:=Zso b8 Rd;have u:nM f t k=if 4096<Ed t k-Ed f k then-1 else Ed t k-Ed f k:=by unfold nM;rw[Vae (by simp[Rd];omega)]
 have l:=Nn f t k;have g:=J (λi h=>Zt1 (f:=f) (t:=t) (k:=k) (i:=i) h);have e9:=c4.2;have c6:(f+1).tmod k=(f+1) % k:=Nc O;have d7:=CD (f+1) (show k≠0 by omega);have d8:=zH (f+1) (show 0<k by omega);have e4:IntKind.i64.wrap (f+1)=f+1:=lO;obtain⟨r,B⟩:=ay ((f+1) % k);obtain⟨F,hF⟩:=ay (pc f k);rw[B] at c6 d7 d8 GA;rw[hF] at GA E g;generalize Ed t k-Ed f k=M at*;generalize nM f t k=N at*;generalize ms f t k=R at*;have c9:¬k=0:=O;have d9:0<k:=O;have e5:IntKind.i64.wrap r=r:=lO;have e6:IntKind.i64.wrap (k-r)=k-r:=lO;have e7:IntKind.i64.wrap (t-(f+1))=t-(f+1):=lO;clear hF c4 Rd;by_cases S:t<F
 .have a2:M=0:=by rcases E with ⟨_,h⟩|⟨h,_⟩;exact h;omega
  have p:N=0:=(by rw[u,a2];rfl);have I:Hid (R=[]):=J (ia (by rw[l,p];rfl));have y:Hid (decide (0<=N)=true):=J (by rw[p];decide);rcases GA with ⟨h0,Q⟩|⟨h0,Q⟩;subst h0;have a7:t<f+1:=O;exact RD;have a7:t-(f+1)<k-r:=O;exact RD
 rcases GA with ⟨h0,Q⟩|⟨h0,Q⟩;.subst h0;subst Q;have b0:(f+1)<=t:=O;obtain⟨q,z⟩:=ay ((t-(f+1))/k);have a4:M=q+1:=W7h;have d6:0<=q:=(by rw[<-z];exact Ao O O);have q1:q<=t-(f+1):=W7g;have c7:(t-(f+1)).tdiv k=q:=(by rw[IR O];exact z);have d3:IntKind.i64.wrap (t-(f+1))=t-(f+1):=lO;have d4:IntKind.i64.wrap q=q:=lO;have d5:IntKind.i64.wrap (q+1)=q+1:=lO;have a7:¬t<(f+1):=O;by_cases c8:4096<=q;have p:N= -1:=(by rw[u,Vag O]);have I:Hid (R=[]):=J (ia (by rw[l,p];rfl));have y:Hid (decide (0<=N)=false):=J (by rw[p];decide);clear B u E a4 p l g S z;exact KV;have p:N=q+1:=(by rw[u,Vae O];exact a4);have a0:Hid ((R.length:Int)=q+1):=J (by rw[l,p];omega);have y:Hid (decide (0<=N)=true):=J (by rw[p];exact dd O);have a9:=J (bf w w);have b1:Hid (w.ownsRow w 3 1 (.slice none 0 0) 0 ((R.take 0).map iv)):=J IX;clear B u E a4 p l S z;go_in;go_wp2;go_loopw [10,46] (λb6 a5 wr=>∃i:Nat,(i:Int)<=q+1/\a5=(i:Int)/\Hid (wr.ownsRow w 3 1 b6 i ((R.take i).map iv))/\Hid (Below w w wr)) (λ_ a5 _=>(q+1-intOf a5).toNat);exact⟨0,O,rfl,b1,a9⟩;clear b1 a9;obtain⟨i,hi,rfl,a8,hb⟩:=hrel;obtain⟨A5,j9,i0,rfl⟩:=Z7 a8.o;by_cases ab:(i:Int)<q+1;obtain⟨x,D,b9,c5,G⟩:=g.o i (by have:=a0.o;omega);obtain⟨P,a1⟩:=ay ((i:Int)*k);rw[a1] at D;have a3:0<=P:=Uh;have b2:IntKind.i64.wrap P=P:=lO;have b3:(f+1)+P=x:=D.symm;exact W7x;exact Q'
 have e8:IntKind.i64.wrap (f+1+(k-r))=F:=pn;have c3:¬t-(f+1)<k-r:=O;have e1:f+1<=F:=O;have b0:F<=t:=O;obtain⟨q,z⟩:=ay ((t-F)/k);have a4:M=q+1:=W7h;have d6:0<=q:=(by rw[<-z];exact Ao O O);have q1:q<=t-F:=W7g;have c7:(t-F).tdiv k=q:=(by rw[IR O];exact z);have d3:IntKind.i64.wrap (t-F)=t-F:=lO;have d4:IntKind.i64.wrap q=q:=lO;have d5:IntKind.i64.wrap (q+1)=q+1:=lO;have a7:¬t<F:=O;by_cases c8:4096<=q;have p:N= -1:=(by rw[u,Vag O]);have I:Hid (R=[]):=J (ia (by rw[l,p];rfl));have y:Hid (decide (0<=N)=false):=J (by rw[p];decide);clear B u E a4 p l g S z Q;exact KV;have p:N=q+1:=(by rw[u,Vae O];exact a4);have a0:Hid ((R.length:Int)=q+1):=J (by rw[l,p];omega);have y:Hid (decide (0<=N)=true):=J (by rw[p];exact dd O);have a9:=J (bf w w);have b1:Hid (w.ownsRow w 3 1 (.slice none 0 0) 0 ((R.take 0).map iv)):=J IX;clear B u E a4 p l S z Q;go_in;go_wp2;go_loopw [10,46] (λb6 a5 wr=>∃i:Nat,(i:Int)<=q+1/\a5=(i:Int)/\Hid (wr.ownsRow w 3 1 b6 i ((R.take i).map iv))/\Hid (Below w w wr)) (λ_ a5 _=>(q+1-intOf a5).toNat);exact⟨0,O,rfl,b1,a9⟩;clear b1 a9;obtain⟨i,hi,rfl,a8,hb⟩:=hrel;obtain⟨A5,j9,i0,rfl⟩:=Z7 a8.o;by_cases ab:(i:Int)<q+1;obtain⟨x,D,b9,c5,G⟩:=g.o i (by have:=a0.o;omega);obtain⟨P,a1⟩:=ay ((i:Int)*k);rw[a1] at D;have a3:0<=P:=Uh;have b2:IntKind.i64.wrap P=P:=lO;have b3:F+P=x:=D.symm;exact W7x;exact Q'
end Go.Proofs.Y
namespace Wv
open Go.Proofs.Y
variable{a f t:Int}{b:aT}{c d v:ax}{k n:Nat}{s:Int×Int}{vs:a'}
abbrev dO:=Int×aT
def oq (s:Int×Int) (t:Int):Int->aT->List dO->Bool
 |_,_,[]=>true
 |a,b,c::l=>decide (a<c.1)&&decide (c.1<=t)&&fO Z3 s (aH c.2)&&(decide (s.1=3)|| !decide (c.2=b))&&oq s t c.1 c.2 l
theorem Kn {c:dO} {l:List dO} :oq s t a b (c::l)=true↔a<c.1/\c.1<=t/\fO Z3 s (aH c.2)=true/\(s.1=3\/c.2≠b)/\oq s t c.1 c.2 l=true:=by show(decide _&&decide _&&_&&_&&_)=true↔_;grind
def eE (s:Int×Int) (f t:Int) (b:aT) (l:List dO):Bool:=dS s&&sx f t&&fO Z3 s (aH b)&&decide (l.length<=4096)&&oq s t f b l
theorem Xn {l:List dO} :eE s f t b l=true↔dS s=true/\sx f t=true/\fO Z3 s (aH b)=true/\l.length<=4096/\oq s t f b l=true:=by unfold eE;grind
theorem Znv {l:List dO} (h:eE s f t b l=true):eE s f t b []=true:=by obtain⟨h1,g,k,_⟩:=Xn.1 h;exact Xn.2 ⟨h1,g,k,cf _,rfl⟩
def gY (f:Int) (l:List dO):List Int:=l.map (λc=>c.1-(f+1))
theorem l_ {s:Int×Int} {t f:Int} (k:t-(f+1)<=1099511627776):∀ {l:List dO} {a:Int} {b:aT},oq s t a b l=true->tv (a-(f+1)) (gY f l)=true
 |[],_,_,_=>rfl
 |c::l,a,b,h=>by obtain⟨h1,p,_,_,g⟩:=Kn.1 h;exact QR.2 ⟨aO,aO,l_ k g⟩
theorem QP {s:Int×Int} {t:Int} :∀ {l:List dO} {a:Int} {b:aT},oq s t a b l=true->∀c∈l,fO Z3 s (aH c.2)=true
 |[],_,_,_,c,g=>aO
 |d::l,a,b,h,c,g=>by obtain⟨_,_,p,_,k⟩:=Kn.1 h;rcases jA.1 g with rfl|g;exact O;exact QP k c g
theorem Kr {l:List dO} (h:eE s f t b l=true):Zi (gY f l)=true:=by obtain⟨_,g,_,p,k⟩:=Xn.1 h;obtain⟨i1,q,u⟩:=Hb.1 g;unfold Zi;rw[gm,Vax];refine⟨?_,by unfold gY;grind⟩;have:=l_ (f:=f) O k;grind
def iU (f:Int) (ts:List Int) (vs:a'):List dO:=List.zipWith (λx v=>(x+f+1,v)) ts vs
theorem Uy (f:Int):∀l:List dO,iU f (gY f l) (l.map (·.2))=l
 |[]=>rfl
 |c::l=>by show(c.1-(f+1)+f+1,c.2)::iU f (gY f l) (l.map (·.2))=c::l;rw[Uy f l];grind
theorem Su (f:Int):∀(ts:List Int) (vs:a'),ts=vs.length->gY f (iU f ts vs)=ts/\(iU f ts vs).map (·.2)=vs
 |[],[],_=>⟨rfl,rfl⟩
 |[],_::_,h=>aO
 |_::_,[],h=>aO
 |x::ts,v::vs,h=>by obtain⟨h1,g⟩:=Su f ts vs aO;constructor;show(x+f+1-(f+1))::gY f (iU f ts vs)=x::ts;grind;show v::(iU f ts vs).map (·.2)=v::vs;rw[g]
theorem XK (f:Int) (ts:List Int) (vs:a') (h:ts=vs.length):(iU f ts vs)=ts.length:=by unfold iU;grind
/-! ## Values -/
def oN (s:Int×Int):Nat:=if s.1=0 then 2 else 3
def mZ (s:Int×Int) (vs:a'):ax×Nat:=if s.1=0 then Y8 s.2 vs else enc vs
def ow (s:Int×Int) (d:ax) (most:Int):a'×Nat:=if s.1=0 then tr s.2 d most else dec d most
theorem E_ (h0:s.1=0) (h:fO Z3 s v=true):gH s.2 v=true:=by unfold fO at h;rw[gm] at h;have g:=h.2;unfold sD at g;grind
theorem Lm (q:dS s=true) (u:s.1≠3) (k:∀v∈vs,fO Z3 s (aH v)=true) (g:vs.length<=4096):(mZ s vs).2=0/\∀most:Int,(vs.length:Int)<=most->ow s (mZ s vs).1 most=(vs,0):=by
 unfold mZ ow;by_cases h0:s.1=0;obtain⟨w1,t⟩:=XI q h0;have hb:ZG s.2 vs=true:=ZH.2 ⟨λv h=>E_ h0 (k v h),w1,t,g⟩;obtain⟨c,x,_,_,y⟩:=JY hb;rw[Vag h0];refine⟨aO,λmost p=> ?_⟩;rw[Vag h0,Zi8 hb,Vae O];rw[Vae h0];have l:∀v∈vs,v.size<=128:=λv h=>by have:=(Z60 (k v h)).2;exact this
 refine⟨by rw[L4 g l],λmost p=> ?_⟩;rw[Vae h0,Lb g l,Vae O]
theorem Zcq {most:Int} (h:ow s d most=(vs,0)):mZ s vs=(d,0):=by unfold mZ ow at*;by_cases h0:s.1=0;rcases RJ s.2 d most with ⟨_,h1⟩|⟨_,_,h1|h1⟩|⟨l,h1,g,_⟩;exact aO;exact aO;exact aO;grind;rcases XR d most with (h1|h1)|⟨l,h1,g,_⟩;exact aO;exact aO;grind
/-! ## Frames -/
def Y0:List (Nat×ax)->Option ax
 |[]=>some []
 |p::r=>match Zo p.1 p.2 with
  |none=>none
  |some w=>(Y0 r).map (w++·)
def zn:Nat->ax->Option (List (Nat×ax))
 |_,[]=>some []
 |0,_::_=>none
 |n+1,a::r=>match ZI (a::r) with
  |none=>none
  |some (k,c,z)=>(zn n ((a::r).drop z)).map ((k,c)::·)
def jJ (d:ax):Option (List (Nat×ax)):=zn d d
theorem FH (h:ZI d=some (k,c,n)):1<=n/\n<=d:=by obtain⟨h1,_,g⟩:=XU h;rcases rS n with h0|h0;subst h0;exact absurd rfl (Gf h1);omega
theorem Sm:∀(n m:Nat) (d:ax),d<=n->d.length<=m->zn n d=zn m d
 |0,0,_,_,_=>rfl
 |0,m+1,d,h,_=>by have:d=[]:=ia O;subst this;rfl
 |n+1,0,d,_,h=>by have:d=[]:=ia O;subst this;rfl
 |n+1,m+1,[],_,_=>rfl
 |n+1,m+1,a::r,h1,h2=>by unfold zn;rcases g:ZI (a::r) with _|q;rfl;obtain⟨k,c,z⟩:=q;obtain⟨l,p⟩:=FH g;simp only;rw[Sm n m ((a::r).drop z) aO aO]
theorem Zke:jJ []=some []:=rfl
theorem D_ (h:d≠[]) (g:ZI d=none):jJ d=none:=by rcases d with _|⟨a,r⟩;exact aO;unfold jJ;rw[gd];unfold zn;rw[g]
theorem Kb (h:ZI d=some (k,c,n)):jJ d=(jJ (d.drop n)).map ((k,c)::·):=by
 obtain⟨g,l⟩:=FH h;rcases d with _|⟨a,r⟩;exact aO;unfold jJ;rw[gd];conv=>lhs;unfold zn
 rw[h];simp only;rw[Sm r ((a::r).drop n) ((a::r).drop n) aO aU]
theorem Sn:∀ {l:List (Nat×ax)} {d:ax},(∀p∈l,p.1<16)->Y0 l=some d->jJ d=some l
 |[],d,_,h=>Ja
 |p::r,d,hk,h=>by unfold Y0 at h;rcases k:Zo p.1 p.2 with _|w;exact aO;rw[k] at h;rcases g:Y0 r with _|x;exact aO;rw[g] at h;injection h with h;subst h;have t:=JB (hk p fi) k x;rw[Kb t,B7,Sn (λq u=>hk q (gM _ u)) g];rfl
theorem JT:∀(n:Nat) {d:ax} {l:List (Nat×ax)},d<=n->jJ d=some l->Y0 l=some d
 |n,[],l,_,h=>Ja
 |0,a::r,l,hn,_=>aO
 |n+1,a::r,l,hn,h=>by rcases g:ZI (a::r) with _|q;rw[D_ (by simp) g] at h;cases h;obtain⟨k,c,z⟩:=q;obtain⟨u,y⟩:=FH g;rw[Kb g] at h;rcases p:jJ ((a::r).drop z) with _|m;exact aO;rw[p] at h;injection h with h;subst h;have t:=JT n (d:=(a::r).drop z) aO p;obtain⟨h1,_⟩:=XU g;unfold Y0;rw[h1,t];simp
def rb (l:List (Nat×ax)):ax×Nat:=match Y0 l with
 |none=>([],9)
 |some d=>if 4096<d.length then([],9) else(d,0)
theorem ZnG {l:List (Nat×ax)} (h:rb l=(d,0)):Y0 l=some d/\d.length<=4096:=by unfold rb at h;grind
theorem VU {p:Nat×ax} {r:List (Nat×ax)} (h:Y0 (p::r)=some d):d≠[]:=by unfold Y0 at h;rcases g:Zo p.1 p.2 with _|w;exact aO;rw[g] at h;rcases k:Y0 r with _|x;exact aO;rw[k] at h;injection h with h;rw[<-h];have:=Gf g;intro h;exact this (List.append_eq_nil_iff.1 h).1
/-! ## Streams of changes -/
def tA (s:Int×Int) (f:Int) (l:List dO):List (Nat×ax):=(1,(ke (gY f l)).1)::if s.1=3 then[] else[(oN s,(mZ s (l.map (·.2))).1)]
def mX (s:Int×Int) (f t:Int) (b:aT) (l:List dO):ax×Nat:=if eE s f t b l=false then([],1) else if l=[] then([],0) else rb (tA s f l)
def Yw (s:Int×Int) (n:Nat) (r:List (Nat×ax)):Option a':=if s.1=3 then(if r=[] then some (List.replicate n ⟨#[]⟩) else none) else match r with
 |[p]=>if p.1=oN s/\(ow s p.2 n).2=0/\(ow s p.2 n).1=n then some (ow s p.2 n).1 else none
 |_=>none
def qZ (s:Int×Int) (f:Int) (d:ax):Option (List dO):=match jJ d with
 |some (p::r)=>if p.1=1/\(nE p.2 4096).2=0/\(nE p.2 4096).1≠[] then(Yw s (nE p.2 4096).1 r).map (iU f (nE p.2 4096).1) else none
 |_=>none
def sgD (s:Int×Int) (f t:Int) (b:aT) (d:ax):List dO×Nat:=if eE s f t b []=false then([],1) else if d=[] then([],0) else if 4096<d.length then([],12) else match qZ s f d with
 |none=>([],12)
 |some l=>if eE s f t b l=true then(l,0) else([],12)
theorem Lw {l:List dO} (h:mX s f t b l=(d,0)):eE s f t b l=true/\((l=[]/\d=[])\/(l≠[]/\Y0 (tA s f l)=some d/\d.length<=4096)):=by unfold mX at h;split at h;exact aO;refine⟨aO,?_⟩;split at h;exact aO;rename_i h2;exact .inr ⟨h2,ZnG h⟩
theorem Zis (k:s.1=3) {v:aT} (h:fO Z3 s (aH v)=true):v=⟨#[]⟩:=by unfold fO at h;rw[gm] at h;have g:=h.2;unfold sD at g;rw[Vae O,Vae O,Vae O,Vax] at g;have:=Zc v;rw[g] at this;exact this.symm
theorem ZqX {l:List dO} (h:mX s f t b l=(d,0)):sgD s f t b d=(l,0):=by
 obtain⟨z,k⟩:=Lw h;unfold sgD;rw[Vae (by rw[Znv z];decide)];rcases k with ⟨h1,y⟩|⟨h1,y,g⟩;exact aO;rw[Vae (VU y),Vae O];obtain⟨a0,a4,a5,a1,E⟩:=Xn.1 z;have D:=Kr z;obtain⟨c,_,_,a2⟩:=XT D;have u:(gY f l)=l.length:=(by unfold gY;grind);have M:nE (ke (gY f l)).1 4096=(gY f l,0):=(by rw[Zia D,Vae O]);have Q:∀p∈tA s f l,p.1<16:=by intro p q;unfold tA at q;rcases jA.1 q with rfl|q;exact O;split at q;exact aO;rw[jv.1 q];show oN s<16;unfold oN;grind
 have S:=Sn Q y;have F:gY f l≠[]:=λe=>h1 (ia (by rw[<-u,e];rfl));have R:Yw s (gY f l) (if s.1=3 then[] else[(oN s,(mZ s (l.map (·.2))).1)])=some (l.map (·.2)):=by unfold Yw;by_cases g:s.1=3;rw[Vag g,Vag g,Vag rfl];congr 1;refine(List.eq_replicate_iff.2 ⟨by rw[Vah,u],λv B=> ?_⟩).symm;obtain⟨c,k,rfl⟩:=Vbm.1 B;exact Zis g (QP E c k);rw[Vae g,Vae g];obtain⟨_,G⟩:=Lm a0 g (vs:=l.map (·.2)) (λv B=>by obtain⟨c,k,rfl⟩:=Vbm.1 B;exact QP E c k) (by rw[Vah];exact a1);have I:=G ((gY f l).length:Int) (by rw[Vah,u];exact Int.le_refl _);simp only;rw[I,Vag ⟨mG,mG,by rw[Vah,u]⟩]
 have a3:qZ s f d=some l:=by unfold qZ;rw[S];unfold tA;simp only;rw[M,Vag ⟨mG,mG,F⟩,R];simp only[Cg];rw[Uy]
 grind
theorem ZpV {l:List dO} (h:sgD s f t b d=(l,0)):mX s f t b l=(d,0)/\eE s f t b l=true:=by
 unfold sgD at h;split at h;exact aO;rename_i h1;split at h;.rename_i h2;injection h with h _;subst h;have hv:eE s f t b []=true:=aO;refine⟨?_,hv⟩;unfold mX;grind
 rename_i h2;split at h;exact aO;rename_i h4;rcases hR:qZ s f d with _|l2;exact aO;rw[hR] at h;simp only at h;split at h
 .rename_i hv;injection h with h _;subst h;refine⟨?_,hv⟩;obtain⟨v1,v2,v3,v4,v5⟩:=Xn.1 hv;unfold qZ at hR;rcases hu:jJ d with _|fr;exact aO;rw[hu] at hR;rcases fr with _|⟨p,r⟩;exact aO;simp only at hR;split at hR
  .rename_i hc;obtain⟨c1,c2,c3⟩:=hc;rcases JA p.2 4096 with (q|q)|⟨ts,q1,q2,q3,_,q5⟩;rw[q] at c2;cases c2;rw[q] at c2;cases c2;rw[q1] at hR c3;simp only at hR c3;rcases jj:Yw s ts r with _|vs;rw[jj] at hR;cases hR;rw[jj] at hR;injection hR with hR
   have dp:vs=ts.length/\r=if s.1=3 then[] else[(oN s,(mZ s vs).1)]:=by
    unfold Yw at jj;by_cases h3:s.1=3
    .rw[Vag h3] at jj⊢;split at jj;.rename_i hr;injection jj with jj;rw[<-jj];exact⟨iE,hr⟩
     cases jj
    rw[Vae h3] at jj⊢;split at jj
    .rename_i p2;split at jj;.rename_i hp;obtain⟨p3,p4,p5⟩:=hp;injection jj with jj;rw[jj] at p5;have pj:ow s p2.2 (ts.length:Int)=(vs,0):=Prod.ext jj p4;have he:=Zcq pj;exact⟨p5,by rw[he,<-p3]⟩
     cases jj
    cases jj
   obtain⟨bh,hr⟩:=dp;obtain⟨z1,z2⟩:=Su f ts vs bh.symm;have pq:=XK f ts vs bh.symm;have hF:tA s f l2=p::r:=by unfold tA;rw[<-hR,z1,z2,q2,<-hr];congr 1;exact Prod.ext c1.symm rfl
   have hW:=JT d aU hu;have cQ:l2≠[]:=λe=>by rw[e] at hR;rw[hR] at pq;exact c3 (ia pq.symm)
   unfold mX;rw[Vae (by rw[hv];decide),Vae cQ,hF];unfold rb;rw[hW];simp only;rw[Vae h4]
  cases hR
 cases h
def jg (s:Int×Int) (f t k:Int):Nat:=if dS s=false\/nM f t k<0 then 1 else if s.1=3 then 7 else 0
def li (s:Int×Int) (f t k:Int) (l:List dO):Bool:=decide (l.map (·.1)=ms f t k)&&l.all (λc=>fO Z3 s (aH c.2))
def kE (s:Int×Int) (f t k:Int) (l:List dO):ax×Nat:=if jg s f t k≠0 then([],jg s f t k) else if li s f t k l=false then([],1) else if l=[] then([],0) else rb [(oN s,(mZ s (l.map (·.2))).1)]
def Ih (s:Int×Int) (f t k:Int) (d:ax):List dO×Nat:=if jg s f t k≠0 then([],jg s f t k) else if ms f t k=[] then(if d=[] then([],0) else([],12)) else if 4096<d.length then([],12) else match jJ d with
 |none=>([],12)
 |some fr=>match Yw s (ms f t k) fr with
  |none=>([],12)
  |some vs=>if vs.all (λv=>fO Z3 s (aH v))=true then((ms f t k).zip vs,0) else([],12)
theorem Ex {k:Int} (h:jg s f t k=0):dS s=true/\0<=nM f t k/\s.1≠3:=by unfold jg at h;grind
theorem ZsB:∀l:List dO,(l.map (·.1)).zip (l.map (·.2))=l
 |[]=>rfl
 |c::l=>by show(c.1,c.2)::(l.map (·.1)).zip (l.map (·.2))=c::l;rw[ZsB l]
theorem Zsr:∀(a:List Int) (b:a'),a=b.length->(a.zip b).map (·.1)=a/\(a.zip b).map (·.2)=b
 |[],[],_=>⟨rfl,rfl⟩
 |[],_::_,h=>aO
 |_::_,[],h=>aO
 |x::a,y::b,h=>by obtain⟨h1,g⟩:=Zsr a b aO;exact⟨nk,nk⟩
theorem Nh (f t k:Int):(ms f t k).length<=4096:=by rw[Nn];have:=PJ f t k;omega
theorem Zp3 (s:Int×Int):oN s<16:=by unfold oN;grind
theorem ZtB {k:Int} {l:List dO} (h:kE s f t k l=(d,0)):Ih s f t k d=(l,0)/\li s f t k l=true:=by
 unfold kE at h;split at h;exact aO;rename_i h1;split at h;exact aO;rename_i h2;have hv:li s f t k l=true:=aO;refine⟨?_,hv⟩;have bp:=hv;unfold li at bp;rw[gm,Vax,uI] at bp;obtain⟨v1,v2⟩:=bp;obtain⟨k1,k2,k3⟩:=Ex (O:jg s f t k=0);unfold Ih;rw[Vae h1,<-v1];split at h;exact aO;rename_i h3;obtain⟨s1,s2⟩:=ZnG h;rw[Vae (by intro e;exact h3 (List.map_eq_nil_iff.1 e)),Vae O];obtain⟨C,hC⟩:=ay ((mZ s (l.map (·.2))).1);rw[hC] at s1;have qj:∀p∈[(oN s,C)],p.1<16:=by intro p hp;have e2:p.1=oN s:=congrArg Prod.fst (jv.1 hp);rw[e2];exact Zp3 s
 have hu:=Sn qj s1;rw[hu];simp only;have iA:l.length<=4096:=by have:=Nh f t k;rw[<-v1,Vah] at this;exact this
 obtain⟨_,e2⟩:=Lm k1 k3 (vs:=l.map (·.2)) (λv qy=>by obtain⟨c,hc,rfl⟩:=Vbm.1 qy;exact v2 c hc) (by rw[Vah];exact iA);have e3:=e2 ((l.map (·.1)).length:Int) (by rw[Vah,Vah];exact Int.le_refl _);rw[hC] at e3;unfold Yw;rw[Vae k3];simp only;rw[e3,Vag ⟨mG,mG,by rw[Vah,Vah]⟩];simp only;rw[Vag (by rw[uI];intro v qy;obtain⟨c,hc,rfl⟩:=Vbm.1 qy;exact v2 c hc),ZsB]
theorem Ztm {k:Int} {l:List dO} (h:Ih s f t k d=(l,0)):kE s f t k l=(d,0)/\l.map (·.1)=ms f t k:=by
 unfold Ih at h;split at h;exact aO;rename_i h1;obtain⟨k1,k2,k3⟩:=Ex (O:jg s f t k=0);split at h
 .rename_i h2;split at h;.rename_i h3;injection h with h _;subst h;refine⟨?_,aO⟩;unfold kE;rw[Vae h1,Vae (by unfold li;grind),Vag rfl,h3]
  grind
 rename_i h2;split at h;exact aO;rename_i h4;rcases hu:jJ d with _|fr;exact aO;rw[hu] at h;simp only at h;rcases hr:Yw s (ms f t k) fr with _|vs;rw[hr] at h;cases h;rw[hr] at h;simp only at h;split at h
 .rename_i hv;injection h with h _;unfold Yw at hr;rw[Vae k3] at hr;split at hr
  .rename_i p;split at hr
   .rename_i hp;obtain⟨p1,p2,p3⟩:=hp;injection hr with hr;rw[hr] at p3;have he:=Zcq (show ow s p.2 ((ms f t k).length:Int)=(vs,0) from Prod.ext hr p2);obtain⟨z1,z2⟩:=Zsr (ms f t k) vs p3.symm;rw[h] at z1 z2;refine⟨?_,z1⟩;have hW:=JT d aU hu;have Lx:li s f t k l=true:=by unfold li;rw[gm,Vax];refine⟨z1,?_⟩;rw[uI] at hv⊢;intro c hc;exact hv _ (by rw[<-z2];exact List.mem_map_of_mem hc)
    unfold kE;rw[Vae h1,Vae (by rw[Lx];decide),Vae (by intro e;rw[e] at z1;exact h2 z1.symm),z2,he];have KZ:[(oN s,(p.2:ax))]=[p]:=(by rw[<-p1]);simp only;rw[KZ];unfold rb;rw[hW];simp only;rw[Vae h4]
   cases hr
  cases hr
 cases h
theorem ZfR {l:List dO} (h:k<l):oq s t a b (l.drop k)=(decide (a<l[k].1)&&decide (l[k].1<=t)&&fO Z3 s (aH l[k].2)&&(decide (s.1=3)|| !decide (l[k].2=b))&&oq s t l[k].1 l[k].2 (l.drop (k+1))):=by rw[kw h];rfl
theorem Gc (h:fO Z3 s v=true):v.length<=128:=(Z60 h).2
theorem Zg8 {l:List dO} (h:eE s f t b l=true):∀c∈l,c.2.size<=128:=by intro c k;obtain⟨_,_,_,_,g⟩:=Xn.1 h;have:=Gc (QP g c k);rwa [Z2] at this
theorem Zcp (s:Int×Int) (d:ax) (most:Int):∀v∈(ow s d most).1,v.size<=128:=by unfold ow;split;rcases RJ s.2 d most with ⟨_,h1⟩|⟨_,_,h1|h1⟩|⟨l,h1,_,g,_⟩;exact aO;exact aO;exact aO;rw[h1];intro v q;obtain⟨p,u,y,z⟩:=ZH.1 g;have:=p v q;obtain⟨t,k⟩:=ZN.1 this;rw[Z2] at k;omega;rcases XR d most with (h1|h1)|⟨l,h1,_,_,g,_⟩;exact aO;exact aO;grind
def DQ:List dO:=[(10,bs [49]),(15,bs [48])]
theorem Mb (a b:ax):(jS a b)<=a.length/\(jS a b)<=b.length:=by unfold jS;grind
theorem ZlB {W:Int} {l:a'} {s:ax} (h:kQ 0 W l=some s):∀k,(iB W l (k+1))<=(bi 0++s).length/\iB W l (k+1)≠[]:=by
 intro k
 have e:∀k,iB W l (k+1)=match kQ k W l with
   |none=>iB W l k
   |some s=>if iB W l k=[]\/(bi k++s).length<(iB W l k).length then bi k++s else iB W l k:=λ_=>rfl
 induction k with
 |zero=>rw[e,h];simp only;split;exact⟨aU,Md _ _⟩;grind
 |succ k ih=>
  rw[e];rcases kQ (k+1) W l with _|t;exact aO;simp only;split;.rename_i hc;rcases hc with hc|hc;exact aO;exact⟨O,Md _ _⟩
  grind
theorem Zlo:(mZ (0,1) (DQ.map (·.2))).1.length<=1000:=by
 unfold mZ;have hb:(ZR (DQ.map (·.2))).length=4:=by rfl
 have g:kQ 0 1 (DQ.map (·.2))=some (bi 2++aH (rC (ZR (DQ.map (·.2))))):=by rfl
 have h1:=(ZlB g 3).1;have k:(bi 0++(bi 2++aH (rC (ZR (DQ.map (·.2)))))).length<=1000:=by rw[Vab,Vab,Z2,HO,hb];have a1:=Yq6 0;have a2:=Yq6 2;have a3:=Yf 0;have a4:=Yf 2;omega
 unfold Y8;grind
theorem F0 {w:ax} (h:Zo k c=some w):w<=c.length+20:=by unfold Zo at h;rcases g:lx c with _|t;exact aO;rw[g] at h;injection h with h;rw[<-h,QT];have h1:(ZM c t)<=c.length:=Fi;have l:=Yq6 (ZM c t);have p:=Yf (ZM c t);omega
theorem Gd (h:c.length<=4096):∃w,Zo k c=some w:=by have:=X7 (k:=k) (c:=c);rw[dd h] at this;exact Option.isSome_iff_exists.1 this
end Wv
namespace Wv
theorem Sq:∀(l:List (Nat×ax)) (p:Nat×ax),Y0 (l++[p])=(match Y0 l with
  |none=>none
  |some d=>(Zo p.1 p.2).map (d++·))
 |[],p=>by show Y0 [p]=_;unfold Y0;rcases Zo p.1 p.2 with _|w;rfl;simp[Y0]
 |q::l,p=>by show Y0 (q::(l++[p]))=_;unfold Y0;rcases Zo q.1 q.2 with _|w;rfl;simp only;rw[Sq l p];rcases Y0 l with _|d;rfl;simp only[Cg];rcases Zo p.1 p.2 with _|x;rfl;simp[er]
theorem Zct {l m:List (Nat×ax)} (h:Y0 l=none):Y0 (l++m)=none:=by
 induction l with
 |nil=>exact po
 |cons q l ih=>show Y0 (q::(l++m))=none;unfold Y0 at h⊢;rcases k:Zo q.1 q.2 with _|w;rfl;rw[k] at h;simp only at h⊢;rcases g:Y0 l with _|d;rw[ih g];rfl;rw[g] at h;cases h
end Wv
namespace Go.Proofs.Y
open Wv Go.RowKit
section
variable{A:Wto}{l:List (Nat×ax)}{w:aq}
def mP (l:List (Nat×ax)):List aI:=l.flatMap λp=>[.int .i64 (p.1:Int),.string (bs p.2)]
theorem Zmm (D:List (Nat×ax)):∀(i:Nat) (h:i<D),(mP D)[i*2]? =(D[i].1:Int)/\(mP D)[i*2+1]? =some (.string (bs D[i].2)):=by
 induction D with
 |nil=>intro i h;simp at h
 |cons c D ih=>
  intro i h;have e:mP (c::D)=[.int .i64 (c.1:Int),.string (bs c.2)]++mP D:=rfl;match i,h with
  |0,_=>exact⟨rfl,rfl⟩
  |i+1,h=>have g:i<D:=(by simpa using h);rw[e,pO fj,pO fj];have:=ih i g;rw[show(i+1)*2-[(Value.int .i64 (c.1:Int)),.string (bs c.2)].length=i*2 from by exact fj,show(i+1)*2+1-[(Value.int .i64 (c.1:Int)),.string (bs c.2)].length=i*2+1 from by exact fj];exact this
theorem ZiF (l:List (Nat×ax)) (c:Nat×ax):mP (l++[c])=mP l++[.int .i64 (c.1:Int),.string (bs c.2)]:=by unfold mP;rw[yD];rfl
theorem HB (M:At w A (mP l)) (k:Nat) (h:k<l):∃b o,A=some ⟨b,o,none⟩/\b<w.heap.size/\w.cell? ⟨b,o+k*2,none⟩=(l[k].1:Int)/\w.cell? ⟨b,o+k*2+1,none⟩=some (.string (bs l[k].2)):=by have q:=Zmm l k h;exact IK
def H5 (l:List (Nat×ax)):aI:=match Y0 l with
 |none=>.tuple #[.string ⟨#[]⟩,(9:Int)]
 |some d=>.tuple #[bs d,(0:Int)]
theorem Z8q (a6:At w A (mP l)) (G:∀p∈l,p.1<16) (F:∀p∈l,p.2.length<=1000000000) (n cap:Nat) (a7:n=l) (c3:n<=1000):
  Calls prog 84 #[(A,n,cap)] w (bM w (H5 l)):=by
 obtain⟨Ha,a0,b2,b1,b0⟩:=ii a6 a7 (λ(k:Nat) (G:k<16) (c:ax) (F:c.length<=1000000000) W=>Dj k G c F W) G F
 have a3:Hid (H5 l=match Y0 l with
  |none=>.tuple #[.string ⟨#[]⟩,(9:Int)]
  |some d=>.tuple #[bs d,(0:Int)]):=J rfl
 generalize H5 l=FV at*;clear a6 a7 G F;go_in;go_wp2;go_loopw [4,11] (λb7 a1 wr=>∃(i:Nat) (d:ax),i<=n/\a1=i/\b7=.string (bs d)/\Hid (Y0 (l.take i)=some d)/\Hid (d.length<=5000*i)/\Hid (Below w w wr)) (λ_ a1 _=>(n-intOf a1).toNat);exact⟨0,[],cf _,rfl,rfl,J (by rw[qA];rfl),J (cf _),J (bf _ _)⟩;obtain⟨i,d,hi,rfl,rfl,a8,a5,hb⟩:=hrel;by_cases ab:i<n
 .have a4:i<l:=iF;obtain⟨c5,d2,rfl,d4,c0,c1⟩:=HB (Ha.o.below hb.o) i a4;have E:l.take (i+1)=l.take i++[l[i]]:=dK a4;have a2:=b1.o l[i] (dt _);have M:=b0.o l[i] (dt _);have a9:l=l.take i++([l[i]]++l.drop (i+1)):=by rw[<-er,<-E,vH]
  obtain⟨⟨k,c⟩,hp⟩:=ay l[i];rw[hp] at c0 c1 E a2 M a9;simp only at c0 c1 a2 M;have z:=Sq (l.take i) (k,c);rw[<-E,a8.o] at z;simp only at z;have g:=J (b2.o k a2 c M);unfold rJ at g;have B:=J (hb.o.alloc hb.o.size (.cells #[k,bs c] 78));have c7:(0:Int)<=i:=O;have d5:(i:Int)<n:=O;rcases y:Zo k c with _|u
  .rw[y] at g z;have b3:Y0 l=none:=by rw[a9,<-er,<-E];exact Zct z
   have I:Hid (FV=.tuple #[.string ⟨#[]⟩,(9:Int)]):=J (by rw[a3.o,b3]);rw[show mV none=.tuple #[.string ⟨#[]⟩,(9:Int)] from rfl] at g;generalize bs c=S at*;go_wp21;refine aP (g.o _) λb9 aa=>?_;have Q:=J (B.o.trans (aa.mono B.o.size));go_wp2;go_returns;exact⟨yI,Q.o⟩
  rw[y] at g z;have d3:u.length<=5000:=by have q:=y;unfold Zo at q;rcases R:lx c with _|t;rw[R] at q;cases q;rw[R] at q;injection q with q;have c6:=C5 R;rw[<-q,QT];have c8:(ZM c t).length<=4096:=Jm;have c9:=Yq6 (ZM c t);have d1:=Yf (ZM c t);omega
  rw[show mV (some u)=.tuple #[bs u,(0:Int)] from rfl] at g;have b8:Hid (Y0 (l.take (i+1))=some (d++u)):=J (by rw[z];rfl);have b4:Hid ((d++u).length<=5000*(i+1)):=J (by rw[Vab];have:=a5.o;omega);have c4:(bs d).size+(bs u).size<=9223372036854775807:=(by rw[Z0,Z0];have:=a5.o;omega);have b6:=J (Z9 d u);generalize bs c=S at*;generalize bs d=D at*;generalize bs u=U at*;go_wp21;refine aP (g.o _) λb9 aa=>?_;have Q:=J (B.o.trans (aa.mono B.o.size));go_wp2;refine⟨⟨i+1,d++u,ab,ci,by rw[<-b6.o],b8,b4,Q⟩,?_⟩;simp[intOf]<;>omega
 have b5:i=n:=O;subst b5;have I:Hid (FV=.tuple #[bs d,(0:Int)]):=J (by have h:=a8.o;rw[d' og] at h;rw[a3.o,h]);go_wp2;go_returns;exact⟨yI,hb.o⟩
theorem V2 (a c f t:Int) (w:aq):
  Calls prog 63 #[.agg #[a,c],f,t] w (bM w (.bool (dS (a,c)&&sx f t))):=by
 have u:=J (λW=>Uo a c W);have p:Hid (sx f t=(decide (-1<=f)&&decide (f<=t)&&decide (t<=1099511627776))):=J rfl;have q:=J ((bf w w).alloc aU (.cells #[a,c] 57));obtain⟨B,g⟩:=ay (dS (a,c));rw[g] at u⊢;clear g;cases B;.have I:Hid ((false&&sx f t)=false):=J rfl;go_in;go_wp21;refine ij (u.o _) q λw1 y=>?_;go_wp2;go_returns;exact⟨rfl,y.o⟩
 by_cases h1: -1<=f
 .by_cases k:f<=t
  .by_cases l:t<=1099511627776;.have I:Hid ((true&&sx f t)=true):=J (by rw[p.o];simp[*]);go_in;go_wp21;refine ij (u.o _) q λw1 y=>?_;go_wp2;go_returns;exact⟨by first|exact Z4 I.o.symm|exact Z4 (by rw[I.o,Vai O]),y.o⟩
   exact IJ
  exact IJ
 exact IJ
theorem RX (y:At w A (mP l)) (B:∀p∈l,p.1<16) (z:∀p∈l,p.2.length<=1000000000) (n cap:Nat) (E:n=l) (F:n<=1000):
  Calls prog 46 #[(A,n,cap)] w (bM w (.tuple #[bs (rb l).1,((rb l).2:Int)])):=by
 have a4:=J (Z8q y B z n cap E F)
 have k:Hid (H5 l=match Y0 l with
  |none=>.tuple #[.string ⟨#[]⟩,(9:Int)]
  |some d=>.tuple #[bs d,(0:Int)]):=J rfl
 have g:Hid (rb l=match Y0 l with
  |none=>([],9)
  |some d=>if 4096<d.length then([],9) else(d,0)):=J rfl
 have Q:bs ([]:ax)=⟨#[]⟩:=rfl;clear y B z E;rcases q:Y0 l with _|d;.have h1:=k.o;have h2:=g.o;rw[q] at h1 h2;simp only at h1 h2;rw[h1] at a4;have t:Hid (Ending.returned (.tuple #[bs (rb l).1,((rb l).2:Int)])=.returned (.tuple #[.string ⟨#[]⟩,(9:Int)])):=J (by rw[h2];rfl);clear h1 h2 k g q Q;go_in;go_wp21;refine aP a4.o λw2 aa=>?_;go_wp2;go_returns;exact⟨by rw[t.o];rfl,aa⟩
 have h1:=k.o;have h2:=g.o;rw[q] at h1 h2;simp only at h1 h2;rw[h1] at a4;have G:(bs d).size=d:=Z0 d;by_cases R:4096<d.length;rw[Vag R] at h2;have t:Hid (Ending.returned (.tuple #[bs (rb l).1,((rb l).2:Int)])=.returned (.tuple #[.string ⟨#[]⟩,(9:Int)])):=J (by rw[h2];rfl);have u:(4096:Int)<((bs d).size:Int):=O;exact OW;rw[Vae R] at h2;have t:Hid (Ending.returned (.tuple #[bs (rb l).1,((rb l).2:Int)])=.returned (.tuple #[bs d,(0:Int)])):=J (by rw[h2];rfl);have u:¬(4096:Int)<((bs d).size:Int):=O;exact OW
end
theorem GV:(prog.info? 9).map (λi=>(i.zero,i.size,i.bytes))=some (some (.string ByteArray.empty),1,16):=dw
def Ix (w:aq) (v:aI) (l:a'):Prop:=∃A cap,v=.slice A l cap/\At w A (bz l)
theorem Zn1 {w:aq} {base e:Nat} {v:aI} {l:a'} (h:w.ownsRow base e 1 v l (bz l)):Ix w v l:=E6
theorem Zgp (l:a') (s:aT):bz (l++[s])=bz l++[.string s]:=by unfold bz;rw[jy];rfl
theorem Zfp {w:aq} {A:Wto} {l:List (Int×aT)} (D:At w A (cv l)) (n cap:Nat) (E:n=l) (a3:n<=1000000):
  Calls prog 83 #[(A,n,cap)] w λx w'=>∃v,x=.returned v/\Ix w' v (l.map (·.2))/\Below w w w':=by have Ha:=J D;have a0:=J E;have a2:Hid (w.ownsRow w 9 1 (.slice none 0 0) 0 (bz ((l.take 0).map (·.2)))):=J IX;clear D E;go_in;go_wp2;go_loopw [3,8] (λs3 k wr=>∃i:Nat,i<=n/\k=i/\Hid (wr.ownsRow w 9 1 s3 i (bz ((l.take i).map (·.2))))/\Hid (Below w w wr)) (λ_ k _=>(n-intOf k).toNat);exact⟨0,cf _,rfl,a2,J (bf _ _)⟩;obtain⟨i,hi,rfl,g,hb⟩:=hrel;obtain⟨A5,F,R,rfl⟩:=Z7 g.o;by_cases ab:i<n;have y:i<l:=iF;obtain⟨a4,a6,rfl,a7,c0,c1⟩:=xx (Ha.o.below hb.o) i y;have q:l.take (i+1)=l.take i++[l[i]]:=dK y;obtain⟨⟨T,V⟩,hTV⟩:=ay l[i];rw[hTV] at c0 c1 q;simp only at c0 c1;have z:=hb.o.alloc hb.o.size (.cells #[T,V] 68);have Q:=Z6 g.o (Fr.of_below (S:=nob) ((bf wr wr).alloc aU (.cells #[T,V] 68))) (λ_ _ f=>f);obtain⟨a8,W',t,u,M,_⟩:=ZU (P:=prog) 23 9 _ _ underlying23 GV rfl Q z z.size (.string V) rfl fU O;have a1:bz ((l.take (i+1)).map (·.2))=bz ((l.take i).map (·.2))++[.string V]:=(by rw[q,jy,<-Zgp];rfl);rw[<-a1] at u;rw[World.size_alloc] at t;obtain⟨b7,p,B⟩:=bD t u M;have a5:(0:Int)<=i:=O;have b0:(i:Int)<n:=O;exact uY;have I:i=n:=O;subst I;have G:Hid (Ix wr (.slice A5 F R) (l.map (·.2))):=J (by have h:=g.o;rw[d' og] at h;exact Zn1 (by rw[Vah,<-a0.o];exact h));go_wp2;go_returns;exact⟨_,rfl,G.o,hb.o⟩
theorem N1:(prog.info? 78).map (λi=>(i.zero,i.size,i.bytes))=some (some (.agg #[(0:Int),ByteArray.empty]),2,24):=dw
def Ir (w:aq) (v:aI) (l:List (Nat×ax)):Prop:=∃A cap,v=.slice A l cap/\At w A (mP l)
def Zr2:aI->Nat
 |.string s=>s.size
 |_=>0
def BK (w:aq) (o:Option (List (Nat×ax))) (x:Ending) (w':aq):Prop:=∃v,x=.returned (.tuple #[v,(if o=none then 12 else 0:Int)])/\Ir w' v (o.getD [])/\Below w w w'
theorem Zn0 {w:aq} {base e:Nat} {v:aI} {l:List (Nat×ax)} (h:w.ownsRow base e 2 v l (mP l)):Ir w v l:=E6
variable{A:Wto}{W w:aq}{a c:Int}{l:List (Int×aT)}
def rj (a c:Int) (w:aq):Prop:=∀v:aT,v.size<=1099511627776->∀W,Below w w W->cK 52 #[a,c,v] W (bM W (fO Z3 (a,c) (aH v)))
theorem rj.below (h:rj a c w) (hb:Below w w W):rj a c W:=λv k X g=>h v k X (hb.trans (g.mono hb.size))
theorem rj.alloc {B:Nat} (h:rj a c w) (hb:Below w w W):rj a c W:=h.below hb
theorem Dc (hb:Below (w.alloc (.cells #[a,c] 57)) (w.alloc (.cells #[a,c] 57)) W):W.cell? (w,0)=a/\W.cell? (w,1)=c/\Below w w W/\w<W.heap.size:=by have h:=(Bk.new w 57 #[a,c]).below hb (by simp);exact⟨h.cell 0,h.cell 1,((bf w w).alloc aU _).trans (hb.mono (by simp)),h.lt⟩
theorem ZhS {x:Int} {v:aT} (hb:Below (w.alloc (.cells #[x,v] 68)) (w.alloc (.cells #[x,v] 68)) W):W.cell? (w,0)=x/\W.cell? (w,1)=v:=by have h:=(Bk.new w 68 #[x,v]).below hb (by simp);exact⟨h.cell 0,h.cell 1⟩
theorem Zla (x y:aT):(x.toList==y.toList)=decide (x=y):=by have h:=(Hu (aH x) (aH y)).2;rw[Zc,Zc] at h;rw[h,decide_eq_decide];exact⟨λe=>by rw[<-Zc x,e,Zc],λe=>by rw[e]⟩
theorem Yk {b:aT} (c9:At w A (cv l)) (a c f t:Int) (d1:rj a c w) (c7:b.size<=1099511627776) (c5:∀x∈l,x.2.size<=1099511627776) (n cap:Nat) (b9:n=l) (d8:n<=9223372036854775807):
  Calls prog 37 #[.agg #[a,c],f,t,b,(A,n,cap)] w (bM w (eE (a,c) f t b l)):=by
 obtain⟨Ha,a0,p,c3⟩:=dc c9 b9 (λW=>V2 a c f t W) (λv h W b2=>d1 v h W b2);have g:Hid (eE (a,c) f t b l=(dS (a,c)&&sx f t&&fO Z3 (a,c) (aH b)&&decide (n<=4096)&&oq (a,c) t f b l)):=J (by rw[b9];rfl);obtain⟨d4,a2,d7⟩:=bD (λi (h:i<l.length)=>c5 _ (dt h)) (λW h=>Dc (w:=w) (W:=W) (a:=a) (c:=c) h) c7;clear c9 b9 d1 c5 c7;obtain⟨b4,c8⟩:=ay ((dS (a,c)&&sx f t));rw[c8] at p g;clear c8;cases b4;.have I:Hid (eE (a,c) f t b l=false):=J (by rw[g.o];rfl);clear g;go_in;go_wp21;refine aP (p.o _) λw1 E=>?_;obtain⟨_,_,aa,_⟩:=a2.o _ E;go_wp2;go_returns;exact⟨Z4 I.o.symm,aa⟩
 have G:=J (λW b2=>c3.o b d7.o W b2);obtain⟨B,a9⟩:=ay (fO Z3 (a,c) (aH b));rw[a9] at G g;clear a9;cases B;have I:Hid (eE (a,c) f t b l=false):=J (by rw[g.o];rfl);exact W5A;by_cases e5:(4096:Int)<n;have I:Hid (eE (a,c) f t b l=false):=J (by rw[g.o,Vai O];rfl);exact W5A;have I:Hid (eE (a,c) f t b l=oq (a,c) t f b l):=J (by rw[g.o,dd O];rfl);clear g;go_in;go_wp21;refine aP (p.o _) λw1 E=>?_;obtain⟨u,z1,aa,_⟩:=a2.o _ E;have c6:=J E;have a3:=J aa;clear E aa;go_wp21;refine ij (G.o _ a3.o) c6 λw2 a1=>?_;clear u z1 c6 a3 G p;go_wp2;go_loopw [3,11,36] (λs3 d6 b7 wr=>∃(k:Nat) (q:Int) (d:aT),k<=n/\b7=k/\d6=q/\s3=.string d/\Hid (oq (a,c) t f b l=oq (a,c) t q d (l.drop k))/\Hid (Below (w.alloc (.cells #[a,c] 57)) (w.alloc (.cells #[a,c] 57)) wr)) (λ_ _ b7 _=>(n-intOf b7).toNat);exact⟨0,f,b,cf _,rfl,rfl,rfl,J rfl,a1⟩;clear a1;obtain⟨k,q,d,e6,rfl,rfl,rfl,a5,hb⟩:=hrel;obtain⟨u,z1,aa,e3⟩:=a2.o _ hb.o;by_cases ab:k<n
 .have b6:k<l:=iF;obtain⟨d9,e9,rfl,f2,c0,c1⟩:=xx (Ha.o.below aa) k b6;have b5:=ZfR (s:=(a,c)) (t:=t) (a:=q) (b:=d) b6;have e4:=d4.o k b6;obtain⟨⟨x,v⟩,hs⟩:=ay l[k];rw[hs] at c0 c1 b5 e4;simp only at c0 c1 b5 e4;have Q:Hid (eE (a,c) f t b l=_):=J (I.o.trans (a5.o.trans b5));have b0:=J (λW h=>ZhS (w:=wr) (W:=W) (x:=x) (v:=v) h);have D:=hb.o.alloc hb.o.size (.cells #[x,v] 68);have R:=J D;have e1:(0:Int)<=k:=O;have e2:(k:Int)<n:=O;clear b5 hs b6;by_cases e7:x<=q;have z:Hid (eE (a,c) f t b l=false):=J (by rw[Q.o,Vai (show ¬q<x by omega)];rfl);exact JR;by_cases e8:t<x;have z:Hid (eE (a,c) f t b l=false):=J (by rw[Q.o,Vai (show ¬x<=t by omega)];simp);exact JR;have M:=J (λW b2=>c3.o v e4 W b2);have S:=J (a2.o _ D).2.2.1;have b8:Hid (fO Z3 (a,c) (aH v)=fO Z3 (a,c) (aH v)):=J rfl;obtain⟨B,a9⟩:=ay (fO Z3 (a,c) (aH v));rw[a9] at M;have c4:=J a9;clear D aa e4 a9 b8;cases B;.have z:Hid (eE (a,c) f t b l=false):=J (by rw[Q.o,c4.o];simp);go_wp21;refine ij (M.o _ S.o) S λw3 F=>?_;go_wp2;go_returns;exact⟨Z4 z.o.symm,F.o⟩
  have a6:Hid (eE (a,c) f t b l=((decide (a=3)|| !decide (v=d))&&oq (a,c) t x v (l.drop (k+1)))):=J (by rw[Q.o,c4.o,dd (show q<x by omega),dd (show x<=t by omega)];simp);by_cases a4:a=3;have g5:Hid (oq (a,c) t f b l=oq (a,c) t x v (l.drop (k+1))):=J (by rw[<-I.o,a6.o,dd a4];simp);have d2:(a !=3)=false:=(by rw[a4];rfl);clear Q a6 a5 a4;exact N';have d2:(a !=3)=true:=(by rw[kx];exact a4);have b3:=Zla v d;by_cases b1:v=d;.have z:Hid (eE (a,c) f t b l=false):=J (by rw[a6.o,dd b1,Vai a4];rfl);rw[dd b1] at b3;clear Q a6 a5 a4 b1;go_wp21;refine aP (M.o _ S.o) λw3 y=>?_;obtain⟨a7,a8⟩:=b0.o _ y;have F:=J (R.o.trans (y.mono R.o.size));obtain⟨u,z1,d5,_⟩:=a2.o _ F.o;clear y;go_wp2;go_returns;exact⟨Z4 z.o.symm,d5⟩
  have g5:Hid (oq (a,c) t f b l=oq (a,c) t x v (l.drop (k+1))):=J (by rw[<-I.o,a6.o,Vai b1];simp);rw[Vai b1] at b3;clear Q a6 a5 a4 b1;exact N'
 have d3:k=n:=O;subst d3;have z:Hid (eE (a,c) f t b l=true):=J (by rw[I.o,a5.o,oc og];rfl);clear a5;go_wp2;go_returns;exact⟨Z4 z.o.symm,aa⟩
theorem Zb4:prog.underlying 68=some (.struct (prog.fieldsOf 68)):=dw
theorem ZhU:prog.stoodInHeld 68=false:=dw
theorem ZhV:∃f0 f1,(prog.fieldsOf 68).toList=[f0,f1]/\f0.name≠ "_" /\f1.name≠ "_" /\f0.type=3/\f1.type=9/\f0.offset=0/\f1.offset=1:=
 ⟨(prog.fieldsOf 68)[0]!,(prog.fieldsOf 68)[1]!,dw,of_decide_eq_true dw,of_decide_eq_true dw,dw,dw,dw,dw⟩
theorem ZoL (x y:Int) (u v:aT) (W:aq):(Op.equalIn 10000 68 (.agg #[x,u]) (.agg #[y,v])).run prog W=.ok (decide ((x,u)=(y,v))) W:=by rw[run_equalIn_agg _ _ _ _ _ Zb4 ZhU];obtain⟨f0,f1,h,l,n1,t0,t1,p,q⟩:=ZhV;have e:=Zla u v;rw[h];simp[Op.eqFields,l,n1,t0,t1,p,q,go_sem,underlying3,underlying9];by_cases g:x=y;rw[Vag g,dd g,Bool.true_and];by_cases k:u=v;rw[Vag (by rw[k]),dd k];rw[Vai k] at e⊢;rw[Vae (by simpa using e)];rw[Vae g,Vai g,Bool.false_and]
theorem ZlS (x y:Int) (u v:aT) (W:aq):(binOp .neq 68 (.agg #[x,u]) (.agg #[y,v])).run prog W=.ok (.bool (!decide ((x,u)=(y,v)))) W:=by rw[run_neq_struct,ZoL];rfl
theorem Zd1 (op:BinOp) (a b:Operand) (xs g:Array aI) (W:aq):(eqGuard op 68 a b (.agg xs) (.agg g)).run prog W=.ok () W:=run_eqGuard_agg _ _ _ _ _ _ _ dw
theorem TK {B:Wto} {r:List (Int×aT)} (a7:At w A (cv l)) (hb:At w B (cv r)) (n cap m a5:Nat) (a9:n=l) (a8:m=r) (b4:n<=9223372036854775807) (c5:m<=9223372036854775807):
  Calls prog 12 #[(A,n,cap),(B,m,a5)] w (bM w (decide (l=r))):=by
 obtain⟨Ha,a1,a0,I⟩:=dc a7 hb a9 a8;by_cases S:n=m
 .subst S;go_in;go_wp2;go_loopw [5] (λF wr=>∃(k q:Nat),k<=n/\F=k/\Hid (l.take k=r.take k)/\wr=w.drewN q) (λF _=>(n-intOf F).toNat);exact⟨0,0,cf _,rfl,J rfl,rfl⟩;obtain⟨k,q,b9,rfl,p,rfl⟩:=hrel;by_cases ab:k<n
  .have h1:k<l:=iF;have R:k<r:=Fs;obtain⟨b5,c3,rfl,_,c0,c1⟩:=xx Ha.o k h1;obtain⟨b6,c4,rfl,_,d0,Q⟩:=xx a1.o k R;have b7:(0:Int)<=k:=O;have b8:(k:Int)<n:=O;have G:=λ(h:l[k]=r[k])=>(show l.take (k+1)=r.take (k+1) by rw[dK h1,dK R,p.o,h]);have M:=λ(h:¬l[k]=r[k]) (e:l=r)=>h (by subst e;rfl);obtain⟨⟨x,u⟩,hX⟩:=ay l[k];obtain⟨⟨y,v⟩,hY⟩:=ay r[k];rw[hX,hY] at G M;rw[hX] at c0 c1;rw[hY] at d0 Q;simp only at c0 c1 d0 Q;have E:=J G;have a3:=J M;have b2:=λW=>ZlS x y u v W;have b1:=λop a b xs b0 W=>Zd1 op a b xs b0 W;go_wp2;go_quiet (fail);by_cases D:(x,u)=(y,v)
   .have a4:=E.o D;obtain⟨t,z⟩:=Prod.mk.inj D;have a2:=J a4;subst t;subst z;rw[dd (show x=x from rfl),dd (show u=u from rfl)];go_wp2
    all_goals first
     |(refine⟨⟨k+1,_,ab,ci,a2,rfl⟩,?_⟩;simp[intOf]<;>omega)
   have g:Hid (decide (l=r)=false):=J (Vai (a3.o D))
   have hb:(!decide (x=y)|| !decide (u=v))=true:=by by_cases t:x=y;by_cases z:u=v;exact absurd (by rw[t,z]) D;rw[Vai z];simp;rw[Vai t];rfl
   rw[hb];exact P5
  have a6:k=n:=O;subst a6;have g:Hid (decide (l=r)=true):=J (dd (by have:=p.o;rw[d' og,d' Fq] at this;exact this));exact P5
 have b3:((n:Int) !=m)=true:=eV;have g:Hid (decide (l=r)=false):=J (Vai (λh=>S (by rw[a0.o,I.o,h])));go_in;go_wp2;go_returns;exact⟨Z4 g.o.symm,bf _ _⟩
theorem LN (a c:Int) (k:gl w):rj a c w:=λv l W g=>by have:=Sp a c (aH v) (by exact l) (k.below g);exact this
