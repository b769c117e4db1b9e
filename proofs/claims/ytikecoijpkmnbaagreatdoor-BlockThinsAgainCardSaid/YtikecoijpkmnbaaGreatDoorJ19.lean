import Derived.Test.YtikecoijpkmnbaaGreatDoorJ11
import Derived.Test.YtikecoijpkmnbaaGreatDoorJ17
set_option linter.all false
set_option maxRecDepth 100000
set_option maxHeartbeats 0
section
variable{P Q:Prop}
theorem Fc(h:P:=by unfold only;omega):P:=h
theorem Js(h:P:=by rw[Z2];exact G v q):P:=h
theorem Jp(h:P:=by have:=Z3C _ s F;omega):P:=h
theorem Cn(h:P:=by unfold Za;rw[Y4];exact v3):P:=h
theorem Jf(h:P:=by rw[World.size_alloc];omega):P:=h
theorem Ak(h:P:=by have:=M.o;unfold only;omega):P:=h
theorem Jb(h:P:=by unfold q4;rw[D];exact XC p _):P:=h
theorem ET(h:P:=by unfold q5;rw[g];exact YO p _):P:=h
theorem I8(h:P:=by exact⟨λt ht=>(by cases ht),cf _⟩):P:=h
theorem I7(h:P:=by unfold bz;rw[List.map_replicate];rfl):P:=h
theorem E4(h:P:=by go_wp2;go_returns;exact⟨by rw[t.o];rfl,hb.o⟩):P:=h
theorem Rj(h:P:=by go_wp2;go_returns;refine⟨a3.o,?_⟩;rw[z.o];exact⟨_,rfl⟩):P:=h
theorem PM(h:P:=by rcases Classical.em (X=aH data) with h|h;exact h;exact absurd (.inr h) p):P:=h
theorem PN(h:P:=by rw[Z0];have:=Za5 (aH v) (aH last);rw[Z2] at this;exact co this (h v fi)):P:=h
theorem OP(h:P:=by unfold Instr.lookup;simp only[Sem.run_bind,Sem.run_pure,run_underlying ht,Result.andThen_ok,MapKept.run_getObj_map h1,g,MapKept.run_findKey hd f1];rfl):P:=h
theorem Oi(h:P:=by unfold Instr.lookup;simp only[Sem.run_bind,Sem.run_pure,run_underlying ht,Result.andThen_ok,MapKept.run_getObj_map h1,g,MapKept.run_findKey hd f1,u];rfl):P:=h
theorem Nw(h:P:=by
 by_cases D:g=0
 .right;have e2:X≠aH data:=p.resolve_left (λh=>h D);have a7:((bs X).toList==data.toList)=false:=by rw[Qw,uJ];intro h;exact e2 (by rw[<-h,Zm])
  refine⟨by rw[D];rfl,by rw[bne,a7];rfl,a7⟩
 left;rw[kx];omega):P:=h
theorem N9(h:P:=by
 have c3:=J (show b8.ownsRow w 3 1 v' (jL l st (k+1)) (bO (jL l st (k+1))) by rw[g.o,YK,Vab];exact p.o)
 go_wp2_with (
  at_builtin;refine Z5 (by with_reducible rfl) rfl _ _ _ rfl _ _ (by rfl) (by rfl) b7.o ?_);refine⟨⟨k+1,.inr ab,by go_num,c3,B⟩,?_⟩;simp[intOf]<;>omega):P:=h
end
namespace Go.Proofs.Y
open Tryz Wv Go.RowKit
section
variable{c:Nat}{l:a'}{s:ax}{w:aq}
theorem ZjC (data:aT) (hd:data.size<=1000000000):
  cK 162 #[data] w λx w'=>vc w (X0 (aH data)) x w':=by
 match h1:dN (aH data) 1 with
 |none=>obtain⟨e,g,k⟩:=Y9 h1;have l:X0 (aH data)=none:=(by unfold X0;rw[h1]);rw[l];exact Wg data O 0 data e data e k (XC g 4096) g aU
 |some (c,s1)=>
  obtain⟨n1,q,p⟩:=Zw h1;match h2:dN s1 4096 with
  |none=>obtain⟨e,g,k⟩:=Y9 h2;have l:X0 (aH data)=none:=(by unfold X0;rw[h1];simp only;rw[h2]);rw[l];exact Wg data O c (bs s1) 0 (bs s1) e n1 k g p
  |some (n,s2)=>exact ZfH data hd c n s1 s2 h1 h2
theorem Zmh {ws:a'} {A B:List Int×Nat} (h:fin c ws A B=some l):∃Z,ZK ws Z []=(l,0):=by
 unfold fin at h;obtain⟨Z,hZ⟩:=ay ((if c=1 then(ZX A.1).1.map Int.ofNat else A.1).zip (B.1.map (· +1)));rw[hZ] at h;split at h;cases h;split at h;cases h;split at h;cases h;split at h;.rename_i h0;injection h with h;exact⟨_,Prod.ext h h0⟩
 cases h
theorem ZfE (h:X0 s=some l):∃c k A B n g s3,fin c k A B=some l/\Yp n g=some (k,s3):=by
 unfold X0 at h;match h1:dN s 1,h with
 |none,h=>cases h
 |some (c,s1),h=>
  simp only at h;match h2:dN s1 4096,h with
  |none,h=>cases h
  |some (n,g),h=>
   simp only at h;match p:Yp n g,h with
   |none,h=>cases h
   |some (k,s3),h=>
    simp only at h;match h4:fe s3 s.length,h with
    |none,h=>cases h
    |some (a,s4),h=>exact⟨_,_,_,_,n,g,s3,h,p⟩
theorem Z8Z (n:Nat):∀ {s:ax} {k:a'} {t:ax},Yp n s=some (k,t)->∀x∈k,x.size<=128:=by
 induction n with
 |zero=>intro s k t h x q;rw[Yp] at h;injection h with h;injection h with h1 g;subst h1;cases q
 |succ n ih=>
  intro s k t h x q;match h1:fe s 128 with
  |none=>rw[UD h1] at h;cases h
  |some (a,u)=>
   rw[UC h1] at h;match g:Yp n u with
   |none=>rw[g] at h;cases h
   |some (l,v)=>rw[g] at h;injection h with h;injection h with y z;subst y;rcases jA.1 q with p|p;rw[p,Z0];exact(JM h1).2.2.2;exact ih g x p
theorem Z8n (d:a') (hd:∀x∈d,x.size<=128) (Z:List (Int×Int)):∀acc:a',(∀x∈acc,x.size<=128)->acc.length<=4096->(∀x∈(ZK d Z acc).1,x.size<=128)/\(ZK d Z acc).1.length<=4096:=by
 induction Z with
 |nil=>intro acc h1 h2;exact⟨h1,h2⟩
 |cons z Z ih=>intro acc h1 h2;rw[ZK];split;exact⟨by simp,by simp⟩;rename_i c1;split;exact⟨by simp,by simp⟩;refine ih _ (λx hx=> ?_) ?_;rcases lc.1 hx with h|h;exact h1 x h;rw[(Cf.1 h).2];have:z.1.toNat<d:=O;have e:d.getD z.1.toNat default=d[z.1.toNat]:=(by simp[List.getD,this]);rw[e];exact hd _ (dt _);exact CA
theorem JH (h:X0 s=some l):(∀x∈l,x.size<=128)/\l.length<=4096:=by obtain⟨c,p,A,B,n,q,s3,h1,g⟩:=ZfE h;obtain⟨Z,k⟩:=Zmh h1;have:=Z8n p (Z8Z n g) Z [] (by simp) (by simp);rw[k] at this;exact this
theorem QZ (data:aT) (hd:data.size<=1000000000) (most:Int):
  Calls prog 131 #[data,most] w λx w'=>oZ w (dec (aH data) most) x w':=by
 have u:=J (ZjC (w:=w) data hd);unfold dec;match hr:X0 (aH data) with
 |none=>rw[hr] at u;simp only;clear hr hd;go_in;go_wp21;refine(u.o).mono ?_;rintro x w1 ⟨v,rfl,k,hb⟩;simp only[Option.isSome_none];clear k;go_wp2;go_returns;exact Qt 12 hb
 |some l=>
  rw[hr] at u;simp only;obtain⟨E,R⟩:=JH hr;have B:=J (λW A cap (h:At W A (bz l))=>X4 h (λs k=>by have:=E s k;omega) l cap rfl O);obtain⟨⟨X,g⟩,hX⟩:=ay (enc l);rw[hX] at B⊢;simp only;clear hr hd hX E;by_cases p:g≠0\/X≠aH data
  .rw[Vag p];have q:((g:Int) !=0)=true\/(((g:Int) !=0)=false/\(((bs X).toList !=data.toList)=true/\((bs X).toList==data.toList)=false)):=Nw;clear p;rcases q with q|⟨q,q2,q3⟩
   all_goals
    go_in;go_wp21;refine(u.o).mono ?_;rintro x w1 ⟨v,rfl,k,hb⟩;simp only[Option.isSome_some];obtain⟨A,cap,rfl,t⟩:=k l rfl;have y:=J (B.o _ _ cap t);clear k t;go_wp21;refine aP y.o λG aa=>?_;have z:=hb.trans (aa.mono hb.size);go_wp2;go_returns;exact Qt 12 z
  rw[Vae p];have D:g=0:=O;have Q:X=aH data:=PM;subst D;subst Q;have q2:((bs (aH data)).toList !=data.toList)=false:=(by rw[Zc,yx]);have q3:((bs (aH data)).toList==data.toList)=true:=(by rw[Zc,ID]);clear p;by_cases F:most<(l.length:Int);.rw[Vag F];go_in;go_wp21;refine(u.o).mono ?_;rintro x w1 ⟨v,rfl,k,hb⟩;simp only[Option.isSome_some];obtain⟨A,cap,rfl,t⟩:=k l rfl;have y:=J (B.o _ _ cap t);clear k t;go_wp21;refine aP y.o λG aa=>?_;have z:=hb.trans (aa.mono hb.size);go_wp2;go_returns;exact Qt 2 z
  rw[Vae F];go_in;go_wp21;refine(u.o).mono ?_;rintro x w1 ⟨v,rfl,k,hb⟩;simp only[Option.isSome_some];obtain⟨A,cap,rfl,t⟩:=k l rfl;have y:=J (B.o _ _ cap t);have I:=J t;clear k t;go_wp21;refine aP y.o λG aa=>?_;have z:=hb.trans (aa.mono hb.size);have M:=I.o.below aa;go_wp2;go_returns;exact⟨_,rfl,⟨A,cap,rfl,M⟩,z⟩
theorem Zio (c:Nat) (l:a') (g:l.length<=4096):(sr c l).length<9223372036854775808:=by have h1:=Qg (Yj c l) (λv k=>by have:=CY c l g v k;omega);have p:=YC (cT l) l;rw[YI] at h1;show(jk (Yj c l)).length<_;omega
theorem L4 (g:l.length<=4096) (k:∀s∈l,s.size<=128):enc l=(if(gq 1 l).length<(gq 0 l) then gq 1 l else gq 0 l,0):=by unfold enc;grind
theorem FT (g:l.length<=4096) (k:∀s∈l,s.size<=128):∃c,c<=1/\enc l=(gq c l,0):=by rw[L4 g k];split;exact aO;grind
theorem Zic (p:c<=1) (g:l.length<=4096) (k:∀s∈l,s.size<=128) (most:Int):
  dec (gq c l) most=if(enc l).1≠gq c l then([],12) else if most<(l.length:Int) then([],2) else(l,0):=by
 have h1:=ZjB c p l g k (Zio c l g);unfold dec;have q:(enc l).2=0:=by rw[L4 g k]
 grind
theorem Lb (g:l.length<=4096) (k:∀s∈l,s.size<=128) (most:Int):
  dec (enc l).1 most=if most<(l.length:Int) then([],2) else(l,0):=by obtain⟨c,p,q⟩:=FT g k;have:=Zic p g k most;grind
theorem XR (data:ax) (most:Int):(dec data most=([],12)\/dec data most=([],2))\/∃l,dec data most=(l,0)/\enc l=(data,0)/\X0 data=some l/\(∀x∈l,x.size<=128)/\l.length<=4096:=by
 unfold dec;match h:X0 data with
 |none=>exact .inl (.inl rfl)
 |some l=>obtain⟨g,k⟩:=JH h;by_cases h1:(enc l).2≠0\/(enc l).1≠data;exact aO;grind
def l4:a':=[⟨#[97]⟩,⟨#[97]⟩,⟨#[98]⟩,⟨#[97]⟩]
end
theorem Zcf (c:Nat) {l:a'} (k:l.length<=4096) (t:∀s∈l,s.size<=128):(gq c l).length<=2000000:=by
 have B:=Yz l;have h1:=JF c (cT l) (cT l) (Kt t) O;have p:=Qg (Yj c l) (λv g=>by have:=CY c l k v g;omega);have q:=Qg (oJ l) (λv g=>by have:=Dm l k v g;omega);have u:=rK (sr c l);have y:=YC (cT l) l;rw[YI] at p;rw[Qb] at q;have z:gq c l=YV c (cT l) (cT l).length++(bi (sr c l).length++jk (Yj c l))++jk (oJ l):=by unfold gq YV;rw[pi];rfl
 grind
theorem Q6 {l:a'} (g:l.length<=4096) (k:∀s∈l,s.size<=128):(enc l).1.length<=2000000:=by obtain⟨c,q,p⟩:=FT g k;rw[p];exact Zcf c g k
def ZS (l:List Int):ax:=jk (l.map Int.toNat)
def hO (l:List Int):a':=l.map (λg=>bs (bi g.toNat))
def lp (l:List Int):ax:=bi 0++ZS (Za l)
def oK (l:List Int):ax:=bi 1++bi (Zt l).st.toNat++bi (Zt l).f.toNat++bi (Zt l).s.toNat++bi (Zt l).n.toNat++text (bs (ZS (Za (Qy (Zt l) l))))++ZS (Za (qg (Zt l) l))
def om (l:List Int):ax:=bi 2++(enc (hO (Za l))).1
def codT (c:Nat) (l:List Int):ax:=if c=0 then lp l else if c=1 then oK l else om l
def jS (a b:ax):ax:=if b.length<a then b else a
def ke (l:List Int):ax×Nat:=if Zi l=true then(if l.length<2 then jS (lp l) (om l) else jS (jS (lp l) (oK l)) (om l),0) else([],2)
theorem Yg {l:List Int} (h:Zi l=true):(ZS (Za l)).length<=600000:=by obtain⟨_,_,p⟩:=Zd.1 h;have g:=Xz h;have:=Qg ((Za l).map Int.toNat) (λv k=>aO);rw[Vah] at this;unfold Za at this;rw[Y4] at this;unfold ZS Za;omega
theorem Z3C (l:List Int):∀s∈hO l,s.size<=9:=by intro s k;obtain⟨g,_,rfl⟩:=Vbm.1 k;rw[Z0,Yq6];have:=Yf g.toNat;omega
theorem Xp (l:List Int):(hO l)=l.length:=by simp[hO]
theorem UX {l:List Int} (h:Zi l=true):(enc (hO (Za l))).2=0/\(enc (hO (Za l))).1.length<=2000000:=by obtain⟨_,_,v3⟩:=Zd.1 h;have g:(hO (Za l)).length<=4096:=(by rw[Xp];exact Cn);have F:∀s∈hO (Za l),s.size<=128:=λs F=>Jp;exact⟨by obtain⟨c,_,k⟩:=FT g F;rw[k],Q6 g F⟩
def yb (s:ax):Option (Clk×ax×ax):=
 match dN s 1099511627776 with
 |none=>none
 |some (a,s1)=>
  match dN s1 1099511627776 with
  |none=>none
  |some (b,s2)=>
   match dN s2 1099511627776 with
   |none=>none
   |some (d,s3)=>
    match dN s3 4096 with
    |none=>none
    |some (n,s4)=>
     match fe s4 s4.length with
     |none=>none
     |some (x,t)=>some (⟨(a:Int),(b:Int),(d:Int),(n:Int)⟩,x,t)
def xP (c:Clk) (X Y:List Int×Nat):Option (List Int):=
 if nU c=false\/X.2≠0\/Y.2≠0 then none
 else match jnL X.1,jnL Y.1 with
  |some m,some x=>some (zB c m x)
  |_,_=>none
def wj (s:ax):Option (List Int):=match yb s with
 |none=>none
 |some (c,a,t)=>xP c (fc a 4096) (fc t 4096)
def Qz:a'->Option (List Int)
 |[]=>some []
 |s::r=>match dN (aH s) 1099511627776 with
  |some (g,[])=>(Qz r).map ((g:Int)::·)
  |_=>none
def QN (data:ax):Option (List Int):=match dN data 2 with
 |none=>none
 |some (c,r)=>
  if c=0 then(if(fc r 4096).2≠0 then none else jnL (fc r 4096).1)
  else if c=1 then wj r
  else if(dec r 4096).2≠0 then none else match Qz (dec r 4096).1 with
   |none=>none
   |some g=>jnL g
def nE (data:ax) (most:Int):List Int×Nat:=match QN data with
 |none=>([],12)
 |some l=>if(ke l).2≠0\/(ke l).1≠data then([],12) else if most<(l.length:Int) then([],2) else(l,0)
def q1 (s:aT):=bG s 0 1099511627776
def q2 (s:aT):=bG (q1 s).2.1 (q1 s).2.2 1099511627776
def q3 (s:aT):=bG (q2 s).2.1 (q2 s).2.2 1099511627776
def q4 (s:aT):=bG (q3 s).2.1 (q3 s).2.2 4096
def q5 (s:aT):=ZB (q4 s).2.1 (q4 s).2.2 ((q4 s).2.1.size:Int)
theorem Zju (s:ax):((q5 (bs s)).2.2≠0/\yb s=none)\/((q5 (bs s)).2.2=0/\∃x t,yb s=some (⟨((q1 (bs s)).1:Int),((q2 (bs s)).1:Int),((q3 (bs s)).1:Int),((q4 (bs s)).1:Int)⟩,x,t)/\(q5 (bs s)).1=bs x/\(q5 (bs s)).2.1=bs t/\x.length<=s.length/\t.length<=s.length):=by
 unfold yb;match h1:dN s 1099511627776 with
 |none=>obtain⟨e,p,l⟩:=Y9 h1;have u:q1 (bs s)=(0,bs s,e):=l;have q:q2 (bs s)=(0,bs s,e):=(by unfold q2;rw[u];exact XC p _);have D:q3 (bs s)=(0,bs s,e):=(by unfold q3;rw[q];exact XC p _);have g:q4 (bs s)=(0,bs s,e):=Jb;have k:q5 (bs s)=(bs [],bs s,e):=ET;rw[k];exact .inl ⟨p,rfl⟩
 |some (a,s1)=>
  obtain⟨E,R,S⟩:=Zw h1;have u:q1 (bs s)=(a,bs s1,0):=E;simp only;match h2:dN s1 1099511627776 with
  |none=>obtain⟨e,p,l⟩:=Y9 h2;have q:q2 (bs s)=(0,bs s1,e):=(by unfold q2;grind);have D:q3 (bs s)=(0,bs s1,e):=(by unfold q3;rw[q];exact XC p _);have g:q4 (bs s)=(0,bs s1,e):=Jb;have k:q5 (bs s)=(bs [],bs s1,e):=ET;rw[k];exact .inl ⟨p,rfl⟩
  |some (b,s2)=>
   obtain⟨a2,a0,Q⟩:=Zw h2;have q:q2 (bs s)=(b,bs s2,0):=(by unfold q2;grind);simp only;match h3:dN s2 1099511627776 with
   |none=>obtain⟨e,p,l⟩:=Y9 h3;have D:q3 (bs s)=(0,bs s2,e):=(by unfold q3;rw[q];exact l);have g:q4 (bs s)=(0,bs s2,e):=Jb;have k:q5 (bs s)=(bs [],bs s2,e):=ET;rw[k];exact .inl ⟨p,rfl⟩
   |some (d,s3)=>
    obtain⟨z,I,G⟩:=Zw h3;have D:q3 (bs s)=(d,bs s3,0):=(by unfold q3;rw[q];exact z);simp only;match h4:dN s3 4096 with
    |none=>obtain⟨e,p,l⟩:=Y9 h4;have g:q4 (bs s)=(0,bs s3,e):=(by unfold q4;rw[D];exact l);have k:q5 (bs s)=(bs [],bs s3,e):=ET;rw[k];exact .inl ⟨p,rfl⟩
    |some (n,s4)=>
     obtain⟨B,a3,a1⟩:=Zw h4;have g:q4 (bs s)=(n,bs s4,0):=(by unfold q4;rw[D];exact B);simp only;match h5:fe s4 s4.length with
     |none=>obtain⟨e,p,l⟩:=UQ h5;have k:q5 (bs s)=(bs [],bs s4,e):=(by unfold q5;rw[g];exact l);rw[k];exact .inl ⟨p,rfl⟩
     |some (x,t)=>obtain⟨y,F,M,_⟩:=JM h5;have k:q5 (bs s)=(bs x,bs t,0):=(by unfold q5;rw[g];exact y);rw[u,q,D,g,k];exact .inr ⟨rfl,x,t,rfl,rfl,rfl,O,O⟩
theorem Zne (s:aT):(q1 s).2.1.size<=s.size/\(q2 s).2.1.size<=s.size/\(q3 s).2.1.size<=s.size/\(q4 s).2.1.size<=s.size:=by have a1:(q1 s).2.1.size<=s.size:=Zv;have a2:(q2 s).2.1.size<=(q1 s).2.1.size:=Zv;have a3:(q3 s).2.1.size<=(q2 s).2.1.size:=Zv;have a4:(q4 s).2.1.size<=(q3 s).2.1.size:=Zv;omega
theorem Zj4 {l:List Int} (h:Zi l=true):((Za l).map Int.toNat).length<=4096/\(∀v∈(Za l).map Int.toNat,v<4611686018427387904)/\((Za l).map Int.toNat).map Int.ofNat=Za l:=by
 obtain⟨_,_,v3⟩:=Zd.1 h;have g:=Xz h;refine⟨?_,?_,?_⟩;rw[Vah];exact Cn;exact aO;rw[qx];conv=>rhs;rw[<-List.map_id (Za l)]
 apply List.map_congr_left;grind
theorem F2 {l:List Int} (h:Zi l=true):fc (ZS (Za l)) 4096=(Za l,0):=by obtain⟨n1,n2,n3⟩:=Zj4 h;have:=T6 _ 4096 n1 O n2;rw[n3] at this;exact this
theorem Zjt {c:Clk} {X R:ax} (g:sw c) (B:X.length<=1000000000):
  yb (bi c.st.toNat++bi c.f.toNat++bi c.s.toNat++bi c.n.toNat++text (bs X)++R)=some (c,X,R):=by obtain⟨h1,l,p,q,t,u,y,z⟩:=g;unfold yb text;simp only[er];rw[Ya _ _ O O];simp only;rw[Ya _ _ O O];simp only;rw[Ya _ _ O O];simp only;rw[Ya _ _ O O];simp only;have k:(bs X).size=X:=Z0 X;rw[k,Zm];rw[Yo X _ aO O];obtain⟨a,b,d,n⟩:=c;grind
theorem Km {c:Nat} (k:c<=2) (r:ax):QN (bi c++r)=if c=0 then(if(fc r 4096).2≠0 then none else jnL (fc r 4096).1) else if c=1 then wj r else if(dec r 4096).2≠0 then none else match Qz (dec r 4096).1 with|none=>none|some g=>jnL g:=by unfold QN;rw[Ya c 2 k O r]<;>grind
theorem ZbH {g:List Int} (h:∀x∈g,0<=x/\x<=1099511627776):Qz (hO g)=some g:=by
 induction g with
 |nil=>rfl
 |cons a r ih=>
  have t:=h a fi;have p:=ih (λx q=>h x (gM _ q));have h1:hO (a::r)=bs (bi a.toNat)::hO r:=rfl
  have l:Qz (bs (bi a.toNat)::hO r)=match dN (aH (bs (bi a.toNat))) 1099511627776 with
   |some (g,[])=>(Qz (hO r)).map ((g:Int)::·)
   |_=>none:=rfl
  have k:=Ya a.toNat 1099511627776 O O [];rw[fg] at k;rw[h1,l,Zm,k,p];grind
theorem WE (l:List Int):oK l=bi 1++(bi (Zt l).st.toNat++bi (Zt l).f.toNat++bi (Zt l).s.toNat++bi (Zt l).n.toNat++text (bs (ZS (Za (Qy (Zt l) l))))++ZS (Za (qg (Zt l) l))):=by rfl
theorem ZnU {l:List Int} (h:Zi l=true):(hO (Za l)).length<=4096/\∀s∈hO (Za l),s.size<=128:=by obtain⟨_,_,v3⟩:=Zd.1 h;refine⟨by rw[Xp];exact Cn,λs F=>Jp⟩
theorem ZfD {c:Clk} {l:List Int} (g:nU c=true) (h:Zi l=true) (R:ax):
  wj (bi c.st.toNat++bi c.f.toNat++bi c.s.toNat++bi c.n.toNat++text (bs (ZS (Za (Qy c l))))++(ZS (Za (qg c l))++R))=xP c (Za (Qy c l),0) (fc (ZS (Za (qg c l))++R) 4096):=by have hi:=(YH.1 g).1;unfold wj;rw[Zjt hi (by have:=Yg (Xi hi l);omega)];simp only;rw[F2 (Xi hi l)]
theorem ZfF {l:List Int} (h:Zi l=true) (c:Nat) (t:c<=2) (h1:c=1->2<=l.length):QN (codT c l)=some l:=by have p:c=0\/c=1\/c=2:=O;rcases p with rfl|rfl|rfl;show QN (bi 0++ZS (Za l))=_;rw[Km O,Vag rfl,F2 h,Vae (by simp)];exact Gu h;show QN (oK l)=_;have k:=Qf h (h1 rfl);have hi:=(YH.1 k).1;rw[WE,Km O,Vae aY,Vag rfl];have:=ZfD k h [];rw[fg] at this;rw[this,F2 (FI h)];unfold xP;rw[Vae aO];rw[Gu (Xi hi l),Gu (FI h)];simp only;rw[Znm hi h];show QN (bi 2++(enc (hO (Za l))).1)=_;obtain⟨t1,q⟩:=ZnU h;have g:=Lb t1 q 4096;rw[Vae O] at g;rw[Km O,Vae aY,Vae aY,g,Vae (by simp)];rw[ZbH (Xz h)];exact Gu h
theorem XT {l:List Int} (h:Zi l=true):∃c,c<=2/\(c=1->2<=l.length)/\ke l=(codT c l,0):=by unfold ke;rw[Vag h];by_cases g:l.length<2;rw[Vag g];unfold jS;split;exact⟨2,O,O,rfl⟩;exact⟨0,O,O,rfl⟩;rw[Vae g];obtain⟨z,q⟩:=ay (jS (lp l) (oK l));rw[q];have t:jS z (om l)=if(om l).length<z then om l else z:=rfl;rw[t];by_cases k:(om l)<z.length;rw[Vag k];exact⟨2,O,O,rfl⟩;rw[Vae k,<-q];unfold jS;by_cases p:(oK l)<(lp l).length;rw[Vag p];exact⟨1,O,O,rfl⟩;rw[Vae p];exact⟨0,O,O,rfl⟩
theorem Ve {l:List Int} (h:Zi l=false):ke l=([],2):=by unfold ke;grind
theorem Zi9 {l:List Int} (h:Zi l=true) (c:Nat) (g:c<=2) (h1:c=1->2<=l.length) (most:Int):
  nE (codT c l) most=if(ke l).1≠codT c l then([],12) else if most<(l.length:Int) then([],2) else(l,0):=by have p:(ke l).2=0:=(by obtain⟨c,_,_,k⟩:=XT h;rw[k]);unfold nE;rw[ZfF h c g h1];grind
theorem Zia {l:List Int} (h:Zi l=true) (most:Int):nE (ke l).1 most=if most<(l.length:Int) then([],2) else(l,0):=by obtain⟨c,g,h1,k⟩:=XT h;have:=Zi9 h c g h1 most;grind
theorem ZdH {l:List Int} (g:(ke l).2=0):Zi l=true:=by
 cases k:Zi l with
 |true=>rfl
 |false=>rw[Ve k] at g;cases g
theorem JA (data:ax) (most:Int):(nE data most=([],12)\/nE data most=([],2))\/∃l,nE data most=(l,0)/\ke l=(data,0)/\Zi l=true/\QN data=some l/\(l.length:Int)<=most:=by
 unfold nE;match h:QN data with
 |none=>exact .inl (.inl rfl)
 |some l=>simp only;by_cases h1:(ke l).2≠0\/(ke l).1≠data;exact aO;rw[Vae h1];have g:(ke l).2=0:=O;have p:(ke l).1=data:=aO;by_cases k:most<(l.length:Int);exact aO;rw[Vae k];exact .inr ⟨l,rfl,Prod.ext p g,ZdH g,rfl,O⟩
section
variable{c:Nat}{l:a'}{s:ax}{st:aT}{w:Int}
def tk (c:cj):List Bool:=[decide (2<=cd c),decide (cd c % 2=1)]
def XL (v:ax):List Bool:=v.flatMap tk
def ZR (l:a'):List Bool:=l.flatMap (λv=>XL (aH v))
theorem FO (v:ax):(XL v).length=2*v.length:=by
 unfold XL;induction v with
 |nil=>rfl
 |cons c r ih=>rw[sW,Vab,ih,gd];simp[tk];omega
theorem ZcI (h:∀v∈l,gH w (aH v)=true):((ZR l).length:Int)=2*(l.length*w):=by
 unfold ZR;induction l with
 |nil=>simp
 |cons v r ih=>have g:=(ZN.1 (h v fi)).2;rw[sW,Vab,FO,gd];grind
def un (l:a'):Option ax:=if 65536<(ZR l).length then none else some (bi l.length++aH (rC (ZR l)))
def vo (l:a'):ax:=bi l.length++if l=[] then[] else
 text (bs (fw (aH (l.getD 0 default))))++text (bs (fw (aH (ZE l))))++text (bs (ZS (Za (iD l (ZE l)))))++(enc (ZL (gU l (iD l (ZE l))))).1
def HQ (w:Int) (l:a'):ax:=(enc (ZL (ly (bs (mr w 48)) l))).1
def DY (l:a'):ax:=(enc (ZL l)).1
def kQ (c:Nat) (w:Int) (l:a'):Option ax:=if c=0 then un l else if c=1 then some (vo l) else if c=2 then some (HQ w l) else some (DY l)
def L3 (c w:Int) (l:a'):ax×Nat:=if c<0\/3<c then([],1) else if ZG w l=false then([],2) else match kQ c.toNat w l with
 |none=>([],9)
 |some s=>(bi c.toNat++s,0)
def iB (w:Int) (l:a'):Nat->ax
 |0=>[]
 |i+1=>match kQ i w l with
  |none=>iB w l i
  |some s=>if iB w l i=[]\/(bi i++s).length<(iB w l i).length then bi i++s else iB w l i
def Y8 (w:Int) (l:a'):ax×Nat:=if ZG w l=false then([],2) else(iB w l 4,0)
def kF:Nat->List Bool->ax
 |0,_=>[]
 |k+1,b=>ch (2*(b.getD 0 false).toNat+(b.getD 1 false).toNat)::kF k (b.drop 2)
def vb (w:Nat):Nat->List Bool->a'
 |0,_=>[]
 |n+1,b=>bs (kF w b)::vb w n (b.drop (2*w))
def zh (w:Int) (s:ax):Option a':=match dN s 4096 with
 |none=>none
 |some (n,r)=>match oo (bs r) with
  |none=>none
  |some k=>if(k:Int)=2*n*w then some (vb w.toNat n (rbits (bs r) k)) else none
def ik:Int->List Int->List Int
 |_,[]=>[]
 |last,g::r=>(last+1+g)::ik (last+1+g) r
def pK:List Int->a'->Int->Option aT
 |i::x,v::r,k=>if i=k then some v else pK x r k
 |_,_,_=>none
def qp (x:List Int) (vs:a') (st:aT):Nat->Nat->aT->Option a'
 |0,_,_=>some []
 |k+1,i,last=>match pK x vs (i:Int) with
  |some v=>(qp x vs st k (i+1) v).map (v::·)
  |none=>if(qc (aH last) (aH st)).2=true then(qp x vs st k (i+1) (bs (qc (aH last) (aH st)).1)).map (bs (qc (aH last) (aH st)).1::·) else none
def YM (w:Int) (s:ax):Option a':=match dN s 4096 with
  |none=>none
  |some (n,s1)=>if n=0 then(if s1=[] then some [] else none) else match fe s1 128 with
    |none=>none
    |some (f,s2)=>match fe s2 128 with
      |none=>none
      |some (st,s3)=>match fe s3 s3.length with
        |none=>none
        |some (a,s4)=>if(fc a 4096).2≠0\/(dec s4 4096).2≠0 then none else match jl w (dec s4 4096).1,jl w [bs f] with
          | some vs, some q => if (fc a 4096).1.length ≠ vs.length then none else
              if st≠[]/\(ext w st).2≠0 then none else
              if(∀g∈(fc a 4096).1,g<(n:Int)) then(qp (ik (-1) (fc a 4096).1) vs (bs (if st=[] then[] else(ext w st).1)) (n-1) 1 (q.getD 0 default)).map (q.getD 0 default::·) else none
          |_,_=>none
def XH (w:Int) (s:ax):Option a':=if(dec s 4096).2≠0 then none else jl w (dec s 4096).1
def uk (w:Int) (data:ax):Option a':=match dN data 3 with
 |none=>none
 |some (c,r)=>if c=0 then zh w r else if c=1 then YM w r else if c=2 then(XH w r).map (Yh (bs (mr w 48))) else XH w r
def x' (w:Int) (data:ax) (most:Int) (o:Option a'):a'×Nat:=match o with
 |none=>([],12)
 |some l=>if(Y8 w l).2≠0\/(Y8 w l).1≠data then([],12) else if most<(l.length:Int) then([],2) else(l,0)
def tr (w:Int) (data:ax) (most:Int):a'×Nat:=if w<1\/128<w then([],1) else x' w data most (uk w data)
theorem ZhM {c:cj} (h:cd c<4) (r:List Bool):ch (2*((tk c++r).getD 0 false).toNat+((tk c++r).getD 1 false).toNat)=c/\(tk c++r).drop 2=r:=by
 refine⟨?_,rfl⟩;have g:=My c h;rcases(show cd c=0\/cd c=1\/cd c=2\/cd c=3 by omega) with h0|h0|h0|h0
 all_goals
  rw[h0] at g;unfold tk;rw[h0];exact g
theorem So:∀(v:ax) (r:List Bool),(∀c∈v,cd c<4)->kF v (XL v++r)=v
 |[],r,_=>rfl
 |c::v,r,h=>by have k:=h c fi;have e:XL (c::v)++r=tk c++(XL v++r):=(by rfl);obtain⟨h1,g⟩:=ZhM k (XL v++r);rw[gd,e];show ch _::kF v ((tk c++(XL v++r)).drop 2)=_;rw[h1,g,So v r (λx l=>h x (gM _ l))]
theorem RQ (w:Nat):∀(l:a') (r:List Bool),(∀v∈l,gH (w:Int) (aH v)=true)->vb w l (ZR l++r)=l
 |[],r,_=>rfl
 |v::l,r,h=>by
  have p:=ZN.1 (h v fi);have g:(aH v)=w:=O;have e:ZR (v::l)++r=XL (aH v)++(ZR l++r):=(by unfold ZR;grind);rw[gd,e];show bs (kF w _)::vb w l (_:List Bool)=_;have h1:=So (aH v) (ZR l++r) (Zp.1 p.1).1;rw[g] at h1;have k:(XL (aH v)++(ZR l++r)).drop (2*w)=ZR l++r:=by rw[<-g,<-FO];grind
  rw[h1,k,RQ w l r (λx q=>h x (gM _ q)),Zc]
theorem Zc3 (h:ZG w l=true) (g:un l=some s):zh w s=some l:=by obtain⟨h1,q,t,k⟩:=ZH.1 h;unfold un at g;split at g;exact aO;injection g with g;subst g;have p:=ZcI h1;obtain⟨n1,n2⟩:=nrd_bstr (ZR l) O;unfold zh;rw[Ya _ _ k O];simp only[Zc];have:=RQ w.toNat l [] (λv u=>aO);grind
theorem Qq (h:l.length<=4096):(ZL l).length<=4096/\∀s∈ZL l,s.size<=128:=by unfold ZL;refine⟨aO,λs g=> ?_⟩;obtain⟨v,_,rfl⟩:=Vbm.1 g;exact Yb _
theorem QE (h:l.length<=4096):dec (enc (ZL l)).1 4096=(ZL l,0)/\(enc (ZL l)).2=0:=by obtain⟨s1,g⟩:=Qq h;refine⟨?_,by obtain⟨c,_,k⟩:=FT s1 g;rw[k]⟩;rw[Lb s1 g,Vae O]
theorem Tr (h1:∀v∈l,gH w (aH v)=true) (k:l.length<=4096):XH w (enc (ZL l)).1=some l:=by unfold XH;obtain⟨g,_⟩:=QE k;rw[g,Vae (by simp)];exact JZ h1
theorem Zon (x:List Int):∀last,ik last (gp last x)=x:=by
 induction x with
 |nil=>intro _;rfl
 |cons t r ih=>intro last;show(last+1+(t-last-1))::ik (last+1+(t-last-1)) (gp t r)=_;grind
theorem ZmK (l:a') (k:Int):∀x:List Int,pK x (gU l x) k=if k∈x then some (l.getD k.toNat default) else none:=by
 intro x;induction x with
 |nil=>rfl
 |cons i r ih=>show(if i=k then some (l.getD i.toNat default) else pK r (gU l r) k)=_;grind
theorem Zmb {i:Nat} (h1:1<=i) (g:i<l):(i:Int)∈iD l st↔wC l st (i-1)=false:=by unfold iD jL;grind
theorem ZjI (l:a') (st:aT):∀(k i:Nat),1<=i->i+k=l.length->qp (iD l st) (gU l (iD l st)) st k i (l.getD (i-1) default)=some (l.drop i):=by
 intro k;induction k with
 |zero=>intro i _ h;rw[oc O];rfl
 |succ k ih=>
  intro i h1 y;have p:i<l:=O;have hd:l.drop i=l[i]::l.drop (i+1):=kw p;have q:l.getD i default=l[i]:=aO;have u:=ih (i+1) O O;rw[vI,q] at u;unfold qp;rw[ZmK];by_cases t:(i:Int)∈iD l st;exact aO
  have g:wC l st (i-1)=true:=by
   cases h:wC l st (i-1) with
   |true=>rfl
   |false=>exact absurd ((Zmb h1 p).2 h) t
  unfold wC at g;rw[Vax] at g;rw[g,Vag rfl];simp only[Zc];grind
theorem FU (h:l.length<=4096) (st:aT):Zi (iD l st)=true:=by unfold iD;refine Zd.2 ⟨Zbf _ _ _,λt g=> ?_,?_⟩;have:=N0 t g;omega;have:=Lp l st (l.length-1);omega
theorem R2 (l:a'):(aH (ZE l)=[])\/(l≠[]/\ZG ((l.getD 0 default).size:Int) l=true/\jM (aH (ZE l))=true/\ZE l∈zu l):=by
 unfold ZE;by_cases h:l=[]\/ZG ((l.getD 0 default).size:Int) l=false;rw[Vag h];exact .inl rfl;rw[Vae h];simp only[not_or,Bool.not_eq_false] at h
 have key:∀(g:a') (F:aT->Nat) (p:aT×Nat),(g.foldl (Yx F) p).1=p.1\/(g.foldl (Yx F) p).1∈g:=by
  intro g F;induction g with
  |nil=>exact aO
  |cons a r ih=>
   intro p;rcases ih (Yx F p a) with h1|h1
   .have e:(List.foldl (Yx F) p (a::r)).1=(Yx F p a).1:=h1;rw[e];by_cases q:p.2<F a
    .have k:Yx F p a=(a,F a):=by unfold Yx;grind
     grind
    have k:Yx F p a=p:=by unfold Yx;grind
    grind
   grind
 rcases key (zu l) (λd=>(zu l).count d) (bs [],0) with h1|h1;left;unfold stepOf;rw[h1];rfl;right;exact⟨h.1,h.2,WW _ h1,h1⟩
theorem ZqE {M:Int} {l:List Int} :∀ {last:Int},-1<=last->tv last l=true->(∀t∈l,t<=M)->∀g∈gp last l,g<=M:=by
 induction l with
 |nil=>intro _ _ _ _ g k;cases k
 |cons a r ih=>intro last h0 h p g k;obtain⟨h1,q,u⟩:=QR.1 h;rcases jA.1 k with rfl|k;have:=p a fi;omega;grind
theorem Wm (h:ZG w l=true):aH (ZE l)=[]\/(gH w (aH (ZE l))=true/\fw (aH (ZE l))≠[]):=by
 obtain⟨h1,h2,h3,h4⟩:=ZH.1 h;rcases R2 l with h5|⟨h5,_,h6,h7⟩;exact aO;right;refine⟨ZN.2 ⟨He h6,?_⟩,(F_ _).2 (He h6)⟩;obtain⟨j,hj,e⟩:=List.mem_filterMap.1 h7;have xQ:=List.mem_range.1 hj;unfold Bv at e;split at e;.rename_i hc;injection e with e;rw[<-e,Zm];have hk:=(Ta (Prod.ext rfl hc)).2;rw[hk];have hg:l.getD j default=l[j]:=aO;rw[hg];exact(ZN.1 (h1 _ (dt _))).2
 grind
theorem ZnN (X:ax):text (bs X)=bi X.length++X:=rfl
theorem PV {x:List Int} (h:∀i∈x,0<=i/\i<(l.length:Int)):∀v∈gU l x,v∈l:=by intro v g;obtain⟨i,hi,rfl⟩:=Vbm.1 g;grind
theorem L8 :∀i∈iD l st,0<=i/\i<(l.length:Int):=by intro i hi;have:=N0 i hi;grind
theorem Lo (l:a') (st:aT):(iD l st)<=l.length-1:=Lp _ _ _
theorem ZbY (h:ZG w l=true):YM w (vo l)=some l:=by
  obtain⟨h1,a9,b0,E⟩:=ZH.1 h;unfold YM vo;rw[Ya _ _ E O];simp only;by_cases h0:l=[];exact aO;rw[Vae h0,Vae (λe=>h0 (ia e))];obtain⟨q,r,y⟩:∃v r,l=v::r:=by cases l with|nil=>exact absurd rfl h0|cons v r=>exact⟨v,r,rfl⟩
  have a6:l.getD 0 default=q:=(by rw[y];rfl);have a4:=h1 q (by rw[y];exact fi);have z:=FU E (ZE l);have a8:=Lo l (ZE l);have b1:=Yg z;simp only[ZnN,er];have k1:=Yb (aH (l.getD 0 default));have k2:=Yb (aH (ZE l));rw[Yo _ _ k1 O];simp only;rw[Yo _ _ k2 O];simp only;rw[Yo _ _ (by rw[Vab,Vab];omega) O];simp only;have a0:(gU l (iD l (ZE l))).length<=4096:=(by unfold gU;rw[Vah];omega);obtain⟨S,_⟩:=QE a0;rw[S,F2 z,Vae (by simp)];simp only;rw[JZ (λv p=>h1 v (PV L8 v p))];have I:jl w [bs (fw (aH (l.getD 0 default)))]=some [q]:=by rw[a6];exact JZ (l:=[q]) (λv p=>by rw[jv] at p;rw[p];exact a4)
  rw[I];simp only;have a5:(Za (iD l (ZE l))).length=(gU l (iD l (ZE l))).length:=(by unfold Za gU;rw[Y4,Vah]);have Q:¬(fw (aH (ZE l))≠[]/\(ext w (fw (aH (ZE l)))).2≠0):=by rintro⟨B,D⟩;rcases Wm h with k|⟨k,_⟩;rw[k] at B;exact B rfl;have:=Ls (ZN.1 k).1;rw[(ZN.1 k).2] at this;rw[this] at D;exact D rfl
  have F:bs (if fw (aH (ZE l))=[] then[] else(ext w (fw (aH (ZE l)))).1)=ZE l:=by rcases Wm h with k|⟨k,a1⟩;rw[k];have:ZE l=bs []:=(by rw[<-Zc (ZE l),k]);rw[this];rfl;rw[Vae a1];have:=Ls (ZN.1 k).1;rw[(ZN.1 k).2] at this;rw[this,Zc]
  have G:∀g∈Za (iD l (ZE l)),g<(l.length:Int):=by intro g a2;have u:=z;unfold Zi at u;rw[gm] at u;have:=ZqE (M:=(l.length:Int)-1) O u.1 (λt a3=>by have:=L8 t a3;omega) g a2;omega
  rw[Vae (by rw[a5];simp),Vae Q,Vag G,F];have R:ik (-1) (Za (iD l (ZE l)))=iD l (ZE l):=Zon _ _;rw[R];have a7:=ZjI l (ZE l) (l.length-1) 1 O (by(have:0<l.length:=by rw[y];simp);omega);grind
theorem ZiZ (h:ZG w l=true):(∀v∈ly (bs (mr w 48)) l,gH w (aH v)=true)/\Yh (bs (mr w 48)) (ly (bs (mr w 48)) l)=l:=by obtain⟨h1,g,k,p⟩:=ZH.1 h;exact ZbA (by exact Zhh g k) h1
theorem ZfC (h:ZG w l=true) (p:c<=3) (g:kQ c w l=some s):uk w (bi c++s)=some l:=by obtain⟨h1,t,u,k⟩:=ZH.1 h;unfold uk;rw[Ya _ _ p O];simp only;rcases(show c=0\/c=1\/c=2\/c=3 by omega) with rfl|rfl|rfl|rfl;exact Zc3 h g;injection g with g;subst g;exact ZbY h;injection g with g;subst g;obtain⟨q,y⟩:=ZiZ h;unfold HQ;rw[Tr q (by rw[C6];exact k)];grind;injection g with g;subst g;exact Tr h1 k
theorem SP (w:Int) (l:a'):∀k,iB w l k=[]\/∃c s,c<k/\kQ c w l=some s/\iB w l k=bi c++s:=by
 intro k;induction k with
 |zero=>exact .inl rfl
 |succ k ih=>
  have e:iB w l (k+1)=match kQ k w l with
   |none=>iB w l k
   |some s=>if iB w l k=[]\/(bi k++s).length<(iB w l k).length then bi k++s else iB w l k:=rfl
  grind
theorem Md (n:Nat) (s:ax):bi n++s≠[]:=λh=>by have:=congrArg List.length h;rw[Vab,Yq6] at this;simp at this
theorem JY (h:ZG w l=true):∃c s,c<=3/\kQ c w l=some s/\Y8 w l=(bi c++s,0):=by unfold Y8;rcases SP w l 4 with h1|⟨c,s,h1,g,k⟩;exfalso;have e:iB w l 4=if iB w l 3=[]\/(bi 3++DY l).length<(iB w l 3).length then bi 3++DY l else iB w l 3:=rfl;rw[e] at h1;split at h1;exact Md _ _ h1;grind;grind
theorem Zip (h:ZG w l=false):Y8 w l=([],2):=by unfold Y8;grind
theorem Zbc (h:(Y8 w l).2=0):ZG w l=true:=by
 cases g:ZG w l with
 |true=>rfl
 |false=>rw[Zip g] at h;cases h
theorem Zi7 (h:ZG w l=true) (g:c<=3) (p:kQ c w l=some s) (most:Int):
  tr w (bi c++s) most=if(Y8 w l).1≠bi c++s then([],12) else if most<(l.length:Int) then([],2) else(l,0):=by obtain⟨h1,q,t,u⟩:=ZH.1 h;have y:(Y8 w l).2=0:=(by obtain⟨c,s,_,_,k⟩:=JY h;rw[k]);unfold tr x';rw[Vae O,ZfC h g p];grind
theorem Zi8 (h:ZG w l=true) (most:Int):tr w (Y8 w l).1 most=if most<(l.length:Int) then([],2) else(l,0):=by obtain⟨c,s,g,k,p⟩:=JY h;have:=Zi7 h g k most;grind
theorem RJ (w:Int) (data:ax) (most:Int):((w<1\/128<w)/\tr w data most=([],1))\/(1<=w/\w<=128/\(tr w data most=([],12)\/tr w data most=([],2)))\/∃l,tr w data most=(l,0)/\Y8 w l=(data,0)/\ZG w l=true/\(l.length:Int)<=most:=by
 unfold tr;by_cases k:w<1\/128<w;exact aO;rw[Vae k];right;unfold x';match h:uk w data with
 |none=>exact .inl ⟨O,O,.inl rfl⟩
 |some l=>simp only;by_cases h1:(Y8 w l).2≠0\/(Y8 w l).1≠data;exact aO;rw[Vae h1];simp only[not_or,Decidable.not_not] at h1;by_cases g:most<(l.length:Int);exact aO;rw[Vae g];exact .inr ⟨l,rfl,Prod.ext h1.2 h1.1,Zbc h1.1,O⟩
end
variable{A:Wto}{N b:Nat}{l r:a'}{s:aT}{w:aq}
theorem Yl (h:At w A (bz l)) (i:Nat) (hi:i<l):∃b o,A=some ⟨b,o,none⟩/\b<w.heap.size/\w.cell? ⟨b,o+i,none⟩=some (.string l[i]):=
 h.get i _ (YD l i hi)
theorem JS (R:At w A (bz l)) (G:∀s∈l,s.size<=1099511627776) (n cap:Nat) (a1:n=l) (k:n<=9223372036854775807) (W:Int):
  Calls prog 163 #[W,(A,n,cap)] w (bM w (ZG W l)):=by
 have Ha:=J R;obtain⟨I,a3,a0⟩:=bD (λ(v:aT) (q:v∈l) W2=>(by have:=Z7Y W (aH v) Js W2;rw[Zc] at this;exact this:Calls prog 166 #[W,v] W2 (bM W2 (gH W (aH v))))) (bf w w) a1;clear R G a1;go_in;go_wp2;go_loopw [9] (λF wr=>∃j:Nat,j<=n/\F=j/\Hid (∀v∈l.take j,gH W (aH v)=true)/\Hid (Below w w wr)) (λF _=>(n-intOf F).toNat);exact⟨0,cf _,rfl,J (by simp),a3⟩;obtain⟨j,b1,rfl,y,hb⟩:=hrel;by_cases ab:j<n
 .have z:j<l:=iF;obtain⟨b,o,rfl,a9,a6⟩:=Yl (Ha.o.below hb.o) j z;have g:=J (I.o l[j] (dt _));have M:l.take (j+1)=l.take j++[l[j]]:=dK z;have a2:=J (dt z);obtain⟨S,a5⟩:=ay l[j];rw[a5] at a6 g M a2;have a7:=J M;cases q:gH W (aH S) with
  |true=>rw[q] at g;have a8:=J (show ∀v∈l.take (j+1),gH W (aH v)=true from λv k=>by rw[a7.o,lc,jv] at k;rcases k with k|rfl;exact y.o v k;exact q);go_wp21;refine aP (g.o _) λw1 B=>?_;have u:=J (hb.o.trans (B.mono hb.o.size));go_wp2;refine⟨⟨j+1,ab,ci,a8,u⟩,?_⟩;simp[intOf]<;>omega
  |false=>rw[q] at g;have t:=J (show ZG W l=false by cases h:ZG W l;rfl;have:=(ZH.1 h).1 S a2.o;rw[q] at this;cases this);go_wp21;refine aP (g.o _) λw1 B=>?_;have u:=J (hb.o.trans (B.mono hb.o.size));go_wp2;go_returns;exact⟨by rw[t.o];rfl,u.o⟩
 have a4:j=n:=O;have E:=y.o;rw[a4,d' og] at E;have Q:ZG W l=(decide (1<=W)&&decide (W<=128)&&decide (n<=4096)):=by unfold ZG;rw[<-a0.o,uI.2 E,Bool.true_and]
 have t:=J Q;clear y E Q I;by_cases h1:1<=W;.by_cases D:W<=128;by_cases b0:(n:Int)<=4096;have p:n<=4096:=O;rw[dd h1,dd D,dd p] at t;exact E4;have p:¬n<=4096:=O;rw[dd h1,dd D,Vai p] at t;exact E4;rw[dd h1,Vai D] at t;exact E4
 rw[Vai h1] at t;exact E4
theorem Ly (l:a'):(bz l)=l.length:=by unfold bz;rw[Vah]
def QI (F:aT->aT) (l:a') (i:Nat):a':=(l.take i).map F++List.replicate (l.length-i) ⟨#[]⟩
theorem TE (F:aT->aT) (l:a') (i:Nat) (hi:i<=l):(QI F l i)=l.length:=by unfold QI;rw[Vab,Vah,ek,iE];omega
theorem TF (F:aT->aT) (l:a') (i:Nat) (hi:i<l):(QI F l i).set i (F l[i])=QI F l (i+1):=by have g:((l.take i).map F).length=i:=CB;unfold QI;rw[nj _ _ O,g,fh,dK hi,jy,show l.length-i=(l.length-(i+1))+1 by omega,pP,List.set_cons_zero];simp
theorem TC (F:aT->aT) (l:a'):QI F l l.length=l.map F:=by unfold QI;rw[pi,fh,List.replicate_zero,fg]
theorem WQ (F:aT->aT) (l:a'):(bz (QI F l 0)).toArray=Array.replicate l.length (.string ⟨#[]⟩:aI):=by unfold QI;rw[qA,List.map_nil,pU,Nat.sub_zero];exact I7
theorem Dl {g:Nat} {t:TypeId} (h:Bk w g t (bz l).toArray) (i:Nat) (x:aT):Bk (w.setCell (g,i) (.string x)) g t (bz (l.set i x)).toArray:=by have:=h.put i (.string x);rw[List.setIfInBounds_toArray] at this;unfold bz at this⊢;rw[List.map_set];exact this
theorem JI (a3:At w A (bz l)) (G:∀s∈l,s.size<=1099511627776) (n cap:Nat) (D:n=l) (c4:n<=1099511627776):
  Calls prog 276 #[(A,n,cap)] w λx w'=>∃g,x=.returned (.slice (some ⟨g,0,none⟩) n n)/\w.heap.size<=g/\g<w'.heap.size/\At w' (some ⟨g,0,none⟩) (bz (ZL l))/\Below w w w':=by
 have Ha:=J a3;have a6:=J (λ(v:aT) (q:v∈l) W2=>(by have:=Sa (aH v) Js W2;rw[Zc] at this;exact this:Calls prog 169 #[v] W2 (bM W2 (bs (fw (aH v))))));have b5:=Y5 (P:=prog) 23 9 (.string ⟨#[]⟩) 16 underlying23 YN rfl (n:Int) n rfl O O w;have M:=Bk.new w 9 (Array.replicate n (.string ⟨#[]⟩));have a5:=J (ZD w (.cells (Array.replicate n (.string ⟨#[]⟩)) 9));have a2:Array.replicate n (.string ⟨#[]⟩:aI)=(bz (QI (λv=>bs (fw (aH v))) l 0)).toArray:=(by rw[D,WQ]);have a4:=J a2;have a1:w<(w.alloc (.cells (Array.replicate n (.string ⟨#[]⟩)) 9)).heap.size:=Jf;obtain⟨R,F,a0⟩:=bD M a1 D;generalize w.alloc (.cells (Array.replicate n (.string ⟨#[]⟩)) 9)=W0 at*;rw[a4.o] at R;clear a3 G D M a2 a1 a4;go_in;go_wp2;go_loopw [11] (λE wr=>∃j:Nat,j<=n/\E=j/\Hid (Bk wr w 9 (bz (QI (λv=>bs (fw (aH v))) l j)).toArray)/\Hid (Below w w wr)) (λE _=>(n-intOf E).toNat);exact Cq;obtain⟨j,c3,rfl,B,hb⟩:=hrel;by_cases ab:j<n;.have z:j<l:=iF;obtain⟨b,o,rfl,b6,b4⟩:=Yl (Ha.o.below hb.o) j z;have y:=J (a6.o l[j] (dt _));have u:=J (TF (λv=>bs (fw (aH v))) l j z);have t:=TE (λv=>bs (fw (aH v))) l j O;obtain⟨S,b2⟩:=ay l[j];rw[b2] at b4 y u;obtain⟨T,b3⟩:=ay (bs (fw (aH S)));rw[b3] at y u;have a7:=J (show j<(QI (λv=>bs (fw (aH v))) l j).length by rw[t];exact z);have b8:(j:Int)<n:=O;have b9:(0:Int)<=j:=O;go_wp21;refine aP (y.o _) λw1 Q=>?_;have k:=B.o.below Q B.o.lt;have b0:=k.cell j;rw[mF,YD _ _ a7.o] at b0;have b7:=k.frozen j;have I:=Dl k j T;rw[u.o] at I;have a8:=J I;have a9:=J ((hb.o.trans (Q.mono hb.o.size)).setCell (p:=⟨w,j,none⟩) aU (.string T));generalize (QI (λv=>bs (fw (aH v))) l j)[j]=OLD at*;go_wp2;refine⟨⟨j+1,ab,ci,a8,a9⟩,?_⟩;simp[intOf]<;>omega
 have b1:j=n:=O;have k:=B.o;rw[b1,a0.o,TC] at k;have ff:=J k;go_wp2;go_returns;refine⟨_,rfl,aU,ff.o.lt,?_,hb.o⟩;have:=ff.o.at_;rw[Cc] at this;exact this
theorem Ziu {w:Int} (h:∀s∈l,(ext w (aH s)).2=0):jl w l=some (l.map (λs=>bs (ext w (aH s)).1)):=by
 induction l with
 |nil=>rfl
 |cons s r ih=>unfold jl;rw[Vag (h s fi),ih (λx g=>h x (gM _ g))];rfl
theorem Ziv {w:Int} (g:s∈l) (h:(ext w (aH s)).2≠0):jl w l=none:=by
 induction l with
 |nil=>cases g
 |cons a r ih=>unfold jl;by_cases k:(ext w (aH a)).2=0;rw[Vag k];rcases jA.1 g with rfl|g;exact absurd k h;rw[ih g];rfl;rw[Vae k]
def M4 (w:aq) (o:Option a') (x:Ending) (w':aq):Prop:=Below w w w'/\match o with
 |none=>∃A,x=.returned (.tuple #[.slice A 0 0,false])
 |some r=>∃g,x=.returned (.tuple #[.slice (some ⟨g,0,none⟩) r r.length,true])/\w.heap.size<=g/\Bk w' g 9 (bz r).toArray
theorem FP (b1:At w A (bz l)) (G:∀s∈l,s.size<=1099511627776) (n cap:Nat) (a1:n=l) (z:n<=1099511627776) (W:Int):
  Calls prog 248 #[.agg #[W],(A,n,cap)] w λx w'=>M4 w (jl W l) x w':=by
 have a7:=Bk.new w 262 #[W];have I:=ZD w (.cells #[W] 262);have c4:=Y5 (P:=prog) 23 9 (.string ⟨#[]⟩) 16 underlying23 YN rfl (n:Int) n rfl O O (w.alloc (.cells #[W] 262));have M:=Bk.new (w.alloc (.cells #[W] 262)) 9 (Array.replicate n (.string ⟨#[]⟩));have c5:=J (a7.alloc (.cells (Array.replicate n (.string ⟨#[]⟩)) 9));have g:=J (I.alloc I.size (.cells (Array.replicate n (.string ⟨#[]⟩)) 9));have a9:Array.replicate n (.string ⟨#[]⟩:aI)=(bz (QI (λs=>bs (ext W (aH s)).1) l 0)).toArray:=(by rw[a1,WQ]);rw[World.size_alloc] at c4 M;have Ha:=J b1;obtain⟨b7,b3,a8,a0⟩:=dc (λ(v:aT) (q:v∈l) W2=>(by have:=Zme W (aH v) Js W2;rw[Zc] at this;exact this:Calls prog 219 #[W,v] W2 (bM W2 (.tuple #[bs (ext W (aH v)).1,((ext W (aH v)).2:Int)])))) a9 M a1;generalize (w.alloc (.cells #[W] 262)).alloc (.cells (Array.replicate n (.string ⟨#[]⟩)) 9)=W0 at*;rw[b3.o] at a8;clear b1 G a1 M a9 b3 a7 I;go_in;go_wp2;go_loopw [16] (λa2 wr=>∃j:Nat,j<=n/\a2=j/\Hid (∀s∈l.take j,(ext W (aH s)).2=0)/\Hid (Bk wr (w.heap.size+1) 9 (bz (QI (λs=>bs (ext W (aH s)).1) l j)).toArray)/\Hid (Bk wr w 262 #[W])/\Hid (Below w w wr)) (λa2 _=>(n-intOf a2).toNat);exact⟨0,cf _,rfl,J (by simp),a8,c5,g⟩;obtain⟨j,d9,rfl,a4,R,a3,hb⟩:=hrel;by_cases ab:j<n
 .have u:j<l:=iF;obtain⟨b,o,rfl,d5,c8⟩:=Yl (Ha.o.below hb.o) j u;obtain⟨t,b4,D⟩:=bD (b7.o l[j] (dt _)) (dt u) (TF (λs=>bs (ext W (aH s)).1) l j u);have y:=TE (λs=>bs (ext W (aH s)).1) l j O;have a6:l.take (j+1)=l.take j++[l[j]]:=dK u;obtain⟨S,c6⟩:=ay l[j];rw[c6] at c8 t D a6 b4;have c9:=J a6;have b8:=J (show j<(QI (λs=>bs (ext W (aH s)).1) l j).length by rw[y];exact u);have d3:wr.cell? (w,0)=W:=a3.o.cell 0;obtain⟨T,c7⟩:=ay (bs (ext W (aH S)).1);rw[c7] at t D;have d7:(j:Int)<n:=O;have d8:(0:Int)<=j:=O;by_cases Q:(ext W (aH S)).2=0
  .rw[Q] at t;have d1:=J (show ∀v∈l.take (j+1),(ext W (aH v)).2=0 from λv z=>by rw[c9.o,lc,jv] at z;rcases z with z|rfl;exact a4.o v z;exact Q);go_wp21;refine aP (t.o _) λw1 g=>?_;have k:=R.o.below g R.o.lt;have b5:=J (a3.o.below g a3.o.lt);have c3:=k.cell j;rw[mF,YD _ _ b8.o] at c3;have d6:=k.frozen j;have a5:=Dl k j T;rw[D.o] at a5;obtain⟨b9,d2,F⟩:=bD a5 (b5.o.off (p:=⟨w+1,j,none⟩) (by simp) (.string T)) ((hb.o.trans (g.mono hb.o.size)).setCell (p:=⟨w+1,j,none⟩) (by simp) (.string T));generalize (QI (λs=>bs (ext W (aH s)).1) l j)[j]=OLD at*;go_wp2;refine⟨⟨j+1,ab,ci,d1,b9,d2,F⟩,?_⟩;simp[intOf]<;>omega
  have B:=J (Ziv b4.o Q);have d4:(((ext W (aH S)).2:Int) !=0)=true:=eV;generalize ((ext W (aH S)).2:Int)=E at*;go_wp21;refine aP (t.o _) λw1 g=>?_;have F:=J (hb.o.trans (g.mono hb.o.size));go_wp2;go_returns;refine⟨F.o,?_⟩;rw[B.o];exact⟨none,rfl⟩
 have b0:j=n:=O;have k:=R.o;rw[b0,a0.o,TC] at k;have ff:=J k;have b2:=a4.o;rw[b0,d' og] at b2;have B:=J (Ziu b2);have b6:=J (show(l.map (λs=>bs (ext W (aH s)).1)).length=n by rw[Vah,a0.o]);go_wp2;go_returns;refine⟨hb.o,?_⟩;rw[B.o];exact⟨_,by rw[b6.o];rfl,O,ff.o⟩
theorem Zb2 (D:At w A (bz l)) (q:∀s∈l,s.size<=1099511627776) (n cap:Nat) (F:n=l) (a3:n<=4096) (W:Int):
  Calls prog 244 #[.agg #[W],(A,n,cap)] w (bM w (.tuple #[bs (DY l),true])):=by have y:=ZD w (.cells #[W] 262);have G:=J (JI (D.alloc (.cells #[W] 262)) q n cap F O);have z:n=(ZL l):=(by unfold ZL;exact Fh);have E:=Qq (l:=l) O;have k:=J (λM (B:Wto) (c:Nat) (h:At M B (bz (ZL l)))=>X4 h (λs a0=>by have:=E.2 s a0;omega) n c z O);have p:=QE (l:=l) O;have S:((enc (ZL l)).2:Int)=0:=(by rw[p.2];rfl);unfold DY;unfold fZ at k;rw[p.2] at k;have t:=J y;generalize bs (enc (ZL l)).1=SR at*;clear D q F z E p S y;go_in;go_wp21;refine(G.o).mono ?_;rintro x w1 ⟨g,rfl,a2,a1,Q,R⟩;have hb:=t.o.trans (R.mono t.o.size);have I:=J (k.o w1 _ n Q);go_wp21;refine aP I.o λa4 aa=>?_;have u:=hb.trans (aa.mono hb.size);exact ES
def yu (b:Nat) (w:aq) (o:Option a') (x:Ending) (w':aq):Prop:=Fr (only b) w w'/\match o with
 |none=>∃A,x=.returned (.tuple #[.slice A 0 0,false])
 |some r=>∃g,x=.returned (.tuple #[.slice (some ⟨g,0,none⟩) r r.length,true])/\w.heap.size<=g/\Bk w' g 9 (bz r).toArray
theorem Df (s:aT):Zb s 0 (s.size:Int)=(s,bs [],0):=by unfold Zb;rw[Vag rfl,Vae O,Vae O,ep,d' (by rw[Z2];exact aU),oc (by rw[Z2];exact aU),Zc]
theorem Tq (h:RV w b s 0) (c7:s.size<=1000000000) (W:Int):
  Calls prog 217 #[.agg #[W],(b,0)] w λx w'=>yu b w (XH W (aH s)) x w':=by
 have ab:=Bk.lt h;have b8:=Bk.new w 262 #[W];have b7:=ZD w (.cells #[W] 262);have h0:RV (w.alloc (.cells #[W] 262)) b s 0:=Bk.alloc h _;have a9:=J (ZA h0 O);have I:=J (Zr h0 O (s.size:Int));rw[Df] at I;have a7:=J (λE=>QZ (w:=E) s c7 4096);have G:((dec (aH s) 4096).2≠0/\(dec (aH s) 4096).1=[])\/((dec (aH s) 4096).2=0/\(∀t∈(dec (aH s) 4096).1,t.size<=128)/\(dec (aH s) 4096).1.length<=4096):=by rcases XR (aH s) 4096 with (h|h)|⟨l,h,u,d7,d3,c8⟩;rw[h];exact .inl ⟨by simp,rfl⟩;rw[h];exact .inl ⟨by simp,rfl⟩;rw[h];exact .inr ⟨rfl,d3,by simpa using c8⟩
 have c4:XH W (aH s)=if(dec (aH s) 4096).2≠0 then none else jl W (dec (aH s) 4096).1:=rfl;rw[c4];generalize dec (aH s) 4096=D at*;obtain⟨q,e⟩:=D;simp only at G⊢;have a0:(∀t∈q,t.size<=1099511627776)/\q.length<=1099511627776:=by rcases G with ⟨_,p⟩|⟨_,p,d6⟩;rw[p];exact I8;exact⟨λt ht=>by have:=p t ht;omega,O⟩
 obtain⟨a8,d1,b6,b3,M,H⟩:=fA (λE (A:Wto) (cap:Nat) (F:At E A (bz q))=>FP F a0.1 q cap rfl a0.2 W) b8 b7 G ab h;obtain⟨R,a2⟩:=ay ((if e≠0 then none else jl W q));rw[a2];have B:=J a2;go_in;go_wp21;refine cp a9.o ?_;go_wp21;refine aP I.o λw1 ⟨a4,Q⟩=>?_;have b9:=J ((Fr.of_below (S:=only b) b6.o).trans Q);have a5:=J (d1.o.fr Q Ak);have b2:=J (a7.o w1);go_wp21;refine(b2.o).mono ?_;rintro x a6 ⟨v,rfl,⟨A,cap,rfl,F⟩,aa⟩;obtain⟨a1,c9,d2⟩:=bD (b9.o.below aa) (a5.o.below aa a5.o.lt) (a8.o a6 A cap F);have d5:a6.cell? (w,0)=W:=c9.o.cell 0;go_wp21;refine(d2.o).mono ?_;rintro x d8 ⟨b5,y⟩;have a3:=J (a1.o.below b5);have b4:=J a1.o.size;rcases k:jl W q with _|r;rw[k] at y;obtain⟨A2,rfl⟩:=y;have z:=J (show R=none by rw[<-B.o,k];split<;>rfl);exact Rj;rw[k] at y;obtain⟨g,rfl,c5,c6⟩:=y;have b1:=J c6;by_cases u:e=0;.have b0:=J c5;have z:=J (show R=some r by rw[<-B.o,k,Vae (by simpa using u)]);subst u;go_wp2;go_returns;refine⟨a3.o,?_⟩;rw[z.o];exact⟨g,rfl,co b4.o b0.o,b1.o⟩
 have z:=J (show R=none by rw[<-B.o,k,Vag u]);have c3:r.length=0:=by rcases b3.o with ⟨_,p⟩|⟨p,_⟩;rw[p] at k;injection k with k;rw[<-k];rfl;exact absurd p u
 have d4:(((e:Nat):Int)==0)=false:=W4P;rw[c3];exact Rj
theorem TU (v:aT):∀(p:a') (last:aT),ly last (p++[v])=ly last p++[bs (jp (aH v) (aH (p.getLastD last))).1]
 |[],last=>rfl
 |a::r,last=>by rw[jw,ly,TU v r a,ly,jw];cases r<;>rfl
theorem Z1V (v:aT):∀(p:a') (last:aT),Yh last (p++[v])=Yh last p++[bs (jp (aH v) (aH ((Yh last p).getLastD last))).1]
 |[],last=>rfl
 |a::r,last=>by rw[jw,Yh,Z1V v r,Yh,jw];cases r<;>rfl
theorem Q7 (l:a'):∀last,(Yh last l)=l.length:=by
 induction l with
 |nil=>intro _;rfl
 |cons v r ih=>intro last;simp[Yh,ih]
theorem Th (p:a') (v d:aT):(p++[v]).getLastD d=v:=by rw[List.getLastD_eq_getLast?,List.getLast?_concat];rfl
theorem Za5 (a b:ax):(jp a b).1<=a.length:=by unfold jp;split;exact cf _;split;exact cf _;show(List.zipWith mx a b).length<=_;rw[Ah];omega
theorem Vm (w:Int) (c:cj):(mr w c).length<=128:=by unfold mr;split;exact cf _;rename_i h;rw[iE];omega
theorem y_ {p:a'} {x y:aT} {j:Nat} (h:p=j):(p++x::r).set j y=(p++[y])++r:=by rw[nj _ _ O,h,fh,List.set_cons_zero,er];rfl
theorem Zbz (h:∀s∈l,s.size<=N):∀last,∀s∈ly last l,s.size<=N:=by
 induction l with
 |nil=>intro last s g;cases g
 |cons v r ih=>intro last s g;rcases jA.1 g with rfl|g;exact PN;exact ih (λx k=>h x (gM _ k)) v s g
theorem W8 (a b:aT) (g:a.size<=1099511627776) (hb:b.size<=1099511627776) (W:aq):
  cK 250 #[a,b] W (bM W (.tuple #[bs (jp (aH a) (aH b)).1,((jp (aH a) (aH b)).2:Int)])):=by have:=Zhx (aH a) (aH b) (by rw[Z2];exact g) (by rw[Z2];exact hb) W;rw[Zc,Zc] at this;exact this
def sd (last:aT) (l:a') (j:Nat):a':=ly last (l.take j)++List.replicate (l.length-j) ⟨#[]⟩
theorem ZmS (last:aT) (l:a'):(bz (sd last l 0)).toArray=Array.replicate l.length (.string ⟨#[]⟩:aI):=by unfold sd;rw[qA,Nat.sub_zero];show(bz (List.replicate l.length ⟨#[]⟩)).toArray=_;exact I7
theorem ZeI (last:aT) (l:a') (j:Nat) (h:j<l):(sd last l j).set j (bs (jp (aH l[j]) (aH ((l.take j).getLastD last))).1)=sd last l (j+1):=by unfold sd;rw[show l.length-j=(l.length-(j+1))+1 by omega,pP,y_ (by rw[C6,ek];omega),<-TU,<-dK h]
theorem ZeH (last:aT) (l:a') (j:Nat) (h:j<=l):(sd last l j)=l.length:=by unfold sd;rw[Vab,C6,ek,iE];omega
theorem ZeG (last:aT) (l:a'):sd last l l.length=ly last l:=by unfold sd;rw[pi,fh,List.replicate_zero,fg]
theorem ZaX (b9:At w A (bz l)) (z:∀s∈l,s.size<=1099511627776) (n cap:Nat) (G:n=l) (g2:n<=4096) (W:Int):
  Calls prog 243 #[.agg #[W],(A,n,cap)] w (bM w (.tuple #[bs (HQ W l),true])):=by
 have b6:=Bk.new w 262 #[W];have a1:=ZD w (.cells #[W] 262);have d5:=Y5 (P:=prog) 23 9 (.string ⟨#[]⟩) 16 underlying23 YN rfl (n:Int) n rfl O O (w.alloc (.cells #[W] 262));have a2:=Bk.new (w.alloc (.cells #[W] 262)) 9 (Array.replicate n (.string ⟨#[]⟩));have b3:=b6.alloc (.cells (Array.replicate n (.string ⟨#[]⟩)) 9);have t:=J (a1.alloc a1.size (.cells (Array.replicate n (.string ⟨#[]⟩)) 9));obtain⟨Z,F⟩:=ay (bs (mr W 48));have a8:Z.size<=128:=(by rw[<-F,Z0];exact Vm W 48);have b8:Array.replicate n (.string ⟨#[]⟩:aI)=(bz (sd Z l 0)).toArray:=(by rw[G,ZmS]);have c4:=J (λk=>Z4S W 48 k);rw[F,show(((48:cj).toNat:Nat):Int)=48 from rfl] at c4;rw[World.size_alloc] at d5 a2;have b1:((w.alloc (.cells #[W] 262)).alloc (.cells (Array.replicate n (.string ⟨#[]⟩)) 9)).cell? (w,0)=W:=b3.cell 0;obtain⟨Ha,c9,d7,c3,a4,a0⟩:=fA b9 (λ(v u:aT) (e6:v∈l) (e5:u.size<=1099511627776) k=>W8 v u (z v e6) e5 k) z b8 a2 G;have a7:n=(ly Z l):=(by rw[C6];exact G);have c8:=J (λ(k:aq) (B:Wto) (h:At k B (bz (ly Z l)))=>JI h (Zbz z Z) n n a7 O);have b7:n=(ZL (ly Z l)):=(by unfold ZL;rw[Vah];exact a7);have c6:=Qq (l:=ly Z l) O;have I:=J (λk (B:Wto) (c:Nat) (h:At k B (bz (ZL (ly Z l))))=>X4 h (λs e4=>by have:=c6.2 s e4;omega) n c b7 O);have b4:=QE (l:=ly Z l) O;unfold HQ;rw[F];unfold fZ at I;rw[b4.2] at I;generalize bs (enc (ZL (ly Z l))).1=SR at*;generalize (w.alloc (.cells #[W] 262)).alloc (.cells (Array.replicate n (.string ⟨#[]⟩)) 9)=W0 at*;rw[c3.o] at a4;have d1:=J a8;clear b9 z G a2 b8 c3 b6 a1 b3 a7 b7 c6 b4 F a8;go_in;go_wp21;refine aP (c4.o _) λw1 c5=>?_;have R:=J (t.o.trans (c5.mono t.o.size));have gk:=J (a4.o.below c5 a4.o.lt);go_wp2;go_loopw [7,20] (λe8 M wr=>∃j:Nat,j<=n/\M=j/\e8=.string ((l.take j).getLastD Z)/\Hid (Bk wr (w.heap.size+1) 9 (bz (sd Z l j)).toArray)/\Hid (Below w w wr)) (λ_ M _=>(n-intOf M).toNat);exact⟨0,cf _,rfl,rfl,gk,R⟩;obtain⟨j,g1,rfl,rfl,a5,hb⟩:=hrel;by_cases ab:j<n
 .have D:j<l:=iF;obtain⟨b,o,rfl,f6,e3⟩:=Yl (Ha.o.below hb.o) j D;have f2:((l.take j).getLastD Z).size<=1099511627776:=by rcases a6:(l.take j).getLast? with _|u;rw[List.getLastD_eq_getLast?,a6];have:=d1.o;show Z.size<=_;omega;rw[List.getLastD_eq_getLast?,a6];exact d7.o u (Ag (List.mem_of_getLast? a6))
  have a3:=J (c9.o l[j] ((l.take j).getLastD Z) (dt _) f2);have Q:=J (ZeI Z l j D);have y:=ZeH Z l j O;have b5:l.take (j+1)=l.take j++[l[j]]:=dK D;obtain⟨S,e1⟩:=ay l[j];rw[e1] at e3 a3 Q b5;have d8:=J (show S=(l.take (j+1)).getLastD Z by rw[b5,Th]);have d2:=J (show j<(sd Z l j) by rw[y];exact D);obtain⟨T,e2⟩:=ay (bs (jp (aH S) (aH ((l.take j).getLastD Z))).1);rw[e2] at a3 Q;generalize ((jp (aH S) (aH ((l.take j).getLastD Z))).2:Int)=E at*;generalize (l.take j).getLastD Z=U at*;have f8:(j:Int)<n:=O;have g0:(0:Int)<=j:=O;go_wp21;refine aP (a3.o _) λw1 t=>?_;have q:=a5.o.below t a5.o.lt;have b1:=q.cell j;rw[mF,YD _ _ d2.o] at b1;have f7:=q.frozen j;have b2:=Dl q j T;rw[Q.o] at b2;have d3:=J b2;have R:=J ((hb.o.trans (t.mono hb.o.size)).setCell (p:=⟨w+1,j,none⟩) (by simp) (.string T));generalize (sd Z l j)[j]=OLD at*;go_wp2;refine⟨⟨j+1,ab,ci,by rw[<-d8.o],d3,R⟩,?_⟩;simp[intOf]<;>omega
 have d9:j=n:=O;have q:=a5.o;rw[d9,a0.o,ZeG] at q;have b0:=q.at_;rw[Cc] at b0;have c7:=J (c8.o wr _ b0);generalize (l.take j).getLastD Z=U at*;go_wp21;refine(c7.o).mono ?_;rintro x f3 ⟨g,rfl,f9,f5,d6,aa⟩;have a9:=hb.o.trans (aa.mono hb.o.size);have f4:=J (I.o f3 _ n d6);go_wp21;refine aP f4.o λg3 d4=>?_;have e7:=a9.trans (d4.mono a9.size);go_wp2;go_returns;exact⟨rfl,e7⟩
theorem RO (h:∀s∈l,s.size<=N):∀last,∀s∈Yh last l,s.size<=N:=by
 induction l with
 |nil=>intro last s g;cases g
 |cons v r ih=>intro last s g;rcases jA.1 g with rfl|g;exact PN;exact ih (λx k=>h x (gM _ k)) _ s g
def th (last:aT) (l:a') (j:Nat):a':=Yh last (l.take j)++l.drop j
theorem ZgT (last:aT) (l:a') (j:Nat) (h:j<l):(th last l j).set j (bs (jp (aH l[j]) (aH ((Yh last (l.take j)).getLastD last))).1)=th last l (j+1):=by unfold th;rw[kw h,y_ (by rw[Q7,ek];omega),<-Z1V,<-dK h]
theorem ZgS (last:aT) (l:a') (j:Nat) (h:j<=l):(th last l j)=l.length:=by unfold th;rw[Vab,Q7,ek,iW];omega
theorem Zkg (last:aT) (l:a') (j:Nat) (h:j<l):(bz (th last l j))[j]? =some (.string l[j]):=by unfold th bz;rw[jX,pO (by rw[Q7,ek];omega),Q7,ek,show j-min j l.length=0 by omega,List.getElem?_drop,tS,fb h];rfl
theorem ZgR (last:aT) (l:a'):th last l l.length=Yh last l:=by unfold th;rw[pi,wY,fg]
theorem Zqg (last:aT) (l:a') (j:Nat) (h:j<l):(Yh last (l.take (j+1))).getLastD last=bs (jp (aH l[j]) (aH ((Yh last (l.take j)).getLastD last))).1:=by rw[dK h,Z1V,Th]
theorem Z9f {last:aT} (h:∀s∈l,s.size<=N) (g:last.size<=N) (j:Nat):((Yh last (l.take j)).getLastD last).size<=N:=by rw[List.getLastD_eq_getLast?];rcases k:(Yh last (l.take j)).getLast? with _|u;exact g;exact RO (λs p=>h s (Ag p)) last u (List.mem_of_getLast? k)
theorem QO {W:Int} {s:ax} (h:XH W s=some r):(∀v∈r,v.size<=128)/\r.length<=4096:=by unfold XH at h;split at h;cases h;obtain⟨h1,g⟩:=Z1A h;refine⟨λv p=> ?_,?_⟩;have:=(Zp.1 (ZN.1 (h1 v p)).1).2.2;rw[Z2] at this;exact this;rw[g];rcases XR s 4096 with (h|h)|⟨l,h,_,_,_,k⟩;rw[h];exact cf _;rw[h];exact cf _;rw[h];exact k
theorem Zc0 (h:RV w b s 0) (e4:s.size<=1000000000) (W:Int):
  Calls prog 216 #[.agg #[W],(b,0)] w λx w'=>yu b w ((XH W (aH s)).map (Yh (bs (mr W 48)))) x w':=by
 have ab:=Bk.lt h;have b5:=Bk.new w 262 #[W];have d6:=ZD w (.cells #[W] 262);have h0:RV (w.alloc (.cells #[W] 262)) b s 0:=Bk.alloc h _;have c5:=J (Tq h0 e4 W);have b0:=J (λa1=>Z4S W 48 a1);obtain⟨Z,a7⟩:=ay (bs (mr W 48));have c8:Z.size<=128:=(by rw[<-a7,Z0];exact Vm W 48);rw[a7,show(((48:cj).toNat:Nat):Int)=48 from rfl] at b0;rw[a7];have f2:(w.alloc (.cells #[W] 262)).cell? (w,0)=W:=b5.cell 0;have a8:=λr=>QO (W:=W) (s:=aH s) (r:=r);generalize XH W (aH s)=k at*;have I:=J (rfl:k.map (Yh Z)=k.map (Yh Z));obtain⟨R,b8⟩:=ay (k.map (Yh Z));rw[b8];obtain⟨I,e6,d5,c9,d1,M⟩:=fA b8 b5 d6 c8 a8 ab;have d2:(w.alloc (.cells #[W] 262))=w.heap.size+1:=World.size_alloc _ _;have Q:=J d2;go_in;go_wp21;refine(c5.o).mono ?_;rintro x w1 ⟨b4,c4⟩;have b7:=J ((Fr.of_below (S:=only b) d5.o).trans b4);have d7:=e6.o.fr b4 Ak;have f3:w1.cell? (w,0)=W:=d7.cell 0;rcases k with _|r;.obtain⟨A,rfl⟩:=c4;have a2:=J (show R=none from I.o.symm);go_wp21;refine aP (b0.o _) λe9 aa=>?_;have z:=J (b7.o.below aa);go_wp2;go_loopw [22] (λy wr=>y=(0:Int)/\Hid (Fr (only b) w wr)) (λ_ _=>0);exact⟨rfl,z⟩;obtain⟨rfl,G⟩:=hrel;go_wp2;go_returns;refine⟨G.o,?_⟩;rw[a2.o];exact⟨_,rfl⟩
 obtain⟨g,rfl,f7,t⟩:=c4;have a2:=J (show R=some (Yh Z r) from I.o.symm);have b1:=J (show w.heap.size+1<=g by have:=Q.o;omega);have a3:=d1.o r rfl;have b2:=J t;have d9:=J a3.1;have d8:=a3.2;have c7:=J (λ(v u:aT) (e5:v∈r) (f9:u.size<=128) a1=>W8 v u (by have:=a3.1 v e5;omega) O a1);obtain⟨n,c3⟩:=ay r.length;have a0:=J c3;rw[c3] at d8⊢;go_wp21;refine aP (b0.o _) λe9 aa=>?_;have z:=J (b7.o.below aa);have gk:=J (b2.o.below aa b2.o.lt);go_wp2;go_loopw [8,22] (λe7 y wr=>∃j:Nat,j<=n/\y=j/\e7=.string ((Yh Z (r.take j)).getLastD Z)/\Hid (Bk wr g 9 (bz (th Z r j)).toArray)/\Hid (Fr (only b) w wr)) (λ_ y _=>(n-intOf y).toNat);exact⟨0,cf _,rfl,rfl,gk,z⟩;obtain⟨j,f8,rfl,rfl,t,G⟩:=hrel;by_cases ab:j<n
 .have F:j<r.length:=xh;have b9:=t.o.cell j;rw[mF,Zkg Z r j F] at b9;have e8:=Z9f (l:=r) d9.o c9.o j;have a5:=J (c7.o r[j] _ (dt _) e8);have D:=J (ZgT Z r j F);have B:=ZgS Z r j O;have a6:=J (Zqg Z r j F);obtain⟨S,e2⟩:=ay r[j];rw[e2] at b9 a5 D a6;have b3:=J (show j<(th Z r j) by rw[B];exact F);obtain⟨T,e3⟩:=ay (bs (jp (aH S) (aH ((Yh Z (r.take j)).getLastD Z))).1);rw[e3] at a5 D a6;generalize ((jp (aH S) (aH ((Yh Z (r.take j)).getLastD Z))).2:Int)=E at*;generalize (Yh Z (r.take j)).getLastD Z=U at*;have f5:(j:Int)<n:=O;have f6:(0:Int)<=j:=O;go_wp21;refine aP (a5.o _) λw1 b6=>?_;have q:=t.o.below b6 t.o.lt;have d4:=q.cell j;rw[mF,YD _ _ b3.o] at d4;have f4:=q.frozen j;have a4:=Dl q j T;rw[D.o] at a4;have d3:=J a4;have g0:(w1.setCell (g,j) (.string T)).cell? (g,j)=T:=by rw[a4.cell j,<-D.o,mF];unfold bz;rw[jX,List.getElem?_set_self b3.o];rfl
  have z:=J ((G.o.below b6).setCell (p:=⟨g,j,none⟩) (.inr (by have:=b1.o;exact dz)) (.string T));generalize (th Z r j)[j]=OLD at*;go_wp2;refine⟨⟨j+1,ab,ci,by rw[a6.o],d3,z⟩,?_⟩;simp[intOf]<;>omega
 have e1:j=n:=O;have q:=t.o;rw[e1,<-a0.o,ZgR] at q;have ff:=J q;have c6:=J (show(Yh Z r).length=n by rw[Q7,a0.o]);generalize (Yh Z (r.take j)).getLastD Z=U at*;go_wp2;go_returns;refine⟨G.o,?_⟩;rw[a2.o];exact⟨g,by rw[c6.o];rfl,by have:=b1.o;omega,ff.o⟩
theorem YK (a:List Int) (x:Int):bO (a++[x])=bO a++[.int .i64 x]:=by simp[bO,iv]
theorem WB (a b:aT) (g:a.size<=1099511627776) (hb:b.size<=1099511627776) (W:aq):
  cK 249 #[a,b] W (bM W (.tuple #[bs (qc (aH a) (aH b)).1,.bool (qc (aH a) (aH b)).2])):=by have:=Zhn (aH a) (aH b) (by rw[Z2];exact g) (by rw[Z2];exact hb) W;rw[Zc,Zc] at this;exact this
theorem zb {i:Nat} (h:i<l):l.getD i default=l[i]:=by rw[pf,fb h];rfl
theorem Zhr (b3:At w A (bz l)) (a7:∀s∈l,s.size<=1099511627776) (n cap:Nat) (b5:n=l) (g9:n<=4096) (st:aT) (a6:st.size<=1099511627776):
  Calls prog 275 #[(A,n,cap),st] w λx w'=>∃v,x=.returned v/\IRes w' v (iD l st)/\Below w w w':=by
 obtain⟨Ha,a0,c5,f7,d6⟩:=ii b3 b5 (λ(v:aT) (a2:v∈l) y=>WB v st (a7 v a2) a6 y) (Zl (w:=w) (base:=w.heap.size) (e:=3) (size:=1)) (bf w w);clear b3 b5 a7 a6;go_in;go_wp2;go_loopw [5,6] (λf5 a3 wr=>∃k:Nat,(k=0\/k+1<=n)/\a3=((k:Int)+1:Int)/\Hid (wr.ownsRow w 3 1 f5 (jL l st k) (bO (jL l st k)))/\Hid (Below w w wr)) (λ_ a3 _=>(n-intOf a3).toNat);exact⟨0,.inl rfl,rfl,f7,d6⟩;obtain⟨k,g8,rfl,I,hb⟩:=hrel;obtain⟨A5,a5,b0,rfl⟩:=Z7 I.o;by_cases ab:k+1<n
 .have a9:k+1<l.length:=iF;have b9:k<l:=O;obtain⟨b,o,rfl,g4,e6⟩:=Yl (Ha.o.below hb.o) k b9;have c7:∀y,Below wr wr y->y.cell? (b,o+(k+1))=some (.string l[k+1]):=λy e5=>by obtain⟨g1,h0,R,_,e4⟩:=Yl ((Ha.o.below hb.o).mono aU e5) (k+1) a9;injection R with R;injection R with h1 D;subst h1;subst D;exact e4
  have b6:=J c7;have z:=J (c5.o l[k] (dt _));have E:wC l st k=decide (qc (aH l[k]) (aH st)=(aH l[k+1],true)):=by unfold wC;rw[zb b9,zb a9]
  have f6:=Zit l st k;have e7:=Lp l st k;obtain⟨c8,f2⟩:=ay l[k];obtain⟨u,f3⟩:=ay l[k+1];rw[f2] at e6 z E;rw[f3] at b6 E;obtain⟨⟨r,q⟩,hr⟩:=ay (qc (aH c8) (aH st));rw[hr] at z E;simp only at z;have e9:wC l st k=(q&&decide (bs r=u)):=by rw[E,lN,gm,Vax,Vax,Prod.mk.injEq];constructor;rintro⟨h1,D⟩;exact⟨D,by rw[h1,Zc]⟩;rintro⟨h1,D⟩;exact⟨by rw[<-D,Zm],h1⟩
  have f8:=J e9;have c6:=J f6
  have e3:∀X:aT,bs r=X->(if q=true/\X=u then jL l st (k+1)=jL l st k else jL l st (k+1)=jL l st k++[(k:Int)+1]):=λX F=>by subst F;rw[c6.o,f8.o];by_cases G:q=true;by_cases t:bs r=u;rw[Vag ⟨G,t⟩,G,dd t];rfl;rw[Vae (λh=>t h.2),Vai t,Bool.and_false,Vae (by simp)];rw[Vae (λh=>G h.1),Vae (by simp[G])]
  obtain⟨X,F⟩:=ay (bs r);have a4:=J (e3 X F);rw[F] at z;have f4:(jL l st k).length+1<=4096:=O;have b1:=J f4;have i1:IntKind.i64.wrap ((k:Int)+1-1)=(k:Int):=pn;have g3:(0:Int)<=k:=O;have g0:(k:Int)<n:=O;have g2:(k:Int)+1<(n:Int):=O;have g6:(k:Int)+1-1=(k:Int):=O;go_wp21;refine aP (z.o _) λw1 Q=>?_;have d8:=b6.o w1 Q;have b4:w1.cell? (b,o+((k:Int)+1).toNat)=u:=by rw[show((k:Int)+1).toNat=k+1 by omega];exact d8
  have g7:((k:Int)+1).toNat=k+1:=O;have a8:=Z6 I.o (Fr.of_below (S:=nob) Q) (λ_ _ f=>f);have M:=J (hb.o.trans (Q.mono hb.o.size));obtain⟨v',b8,d3,d5,d2,_⟩:=ZU (P:=prog) 103 3 _ _ underlying103 Y2 rfl (w:=w1) a8 M.o M.o.size ((k:Int)+1:Int) rfl (by have:=b1.o;exact fU) (by have:=b1.o;omega);obtain⟨b7,p,B,d7⟩:=dc d3 d5 d2 a8;cases q;have g:=J (show jL l st (k+1)=jL l st k++[(k:Int)+1] by have:=a4.o;rwa [Vae (by simp)] at this);exact N9;by_cases t:X=u;.have g:=J (show jL l st (k+1)=jL l st k by have:=a4.o;rwa [Vag ⟨rfl,t⟩] at this);have c9:(X.toList !=u.toList)=false:=(by rw[Ky,t];simp);have a1:(X.toList==u.toList)=true:=(by rw[Qw,t];simp);have c3:=J (show w1.ownsRow w 3 1 (.slice A5 a5 b0) (jL l st (k+1)) (bO (jL l st (k+1))) by rw[g.o];exact d7.o);go_wp2;refine⟨⟨k+1,.inr ab,ci,c3,M⟩,?_⟩;simp[intOf]<;>omega
  have g:=J (show jL l st (k+1)=jL l st k++[(k:Int)+1] by have:=a4.o;rwa [Vae (λh=>t h.2)] at this);have c9:(X.toList !=u.toList)=true:=(by rw[Ky,Vai t];rfl);have a1:(X.toList==u.toList)=false:=(by rw[Qw,Vai t]);have f9:=b7;exact N9
 have d9:n-1=k:=O;have g5:¬(k:Int)+1<(n:Int):=O;have d1:Hid (IRes wr (.slice A5 a5 b0) (iD l st)):=J (by obtain⟨c4,e8,a2,d4⟩:=Zh I.o;unfold iD;rw[<-a0.o,d9];exact⟨c4,e8,a2,d4⟩);go_wp2;go_returns;exact⟨_,rfl,d1.o,hb.o⟩
end Go.Proofs.Y
namespace Wv
open Go.Proofs.Tryz Go Go.RowKit
open Classical in
noncomputable def lk (l:List MapEntry) (k:Value):Option Value:=(l.find? (λe=>decide (e.key=k))).map (·.val)
theorem Qj {e:MapEntry} {t:List MapEntry} {k:aI} (h:e.key=k):lk (e::t) k=some e.val:=by unfold lk;grind
theorem YB {e:MapEntry} {t:List MapEntry} {k:aI} (h:e.key≠k):lk (e::t) k=lk t k:=by unfold lk;grind
theorem Hh {d:TypeDesc} {k:aI} (E:MapKept.IsKey d k):∀(l:List MapEntry) (i:Nat),(∀x∈l,MapKept.IsKey d x.key)->
  (Instr.findNow d k l i=some none/\lk l k=none)\/∃j v,Instr.findNow d k l i=some (some (i+j,v))/\lk l k=some v/\(∃e,l[j]? =some e/\e.key=k)/\
   ∀u,lk (l.modify j λe=> { e with key:=k,val:=u }) k=some u/\∀k',k'≠k->lk (l.modify j λe=> { e with key:=k,val:=u }) k'=lk l k'
 |[],i,_=>.inl ⟨rfl,rfl⟩
 |e::t,i,h=>by
  obtain⟨r,B,F⟩:=MapKept.sameNow_of_keys E (h e (.head _));cases r with
  |true=>have D:=F.1 rfl;refine .inr ⟨0,e.val,by simp[Instr.findNow,B],Qj D.symm,⟨e,rfl,D.symm⟩,λu=>⟨?_,λk' p=> ?_⟩⟩;show lk ({ e with key:=k,val:=u } ::t) k=_;rw[Qj rfl];show lk ({ e with key:=k,val:=u } ::t) k'=_;rw[YB (λh=>p h.symm),YB (λh=>p aO)]
  |false=>have y:e.key≠k:=λq=>aO;rcases Hh E t (i+1) (λx M=>h x (.tail _ M)) with ⟨h1,z⟩|⟨j,v,h1,z,⟨G,Q,I⟩,h5⟩;exact .inl ⟨by simp[Instr.findNow,B,h1],by rw[YB y,z]⟩;refine .inr ⟨j+1,v,by simp[Instr.findNow,B,h1];omega,by rw[YB y,z],⟨G,aO,I⟩,λu=>⟨?_,λk' p=> ?_⟩⟩;show lk (e::t.modify j _) k=_;rw[YB y];grind;show lk (e::t.modify j _) k'=_;by_cases g:e.key=k';rw[Qj g,Qj g];rw[YB g,YB g];exact(h5 u).2 k' p
theorem b_ (l:List MapEntry) (e:MapEntry) (h:lk l e.key=none):lk (l++[e]) e.key=some e.val/\∀k,k≠e.key->lk (l++[e]) k=lk l k:=by
 induction l with
 |nil=>exact⟨Qj rfl,λk q=>YB (λh=>q h.symm)⟩
 |cons a t ih=>by_cases p:a.key=e.key;rw[Qj p] at h;cases h;rw[YB p] at h;obtain⟨i1,u⟩:=ih h;refine⟨?_,λk q=> ?_⟩;rw[jw,YB p,i1];rw[jw];by_cases g:a.key=k;rw[Qj g,Qj g];rw[YB g,YB g,u k q]
def eC (d:TypeDesc) (w:aq) (b:Nat) (M:aI->Option aI):Prop:=∃es clock,w.heap[b]? =some (.map es clock)/\(∀x∈es.toList,MapKept.IsKey d x.key)/\∀k,MapKept.IsKey d k->lk es.toList k=M k
section
variable {P:Program} {d:TypeDesc} {w w':aq} {b:Nat} {M:aI->Option aI} {t kt et:TypeId}
theorem eC.lt (h:eC d w b M):b<w:=by obtain⟨es,c,h1,_⟩:=h;grind
theorem eC.of (h:eC d w b M) (k:w'.heap[b]? =w.heap[b]?):eC d w' b M:=by obtain⟨es,c,h1,g⟩:=h;exact⟨es,c,k.trans h1,g⟩
theorem eC.below {B:Nat} (h:eC d w b M) (hb:Below B w w') (g:b<B):eC d w' b M:=h.of (hb.block b g)
theorem eC.fr {S:Nat->Prop} (h:eC d w b M) (k:Fr S w w') (g:¬S b):eC d w' b M:=h.of (k.block b h.lt g)
theorem eC.drew (h:eC d w b M):eC d w.drew b M:=h
theorem eC.drewN (h:eC d w b M) (n:Nat):eC d (w.drewN n) b M:=h
theorem eC.alloc (h:eC d w b M) (o:Obj):eC d (w.alloc o) b M:=h.of (Below.heap_alloc w o b h.lt)
theorem eC.new (d:TypeDesc) (w:aq):eC d (w.alloc (.map #[] 0)) w (λ_=>none):=⟨#[],0,heap_alloc_new w _,(λx g=>aO),λk _=>rfl⟩
theorem eC.get (ht:P.underlying t=some (.map kt et)) (hd:P.underlying kt=some d) (h:eC d w b M) (k v:aI) (p:MapKept.IsKey d k) (y:M k=some v):
  (Instr.lookup t (.map (some b)) k false).run P w=.ok v w/\(Instr.lookup t (.map (some b)) k true).run P w=.ok (.tuple #[v,true]) w:=by obtain⟨es,c,h1,q,u⟩:=h;have g:=λe=>MapKept.run_checkKey (w:=w) hd p e 9999;rcases Hh p es.toList 0 q with ⟨f1,l⟩|⟨j,z,f1,l,_,_⟩;exact aO;rw[u k p,y] at l;injection l with l;subst l;constructor;exact OP;exact OP
theorem eC.miss (ht:P.underlying t=some (.map kt et)) (hd:P.underlying kt=some d) (h:eC d w b M) (k z:aI) (l:MapKept.IsKey d k) (B:M k=none) (u:(zeroValue et).run P w=.ok z w):
  (Instr.lookup t (.map (some b)) k false).run P w=.ok z w/\(Instr.lookup t (.map (some b)) k true).run P w=.ok (.tuple #[z,false]) w:=by obtain⟨es,c,h1,q,y⟩:=h;have g:=λe=>MapKept.run_checkKey (w:=w) hd l e 9999;rcases Hh l es.toList 0 q with ⟨f1,p⟩|⟨j,D,f1,p,_,_⟩;constructor;exact Oi;exact Oi;grind
theorem eC.put (R:P.underlying t=some (.map kt et)) (hd:P.underlying kt=some d) (h:eC d w b M) (k v:aI) (u:MapKept.IsKey d k):
  ∃w',(Instr.mapUpdate t (.map (some b)) k v).run P w=.ok () w'/\(∀l,l k=some v->(∀x,x≠k->l x=M x)->eC d w' b l)/\Fr (λj=>j=b) w w'/\w'.heap.size=w.heap.size:=by have ab:=h.lt;obtain⟨es,c,h1,G,I⟩:=h;have D:=MapKept.run_checkKey (w:=w) hd u false 9999;have E:∀o,Fr (λj=>j=b) w { w with heap:=w.heap.setIfInBounds b o } :=λo=>⟨rfl,rfl,rfl,by simp,λr a2 a1=>aO⟩;rcases Hh u es.toList 0 G with ⟨f1,q⟩|⟨j,v',f1,q,⟨e,S,F⟩,f5⟩;refine⟨{ w with heap:=w.heap.setIfInBounds b (.map (es.push { key:=k,val:=v,born:=c }) (c+1)) },?_,λl p z=> ?_,E _,by simp⟩;unfold Instr.mapUpdate;simp only[Sem.run_bind,run_underlying R,Result.andThen_ok,MapKept.run_getObj_map h1,D,MapKept.run_findKey hd f1,MapKept.run_setObj_map _ h1];refine⟨_,_,(MapKept.heap_set h1).1,?_,?_⟩;exact aO;intro x y;rw[Array.toList_push];by_cases g:x=k;subst g;rw[p];exact(b_ _ { key:=x,val:=v,born:=c } q).1;rw[z x g,<-I x y];exact(b_ _ { key:=k,val:=v,born:=c } q).2 x g;have Q:es[j]? =some e:=(by simpa using S);refine⟨{ w with heap:=w.heap.setIfInBounds b (.map (es.modify j λe=> { e with key:=k,val:=v }) c) },?_,λl p z=> ?_,E _,by simp⟩;simp[Instr.mapUpdate,run_underlying R,MapKept.run_getObj_map h1,D,MapKept.run_findKey hd f1,Q,F,MapKept.run_keyThatStays u,MapKept.run_setObj_map _ h1,Result.andThen];refine⟨_,_,(MapKept.heap_set h1).1,?_,?_⟩;exact MapKept.isKey_modify G _ _ (λa0 B=>by rw[Q] at B;cases B;exact F.symm);intro x y;rw[Array.toList_modify];by_cases g:x=k;subst g;rw[p];exact(f5 v).1;rw[z x g,<-I x y];exact(f5 v).2 x g
end
