import Derived.Test.YtnjkjoklnephcaaGreatDoorF11
import Derived.Test.YtnjkjoklnephcaaGreatDoorF17
set_option linter.all false
set_option maxRecDepth 100000
set_option maxHeartbeats 0
section
variable{P Q:Prop}
theorem Fc(h:P:=by unfold only;omega):P:=h
theorem Js(h:P:=by rw[Z2];exact G v q):P:=h
theorem Jp(h:P:=by have:=Z3C _ s F;omega):P:=h
theorem Cn(h:P:=by unfold Za;rw[Y4];exact v3):P:=h
theorem Jf(h:P:=by rw[World.size_alloc];omega):P:=h
theorem Ak(h:P:=by have:=M.o;unfold only;omega):P:=h
theorem Jb(h:P:=by unfold q4;rw[D];exact XC p _):P:=h
theorem ET(h:P:=by unfold q5;rw[g];exact YO p _):P:=h
theorem I8(h:P:=by exact⟨λt ht=>(by cases ht),cf _⟩):P:=h
theorem I7(h:P:=by unfold bz;rw[List.map_replicate];rfl):P:=h
theorem E4(h:P:=by go_wp2;go_returns;exact⟨by rw[t.o];rfl,hb.o⟩):P:=h
theorem PJ(h:P:=by go_wp2;go_returns;refine⟨L.o,?_⟩;rw[a7.o];exact⟨_,rfl⟩):P:=h
theorem PM(h:P:=by rcases Classical.em (X=aH data) with h|h;exact h;exact absurd (.inr h) p):P:=h
theorem PN(h:P:=by rw[Z0];have:=Za5 (aH v) (aH last);rw[Z2] at this;exact co this (h v fi)):P:=h
theorem OP(h:P:=by unfold Instr.lookup;simp only[Sem.run_bind,Sem.run_pure,run_underlying ht,Result.andThen_ok,MapKept.run_getObj_map h1,g,MapKept.run_findKey hd f1];rfl):P:=h
theorem Oi(h:P:=by unfold Instr.lookup;simp only[Sem.run_bind,Sem.run_pure,run_underlying ht,Result.andThen_ok,MapKept.run_getObj_map h1,g,MapKept.run_findKey hd f1,u];rfl):P:=h
theorem Nw(h:P:=by
 by_cases D:g=0
 .right;have e2:X≠aH data:=p.resolve_left (λh=>h D);have a7:((bs X).toList==data.toList)=false:=by rw[Qw,Vbp];intro h;exact e2 (by rw[<-h,Zm])
  refine⟨by rw[D];rfl,by rw[bne,a7];rfl,a7⟩
 left;rw[kx];omega):P:=h
theorem N9(h:P:=by
 have c3:=J (show b8.ownsRow w 3 1 v' (jL l st (k+1)) (bO (jL l st (k+1))) by rw[g.o,YK,bV];exact y.o)
 go_wp2_with (
  at_builtin;refine Z5 (by with_reducible rfl) rfl _ _ _ rfl _ _ (by rfl) (by rfl) b7.o ?_);refine⟨⟨k+1,.inr ab,by go_num,c3,B⟩,?_⟩;simp[intOf]<;>omega):P:=h
end
namespace Go.Proofs.Y
open Tryz Wv Go.RowKit
section
variable{c:Nat}{l:a'}{s:ax}{w:aq}
theorem ZjC (data:aT) (hd:data.size<=1000000000):
  cK 196 #[data] w λx w'=>vc w (X0 (aH data)) x w':=by
 match h1:dN (aH data) 1 with
 |none=>obtain⟨e,d,g⟩:=Y9 h1;have j:X0 (aH data)=none:=(by unfold X0;rw[h1]);rw[j];exact Wg data O 0 data e data e g (XC d 4096) d aU
 |some (c,s1)=>
  obtain⟨n1,l,k⟩:=Zw h1;match h2:dN s1 4096 with
  |none=>obtain⟨e,d,g⟩:=Y9 h2;have j:X0 (aH data)=none:=(by unfold X0;rw[h1];simp only;rw[h2]);rw[j];exact Wg data O c (bs s1) 0 (bs s1) e n1 g d k
  |some (n,s2)=>exact ZfH data hd c n s1 s2 h1 h2
theorem Zmh {ws:a'} {A B:List Int×Nat} (h:fin c ws A B=some l):∃Z,ZK ws Z []=(l,0):=by
 unfold fin at h;obtain⟨Z,hZ⟩:=ay ((if c=1 then(ZX A.1).1.map Int.ofNat else A.1).zip (B.1.map (· +1)));rw[hZ] at h;split at h;cases h;split at h;cases h;split at h;cases h;split at h;.rename_i h0;injection h with h;exact⟨_,Prod.ext h h0⟩
 cases h
theorem ZfE (h:X0 s=some l):∃c j A B n d g,fin c j A B=some l/\Yp n d=some (j,g):=by
 unfold X0 at h;match h1:dN s 1,h with
 |none,h=>cases h
 |some (c,s1),h=>
  simp only at h;match h2:dN s1 4096,h with
  |none,h=>cases h
  |some (n,d),h=>
   simp only at h;match k:Yp n d,h with
   |none,h=>cases h
   |some (j,g),h=>
    simp only at h;match h4:fe g s.length,h with
    |none,h=>cases h
    |some (a,s4),h=>exact⟨_,_,_,_,n,d,g,h,k⟩
theorem Z8Z (n:Nat):∀ {s:ax} {g:a'} {t:ax},Yp n s=some (g,t)->∀x∈g,x.size<=128:=by
 induction n with
 |zero=>intro s g t h x k;rw[Yp] at h;injection h with h;injection h with h1 d;subst h1;cases k
 |succ n ih=>
  intro s g t h x k;match h1:fe s 128 with
  |none=>rw[UD h1] at h;cases h
  |some (a,u)=>
   rw[UC h1] at h;match d:Yp n u with
   |none=>rw[d] at h;cases h
   |some (l,v)=>rw[d] at h;injection h with h;injection h with p q;subst p;rcases jA.1 k with j|j;rw[j,Z0];exact(JM h1).2.2.2;exact ih d x j
theorem Z8n (d:a') (hd:∀x∈d,x.size<=128) (Z:List (Int×Int)):∀acc:a',(∀x∈acc,x.size<=128)->acc.length<=4096->(∀x∈(ZK d Z acc).1,x.size<=128)/\(ZK d Z acc).1.length<=4096:=by
 induction Z with
 |nil=>intro acc h1 h2;exact⟨h1,h2⟩
 |cons z Z ih=>intro acc h1 h2;rw[ZK];split;exact⟨by simp,by simp⟩;rename_i c1;split;exact⟨by simp,by simp⟩;refine ih _ (λx hx=> ?_) ?_;rcases lc.1 hx with h|h;exact h1 x h;rw[(Cf.1 h).2];have:z.1.toNat<d:=O;have e:d.getD z.1.toNat default=d[z.1.toNat]:=(by simp[List.getD,this]);rw[e];exact hd _ (dt _);exact CA
theorem JH (h:X0 s=some l):(∀x∈l,x.size<=128)/\l.length<=4096:=by obtain⟨c,j,A,B,n,k,p,h1,d⟩:=ZfE h;obtain⟨Z,g⟩:=Zmh h1;have:=Z8n j (Z8Z n d) Z [] (by simp) (by simp);rw[g] at this;exact this
theorem QZ (data:aT) (hd:data.size<=1000000000) (most:Int):
  Calls prog 149 #[data,most] w λx w'=>oZ w (fl (aH data) most) x w':=by
 have k:=J (ZjC (w:=w) data hd);unfold fl;match hr:X0 (aH data) with
 |none=>rw[hr] at k;simp only;clear hr hd;go_in;go_wp21;refine(k.o).mono ?_;rintro x w1 ⟨v,rfl,d,hb⟩;simp only[Option.isSome_none];clear d;go_wp2;go_returns;exact Qt 12 hb
 |some l=>
  rw[hr] at k;simp only;obtain⟨z,L⟩:=JH hr;have y:=J (λW A cap (h:At W A (bz l))=>X4 h (λs d=>by have:=z s d;omega) l cap rfl O);obtain⟨⟨X,g⟩,hX⟩:=ay (enc l);rw[hX] at y⊢;simp only;clear hr hd hX z;by_cases p:g≠0\/X≠aH data
  .rw[Vag p];have q:((g:Int) !=0)=true\/(((g:Int) !=0)=false/\(((bs X).toList !=data.toList)=true/\((bs X).toList==data.toList)=false)):=Nw;clear p;rcases q with q|⟨q,q2,q3⟩
   all_goals
    go_in;go_wp21;refine(k.o).mono ?_;rintro x w1 ⟨v,rfl,d,hb⟩;simp only[Option.isSome_some];obtain⟨A,cap,rfl,j⟩:=d l rfl;have t:=J (y.o _ _ cap j);clear d j;go_wp21;refine aP t.o λE aa=>?_;have u:=hb.trans (aa.mono hb.size);go_wp2;go_returns;exact Qt 12 u
  rw[aD p];have D:g=0:=O;have I:X=aH data:=PM;subst D;subst I;have q2:((bs (aH data)).toList !=data.toList)=false:=(by rw[Zc,yx]);have q3:((bs (aH data)).toList==data.toList)=true:=(by rw[Zc,ID]);clear p;by_cases B:most<(l.length:Int);.rw[Vag B];go_in;go_wp21;refine(k.o).mono ?_;rintro x w1 ⟨v,rfl,d,hb⟩;simp only[Option.isSome_some];obtain⟨A,cap,rfl,j⟩:=d l rfl;have t:=J (y.o _ _ cap j);clear d j;go_wp21;refine aP t.o λE aa=>?_;have u:=hb.trans (aa.mono hb.size);go_wp2;go_returns;exact Qt 2 u
  rw[aD B];go_in;go_wp21;refine(k.o).mono ?_;rintro x w1 ⟨v,rfl,d,hb⟩;simp only[Option.isSome_some];obtain⟨A,cap,rfl,j⟩:=d l rfl;have t:=J (y.o _ _ cap j);have F:=J j;clear d j;go_wp21;refine aP t.o λE aa=>?_;have u:=hb.trans (aa.mono hb.size);have G:=F.o.below aa;go_wp2;go_returns;exact⟨_,rfl,⟨A,cap,rfl,G⟩,u⟩
theorem Zio (c:Nat) (l:a') (d:l.length<=4096):(sr c l).length<9223372036854775808:=by have h1:=Qg (Yj c l) (λv g=>by have:=CY c l d v g;omega);have j:=YC (cT l) l;rw[YI] at h1;show(jk (Yj c l)).length<_;omega
theorem L4 (d:l.length<=4096) (g:∀s∈l,s.size<=128):enc l=(if(gq 1 l).length<(gq 0 l) then gq 1 l else gq 0 l,0):=by unfold enc;grind
theorem FT (d:l.length<=4096) (g:∀s∈l,s.size<=128):∃c,c<=1/\enc l=(gq c l,0):=by rw[L4 d g];split;exact aO;grind
theorem Zic (j:c<=1) (d:l.length<=4096) (g:∀s∈l,s.size<=128) (most:Int):
  fl (gq c l) most=if(enc l).1≠gq c l then([],12) else if most<(l.length:Int) then([],2) else(l,0):=by
 have h1:=ZjB c j l d g (Zio c l d);unfold fl;have k:(enc l).2=0:=by rw[L4 d g]
 grind
theorem Lb (d:l.length<=4096) (g:∀s∈l,s.size<=128) (most:Int):
  fl (enc l).1 most=if most<(l.length:Int) then([],2) else(l,0):=by obtain⟨c,j,k⟩:=FT d g;have:=Zic j d g most;grind
theorem XR (data:ax) (most:Int):(fl data most=([],12)\/fl data most=([],2))\/∃l,fl data most=(l,0)/\enc l=(data,0)/\X0 data=some l/\(∀x∈l,x.size<=128)/\l.length<=4096:=by
 unfold fl;match h:X0 data with
 |none=>exact .inl (.inl rfl)
 |some l=>obtain⟨d,g⟩:=JH h;by_cases h1:(enc l).2≠0\/(enc l).1≠data;exact aO;grind
def l4:a':=[⟨#[97]⟩,⟨#[97]⟩,⟨#[98]⟩,⟨#[97]⟩]
end
theorem Zcf (c:Nat) {l:a'} (g:l.length<=4096) (p:∀s∈l,s.size<=128):(gq c l).length<=2000000:=by
 have w:=Yz l;have h1:=JF c (cT l) (cT l) (Kt p) O;have j:=Qg (Yj c l) (λv d=>by have:=CY c l g v d;omega);have k:=Qg (oJ l) (λv d=>by have:=Dm l g v d;omega);have q:=rK (sr c l);have t:=YC (cT l) l;rw[YI] at j;rw[Qb] at k;have u:gq c l=YV c (cT l) (cT l).length++(bi (sr c l).length++jk (Yj c l))++jk (oJ l):=by unfold gq YV;rw[Vbq];rfl
 grind
theorem Q6 {l:a'} (d:l.length<=4096) (g:∀s∈l,s.size<=128):(enc l).1.length<=2000000:=by obtain⟨c,k,j⟩:=FT d g;rw[j];exact Zcf c d g
def ZS (l:List Int):ax:=jk (l.map Int.toNat)
def hO (l:List Int):a':=l.map (λg=>bs (bi g.toNat))
def lp (l:List Int):ax:=bi 0++ZS (Za l)
def oK (l:List Int):ax:=bi 1++bi (Zt l).st.toNat++bi (Zt l).f.toNat++bi (Zt l).s.toNat++bi (Zt l).n.toNat++text (bs (ZS (Za (Qy (Zt l) l))))++ZS (Za (qg (Zt l) l))
def om (l:List Int):ax:=bi 2++(enc (hO (Za l))).1
def DX (c:Nat) (l:List Int):ax:=if c=0 then lp l else if c=1 then oK l else om l
def jS (a b:ax):ax:=if b.length<a then b else a
def ke (l:List Int):ax×Nat:=if Zi l=true then(if l.length<2 then jS (lp l) (om l) else jS (jS (lp l) (oK l)) (om l),0) else([],2)
theorem Yg {l:List Int} (h:Zi l=true):(ZS (Za l)).length<=600000:=by obtain⟨_,_,j⟩:=Zd.1 h;have d:=Xz h;have:=Qg ((Za l).map Int.toNat) (λv g=>aO);rw[c'] at this;unfold Za at this;rw[Y4] at this;unfold ZS Za;omega
theorem Z3C (l:List Int):∀s∈hO l,s.size<=9:=by intro s d;obtain⟨g,_,rfl⟩:=iX.1 d;rw[Z0,lS];have:=Yf g.toNat;omega
theorem Xp (l:List Int):(hO l)=l.length:=by simp[hO]
theorem UX {l:List Int} (h:Zi l=true):(enc (hO (Za l))).2=0/\(enc (hO (Za l))).1.length<=2000000:=by obtain⟨_,_,v3⟩:=Zd.1 h;have d:(hO (Za l)).length<=4096:=(by rw[Xp];exact Cn);have F:∀s∈hO (Za l),s.size<=128:=λs F=>Jp;exact⟨by obtain⟨c,_,g⟩:=FT d F;rw[g],Q6 d F⟩
def yb (s:ax):Option (dX×ax×ax):=
 match dN s 1099511627776 with
 |none=>none
 |some (a,s1)=>
  match dN s1 1099511627776 with
  |none=>none
  |some (b,s2)=>
   match dN s2 1099511627776 with
   |none=>none
   |some (d,s3)=>
    match dN s3 4096 with
    |none=>none
    |some (n,s4)=>
     match fe s4 s4.length with
     |none=>none
     |some (x,t)=>some (⟨(a:Int),(b:Int),(d:Int),(n:Int)⟩,x,t)
def xP (c:dX) (X Y:List Int×Nat):Option (List Int):=
 if nU c=false\/X.2≠0\/Y.2≠0 then none
 else match kS X.1,kS Y.1 with
  |some m,some x=>some (zB c m x)
  |_,_=>none
def wj (s:ax):Option (List Int):=match yb s with
 |none=>none
 |some (c,a,t)=>xP c (fc a 4096) (fc t 4096)
def Qz:a'->Option (List Int)
 |[]=>some []
 |s::r=>match dN (aH s) 1099511627776 with
  |some (g,[])=>(Qz r).map ((g:Int)::·)
  |_=>none
def QN (data:ax):Option (List Int):=match dN data 2 with
 |none=>none
 |some (c,r)=>
  if c=0 then(if(fc r 4096).2≠0 then none else kS (fc r 4096).1)
  else if c=1 then wj r
  else if(fl r 4096).2≠0 then none else match Qz (fl r 4096).1 with
   |none=>none
   |some g=>kS g
def nE (data:ax) (most:Int):List Int×Nat:=match QN data with
 |none=>([],12)
 |some l=>if(ke l).2≠0\/(ke l).1≠data then([],12) else if most<(l.length:Int) then([],2) else(l,0)
def q1 (s:aT):=bG s 0 1099511627776
def q2 (s:aT):=bG (q1 s).2.1 (q1 s).2.2 1099511627776
def q3 (s:aT):=bG (q2 s).2.1 (q2 s).2.2 1099511627776
def q4 (s:aT):=bG (q3 s).2.1 (q3 s).2.2 4096
def q5 (s:aT):=ZB (q4 s).2.1 (q4 s).2.2 ((q4 s).2.1.size:Int)
theorem Zju (s:ax):((q5 (bs s)).2.2≠0/\yb s=none)\/((q5 (bs s)).2.2=0/\∃x t,yb s=some (⟨((q1 (bs s)).1:Int),((q2 (bs s)).1:Int),((q3 (bs s)).1:Int),((q4 (bs s)).1:Int)⟩,x,t)/\(q5 (bs s)).1=bs x/\(q5 (bs s)).2.1=bs t/\x.length<=s.length/\t.length<=s.length):=by
 unfold yb;match h1:dN s 1099511627776 with
 |none=>obtain⟨e,p,k⟩:=Y9 h1;have q:q1 (bs s)=(0,bs s,e):=k;have l:q2 (bs s)=(0,bs s,e):=(by unfold q2;rw[q];exact XC p _);have D:q3 (bs s)=(0,bs s,e):=(by unfold q3;rw[l];exact XC p _);have g:q4 (bs s)=(0,bs s,e):=Jb;have j:q5 (bs s)=(bs [],bs s,e):=ET;rw[j];exact .inl ⟨p,rfl⟩
 |some (a,s1)=>
  obtain⟨z,M,L⟩:=Zw h1;have q:q1 (bs s)=(a,bs s1,0):=z;simp only;match h2:dN s1 1099511627776 with
  |none=>obtain⟨e,p,k⟩:=Y9 h2;have l:q2 (bs s)=(0,bs s1,e):=(by unfold q2;grind);have D:q3 (bs s)=(0,bs s1,e):=(by unfold q3;rw[l];exact XC p _);have g:q4 (bs s)=(0,bs s1,e):=Jb;have j:q5 (bs s)=(bs [],bs s1,e):=ET;rw[j];exact .inl ⟨p,rfl⟩
  |some (b,s2)=>
   obtain⟨S,Q,I⟩:=Zw h2;have l:q2 (bs s)=(b,bs s2,0):=(by unfold q2;grind);simp only;match h3:dN s2 1099511627776 with
   |none=>obtain⟨e,p,k⟩:=Y9 h3;have D:q3 (bs s)=(0,bs s2,e):=(by unfold q3;rw[l];exact k);have g:q4 (bs s)=(0,bs s2,e):=Jb;have j:q5 (bs s)=(bs [],bs s2,e):=ET;rw[j];exact .inl ⟨p,rfl⟩
   |some (d,s3)=>
    obtain⟨w,F,E⟩:=Zw h3;have D:q3 (bs s)=(d,bs s3,0):=(by unfold q3;rw[l];exact w);simp only;match h4:dN s3 4096 with
    |none=>obtain⟨e,p,k⟩:=Y9 h4;have g:q4 (bs s)=(0,bs s3,e):=(by unfold q4;rw[D];exact k);have j:q5 (bs s)=(bs [],bs s3,e):=ET;rw[j];exact .inl ⟨p,rfl⟩
    |some (n,s4)=>
     obtain⟨y,a0,R⟩:=Zw h4;have g:q4 (bs s)=(n,bs s4,0):=(by unfold q4;rw[D];exact y);simp only;match h5:fe s4 s4.length with
     |none=>obtain⟨e,p,k⟩:=UQ h5;have j:q5 (bs s)=(bs [],bs s4,e):=(by unfold q5;rw[g];exact k);rw[j];exact .inl ⟨p,rfl⟩
     |some (x,t)=>obtain⟨u,B,G,_⟩:=JM h5;have j:q5 (bs s)=(bs x,bs t,0):=(by unfold q5;rw[g];exact u);rw[q,l,D,g,j];exact .inr ⟨rfl,x,t,rfl,rfl,rfl,O,O⟩
theorem Zne (s:aT):(q1 s).2.1.size<=s.size/\(q2 s).2.1.size<=s.size/\(q3 s).2.1.size<=s.size/\(q4 s).2.1.size<=s.size:=by have a1:(q1 s).2.1.size<=s.size:=Zv;have a2:(q2 s).2.1.size<=(q1 s).2.1.size:=Zv;have a3:(q3 s).2.1.size<=(q2 s).2.1.size:=Zv;have a4:(q4 s).2.1.size<=(q3 s).2.1.size:=Zv;omega
theorem Zj4 {l:List Int} (h:Zi l=true):((Za l).map Int.toNat).length<=4096/\(∀v∈(Za l).map Int.toNat,v<4611686018427387904)/\((Za l).map Int.toNat).map Int.ofNat=Za l:=by
 obtain⟨_,_,v3⟩:=Zd.1 h;have d:=Xz h;refine⟨?_,?_,?_⟩;rw[c'];exact Cn;exact aO;rw[qx];conv=>rhs;rw[<-List.map_id (Za l)]
 apply List.map_congr_left;grind
theorem F2 {l:List Int} (h:Zi l=true):fc (ZS (Za l)) 4096=(Za l,0):=by obtain⟨n1,n2,n3⟩:=Zj4 h;have:=T6 _ 4096 n1 O n2;rw[n3] at this;exact this
theorem Zjt {c:dX} {X R:ax} (g:sw c) (y:X.length<=1000000000):
  yb (bi c.st.toNat++bi c.f.toNat++bi c.s.toNat++bi c.n.toNat++text (bs X)++R)=some (c,X,R):=by obtain⟨h1,k,l,p,q,t,u,w⟩:=g;unfold yb text;simp only[er];rw[Ya _ _ O O];simp only;rw[Ya _ _ O O];simp only;rw[Ya _ _ O O];simp only;rw[Ya _ _ O O];simp only;have j:(bs X).size=X:=Z0 X;rw[j,Zm];rw[Yo X _ aO O];obtain⟨a,b,d,n⟩:=c;grind
theorem Km {c:Nat} (d:c<=2) (r:ax):QN (bi c++r)=if c=0 then(if(fc r 4096).2≠0 then none else kS (fc r 4096).1) else if c=1 then wj r else if(fl r 4096).2≠0 then none else match Qz (fl r 4096).1 with|none=>none|some g=>kS g:=by unfold QN;rw[Ya c 2 d O r]<;>grind
theorem ZbH {g:List Int} (h:∀x∈g,0<=x/\x<=1099511627776):Qz (hO g)=some g:=by
 induction g with
 |nil=>rfl
 |cons a r ih=>
  have p:=h a fi;have k:=ih (λx l=>h x (gM _ l));have h1:hO (a::r)=bs (bi a.toNat)::hO r:=rfl
  have j:Qz (bs (bi a.toNat)::hO r)=match dN (aH (bs (bi a.toNat))) 1099511627776 with
   |some (g,[])=>(Qz (hO r)).map ((g:Int)::·)
   |_=>none:=rfl
  have d:=Ya a.toNat 1099511627776 O O [];rw[fg] at d;rw[h1,j,Zm,d,k];grind
theorem WE (l:List Int):oK l=bi 1++(bi (Zt l).st.toNat++bi (Zt l).f.toNat++bi (Zt l).s.toNat++bi (Zt l).n.toNat++text (bs (ZS (Za (Qy (Zt l) l))))++ZS (Za (qg (Zt l) l))):=by rfl
theorem ZnU {l:List Int} (h:Zi l=true):(hO (Za l)).length<=4096/\∀s∈hO (Za l),s.size<=128:=by obtain⟨_,_,v3⟩:=Zd.1 h;refine⟨by rw[Xp];exact Cn,λs F=>Jp⟩
theorem ZfD {c:dX} {l:List Int} (d:nU c=true) (h:Zi l=true) (R:ax):
  wj (bi c.st.toNat++bi c.f.toNat++bi c.s.toNat++bi c.n.toNat++text (bs (ZS (Za (Qy c l))))++(ZS (Za (qg c l))++R))=xP c (Za (Qy c l),0) (fc (ZS (Za (qg c l))++R) 4096):=by have hi:=(YH.1 d).1;unfold wj;rw[Zjt hi (by have:=Yg (Xi hi l);omega)];simp only;rw[F2 (Xi hi l)]
theorem ZfF {l:List Int} (h:Zi l=true) (c:Nat) (p:c<=2) (h1:c=1->2<=l.length):QN (DX c l)=some l:=by have j:c=0\/c=1\/c=2:=O;rcases j with rfl|rfl|rfl;show QN (bi 0++ZS (Za l))=_;rw[Km O,Vag rfl,F2 h,aD (by simp)];exact Gu h;show QN (oK l)=_;have g:=Qf h (h1 rfl);have hi:=(YH.1 g).1;rw[WE,Km O,aD aY,Vag rfl];have:=ZfD g h [];rw[fg] at this;rw[this,F2 (FI h)];unfold xP;rw[aD aO];rw[Gu (Xi hi l),Gu (FI h)];simp only;rw[Znm hi h];show QN (bi 2++(enc (hO (Za l))).1)=_;obtain⟨t1,k⟩:=ZnU h;have d:=Lb t1 k 4096;rw[aD O] at d;rw[Km O,aD aY,aD aY,d,aD (by simp)];rw[ZbH (Xz h)];exact Gu h
theorem XT {l:List Int} (h:Zi l=true):∃c,c<=2/\(c=1->2<=l.length)/\ke l=(DX c l,0):=by unfold ke;rw[Vag h];by_cases d:l.length<2;rw[Vag d];unfold jS;split;exact⟨2,O,O,rfl⟩;exact⟨0,O,O,rfl⟩;rw[aD d];obtain⟨z,k⟩:=ay (jS (lp l) (oK l));rw[k];have p:jS z (om l)=if(om l).length<z then om l else z:=rfl;rw[p];by_cases g:(om l)<z.length;rw[Vag g];exact⟨2,O,O,rfl⟩;rw[aD g,<-k];unfold jS;by_cases j:(oK l)<(lp l).length;rw[Vag j];exact⟨1,O,O,rfl⟩;rw[aD j];exact⟨0,O,O,rfl⟩
theorem Ve {l:List Int} (h:Zi l=false):ke l=([],2):=by unfold ke;grind
theorem Zi9 {l:List Int} (h:Zi l=true) (c:Nat) (d:c<=2) (h1:c=1->2<=l.length) (most:Int):
  nE (DX c l) most=if(ke l).1≠DX c l then([],12) else if most<(l.length:Int) then([],2) else(l,0):=by have j:(ke l).2=0:=(by obtain⟨c,_,_,g⟩:=XT h;rw[g]);unfold nE;rw[ZfF h c d h1];grind
theorem Zia {l:List Int} (h:Zi l=true) (most:Int):nE (ke l).1 most=if most<(l.length:Int) then([],2) else(l,0):=by obtain⟨c,d,h1,g⟩:=XT h;have:=Zi9 h c d h1 most;grind
theorem ZdH {l:List Int} (d:(ke l).2=0):Zi l=true:=by
 cases g:Zi l with
 |true=>rfl
 |false=>rw[Ve g] at d;cases d
theorem JA (data:ax) (most:Int):(nE data most=([],12)\/nE data most=([],2))\/∃l,nE data most=(l,0)/\ke l=(data,0)/\Zi l=true/\QN data=some l/\(l.length:Int)<=most:=by
 unfold nE;match h:QN data with
 |none=>exact .inl (.inl rfl)
 |some l=>simp only;by_cases h1:(ke l).2≠0\/(ke l).1≠data;exact aO;rw[aD h1];have d:(ke l).2=0:=O;have j:(ke l).1=data:=aO;by_cases g:most<(l.length:Int);exact aO;rw[aD g];exact .inr ⟨l,rfl,Prod.ext j d,ZdH d,rfl,O⟩
section
variable{c:Nat}{l:a'}{s:ax}{st:aT}{w:Int}
def tk (c:cj):List Bool:=[decide (2<=cd c),decide (cd c % 2=1)]
def XL (v:ax):List Bool:=v.flatMap tk
def ZR (l:a'):List Bool:=l.flatMap (λv=>XL (aH v))
theorem FO (v:ax):(XL v).length=2*v.length:=by
 unfold XL;induction v with
 |nil=>rfl
 |cons c r ih=>rw[sW,bV,ih,gd];simp[tk];omega
theorem ZcI (h:∀v∈l,vld w (aH v)=true):((ZR l).length:Int)=2*(l.length*w):=by
 unfold ZR;induction l with
 |nil=>simp
 |cons v r ih=>have d:=(ZN.1 (h v fi)).2;rw[sW,bV,FO,gd];grind
def un (l:a'):Option ax:=if 65536<(ZR l).length then none else some (bi l.length++aH (rC (ZR l)))
def vo (l:a'):ax:=bi l.length++if l=[] then[] else
 text (bs (fw (aH (l.getD 0 default))))++text (bs (fw (aH (ZE l))))++text (bs (ZS (Za (iD l (ZE l)))))++(enc (ZL (gU l (iD l (ZE l))))).1
def HQ (w:Int) (l:a'):ax:=(enc (ZL (ly (bs (mr w 48)) l))).1
def DY (l:a'):ax:=(enc (ZL l)).1
def kQ (c:Nat) (w:Int) (l:a'):Option ax:=if c=0 then un l else if c=1 then some (vo l) else if c=2 then some (HQ w l) else some (DY l)
def L3 (c w:Int) (l:a'):ax×Nat:=if c<0\/3<c then([],1) else if ZG w l=false then([],2) else match kQ c.toNat w l with
 |none=>([],9)
 |some s=>(bi c.toNat++s,0)
def iB (w:Int) (l:a'):Nat->ax
 |0=>[]
 |i+1=>match kQ i w l with
  |none=>iB w l i
  |some s=>if iB w l i=[]\/(bi i++s).length<(iB w l i).length then bi i++s else iB w l i
def Y8 (w:Int) (l:a'):ax×Nat:=if ZG w l=false then([],2) else(iB w l 4,0)
def kF:Nat->List Bool->ax
 |0,_=>[]
 |k+1,b=>ch (2*(b.getD 0 false).toNat+(b.getD 1 false).toNat)::kF k (b.drop 2)
def vb (w:Nat):Nat->List Bool->a'
 |0,_=>[]
 |n+1,b=>bs (kF w b)::vb w n (b.drop (2*w))
def zh (w:Int) (s:ax):Option a':=match dN s 4096 with
 |none=>none
 |some (n,r)=>match oo (bs r) with
  |none=>none
  |some k=>if(k:Int)=2*n*w then some (vb w.toNat n (ed (bs r) k)) else none
def ik:Int->List Int->List Int
 |_,[]=>[]
 |last,g::r=>(last+1+g)::ik (last+1+g) r
def pK:List Int->a'->Int->Option aT
 |i::x,v::r,k=>if i=k then some v else pK x r k
 |_,_,_=>none
def qp (x:List Int) (vs:a') (st:aT):Nat->Nat->aT->Option a'
 |0,_,_=>some []
 |k+1,i,last=>match pK x vs (i:Int) with
  |some v=>(qp x vs st k (i+1) v).map (v::·)
  |none=>if(qc (aH last) (aH st)).2=true then(qp x vs st k (i+1) (bs (qc (aH last) (aH st)).1)).map (bs (qc (aH last) (aH st)).1::·) else none
def YM (w:Int) (s:ax):Option a':=match dN s 4096 with
  |none=>none
  |some (n,s1)=>if n=0 then(if s1=[] then some [] else none) else match fe s1 128 with
    |none=>none
    |some (f,s2)=>match fe s2 128 with
      |none=>none
      |some (st,s3)=>match fe s3 s3.length with
        |none=>none
        |some (a,s4)=>if(fc a 4096).2≠0\/(fl s4 4096).2≠0 then none else match jl w (fl s4 4096).1,jl w [bs f] with
          | some vs, some q => if (fc a 4096).1.length ≠ vs.length then none else
              if st≠[]/\(ext w st).2≠0 then none else
              if(∀g∈(fc a 4096).1,g<(n:Int)) then(qp (ik (-1) (fc a 4096).1) vs (bs (if st=[] then[] else(ext w st).1)) (n-1) 1 (q.getD 0 default)).map (q.getD 0 default::·) else none
          |_,_=>none
def XH (w:Int) (s:ax):Option a':=if(fl s 4096).2≠0 then none else jl w (fl s 4096).1
def uk (w:Int) (data:ax):Option a':=match dN data 3 with
 |none=>none
 |some (c,r)=>if c=0 then zh w r else if c=1 then YM w r else if c=2 then(XH w r).map (Yh (bs (mr w 48))) else XH w r
def x' (w:Int) (data:ax) (most:Int) (o:Option a'):a'×Nat:=match o with
 |none=>([],12)
 |some l=>if(Y8 w l).2≠0\/(Y8 w l).1≠data then([],12) else if most<(l.length:Int) then([],2) else(l,0)
def tr (w:Int) (data:ax) (most:Int):a'×Nat:=if w<1\/128<w then([],1) else x' w data most (uk w data)
theorem ZhM {c:cj} (h:cd c<4) (r:List Bool):ch (2*((tk c++r).getD 0 false).toNat+((tk c++r).getD 1 false).toNat)=c/\(tk c++r).drop 2=r:=by
 refine⟨?_,rfl⟩;have d:=My c h;rcases(show cd c=0\/cd c=1\/cd c=2\/cd c=3 by omega) with h0|h0|h0|h0
 all_goals
  rw[h0] at d;unfold tk;rw[h0];exact d
theorem So:∀(v:ax) (r:List Bool),(∀c∈v,cd c<4)->kF v (XL v++r)=v
 |[],r,_=>rfl
 |c::v,r,h=>by have g:=h c fi;have e:XL (c::v)++r=tk c++(XL v++r):=(by rfl);obtain⟨h1,d⟩:=ZhM g (XL v++r);rw[gd,e];show ch _::kF v ((tk c++(XL v++r)).drop 2)=_;rw[h1,d,So v r (λx j=>h x (gM _ j))]
theorem RQ (w:Nat):∀(l:a') (r:List Bool),(∀v∈l,vld (w:Int) (aH v)=true)->vb w l (ZR l++r)=l
 |[],r,_=>rfl
 |v::l,r,h=>by
  have j:=ZN.1 (h v fi);have d:(aH v)=w:=O;have e:ZR (v::l)++r=XL (aH v)++(ZR l++r):=(by unfold ZR;grind);rw[gd,e];show bs (kF w _)::vb w l (_:List Bool)=_;have h1:=So (aH v) (ZR l++r) (Zp.1 j.1).1;rw[d] at h1;have g:(XL (aH v)++(ZR l++r)).drop (2*w)=ZR l++r:=by rw[<-d,<-FO];grind
  rw[h1,g,RQ w l r (λx k=>h x (gM _ k)),Zc]
theorem Zc3 (h:ZG w l=true) (d:un l=some s):zh w s=some l:=by obtain⟨h1,k,p,g⟩:=ZH.1 h;unfold un at d;split at d;exact aO;injection d with d;subst d;have j:=ZcI h1;obtain⟨n1,n2⟩:=nrd_bstr (ZR l) O;unfold zh;rw[Ya _ _ g O];simp only[Zc];have:=RQ w.toNat l [] (λv q=>aO);grind
theorem Qq (h:l.length<=4096):(ZL l).length<=4096/\∀s∈ZL l,s.size<=128:=by unfold ZL;refine⟨aO,λs d=> ?_⟩;obtain⟨v,_,rfl⟩:=iX.1 d;exact Yb _
theorem QE (h:l.length<=4096):fl (enc (ZL l)).1 4096=(ZL l,0)/\(enc (ZL l)).2=0:=by obtain⟨s1,d⟩:=Qq h;refine⟨?_,by obtain⟨c,_,g⟩:=FT s1 d;rw[g]⟩;rw[Lb s1 d,aD O]
theorem Tr (h1:∀v∈l,vld w (aH v)=true) (g:l.length<=4096):XH w (enc (ZL l)).1=some l:=by unfold XH;obtain⟨d,_⟩:=QE g;rw[d,aD (by simp)];exact JZ h1
theorem Zon (x:List Int):∀last,ik last (gp last x)=x:=by
 induction x with
 |nil=>intro _;rfl
 |cons t r ih=>intro last;show(last+1+(t-last-1))::ik (last+1+(t-last-1)) (gp t r)=_;grind
theorem ZmK (l:a') (k:Int):∀x:List Int,pK x (gU l x) k=if k∈x then some (l.getD k.toNat default) else none:=by
 intro x;induction x with
 |nil=>rfl
 |cons i r ih=>show(if i=k then some (l.getD i.toNat default) else pK r (gU l r) k)=_;grind
theorem Zmb {i:Nat} (h1:1<=i) (d:i<l):(i:Int)∈iD l st↔wC l st (i-1)=false:=by unfold iD jL;grind
theorem ZjI (l:a') (st:aT):∀(k i:Nat),1<=i->i+k=l.length->qp (iD l st) (gU l (iD l st)) st k i (l.getD (i-1) default)=some (l.drop i):=by
 intro k;induction k with
 |zero=>intro i _ h;rw[oc O];rfl
 |succ k ih=>
  intro i h1 t;have g:i<l:=O;have hd:l.drop i=l[i]::l.drop (i+1):=kw g;have j:l.getD i default=l[i]:=aO;have q:=ih (i+1) O O;rw[vI,j] at q;unfold qp;rw[ZmK];by_cases p:(i:Int)∈iD l st;exact aO
  have d:wC l st (i-1)=true:=by
   cases h:wC l st (i-1) with
   |true=>rfl
   |false=>exact absurd ((Zmb h1 g).2 h) p
  unfold wC at d;rw[fq] at d;rw[d,Vag rfl];simp only[Zc];grind
theorem FU (h:l.length<=4096) (st:aT):Zi (iD l st)=true:=by unfold iD;refine Zd.2 ⟨Zbf _ _ _,λt d=> ?_,?_⟩;have:=N0 t d;omega;have:=Lp l st (l.length-1);omega
theorem R2 (l:a'):(aH (ZE l)=[])\/(l≠[]/\ZG ((l.getD 0 default).size:Int) l=true/\jM (aH (ZE l))=true/\ZE l∈zu l):=by
 unfold ZE;by_cases h:l=[]\/ZG ((l.getD 0 default).size:Int) l=false;rw[Vag h];exact .inl rfl;rw[aD h];simp only[not_or,Bool.not_eq_false] at h
 have key:∀(g:a') (F:aT->Nat) (p:aT×Nat),(g.foldl (Yx F) p).1=p.1\/(g.foldl (Yx F) p).1∈g:=by
  intro g F;induction g with
  |nil=>exact aO
  |cons a r ih=>
   intro p;rcases ih (Yx F p a) with h1|h1
   .have e:(List.foldl (Yx F) p (a::r)).1=(Yx F p a).1:=h1;rw[e];by_cases k:p.2<F a
    .have j:Yx F p a=(a,F a):=by unfold Yx;grind
     grind
    have j:Yx F p a=p:=by unfold Yx;grind
    grind
   grind
 rcases key (zu l) (λd=>(zu l).count d) (bs [],0) with h1|h1;left;unfold BE;rw[h1];rfl;right;exact⟨h.1,h.2,WW _ h1,h1⟩
theorem ZqE {M:Int} {l:List Int} :∀ {last:Int},-1<=last->tv last l=true->(∀t∈l,t<=M)->∀g∈gp last l,g<=M:=by
 induction l with
 |nil=>intro _ _ _ _ g d;cases d
 |cons a r ih=>intro last h0 h j g d;obtain⟨h1,k,p⟩:=QR.1 h;rcases jA.1 d with rfl|d;have:=j a fi;omega;grind
theorem Wm (h:ZG w l=true):aH (ZE l)=[]\/(vld w (aH (ZE l))=true/\fw (aH (ZE l))≠[]):=by
 obtain⟨h1,h2,h3,h4⟩:=ZH.1 h;rcases R2 l with h5|⟨h5,_,h6,h7⟩;exact aO;right;refine⟨ZN.2 ⟨He h6,?_⟩,(F_ _).2 (He h6)⟩;obtain⟨j,hj,e⟩:=List.mem_filterMap.1 h7;have xQ:=List.mem_range.1 hj;unfold Bv at e;split at e;.rename_i hc;injection e with e;rw[<-e,Zm];have hk:=(Ta (Prod.ext rfl hc)).2;rw[hk];have hg:l.getD j default=l[j]:=aO;rw[hg];exact(ZN.1 (h1 _ (dt _))).2
 grind
theorem ZnN (X:ax):text (bs X)=bi X.length++X:=rfl
theorem PV {x:List Int} (h:∀i∈x,0<=i/\i<(l.length:Int)):∀v∈gU l x,v∈l:=by intro v d;obtain⟨i,hi,rfl⟩:=iX.1 d;grind
theorem L8 :∀i∈iD l st,0<=i/\i<(l.length:Int):=by intro i hi;have:=N0 i hi;grind
theorem Lo (l:a') (st:aT):(iD l st)<=l.length-1:=Lp _ _ _
theorem ZbY (h:ZG w l=true):YM w (vo l)=some l:=by
  obtain⟨h1,a6,a7,B⟩:=ZH.1 h;unfold YM vo;rw[Ya _ _ B O];simp only;by_cases h0:l=[];exact aO;rw[aD h0,aD (λe=>h0 (ia e))];obtain⟨k,r,q⟩:∃v r,l=v::r:=by cases l with|nil=>exact absurd rfl h0|cons v r=>exact⟨v,r,rfl⟩
  have a3:l.getD 0 default=k:=(by rw[q];rfl);have a1:=h1 k (by rw[q];exact fi);have u:=FU B (ZE l);have a5:=Lo l (ZE l);have a8:=Yg u;simp only[ZnN,er];have k1:=Yb (aH (l.getD 0 default));have k2:=Yb (aH (ZE l));rw[Yo _ _ k1 O];simp only;rw[Yo _ _ k2 O];simp only;rw[Yo _ _ (by rw[bV,bV];omega) O];simp only;have Q:(gU l (iD l (ZE l))).length<=4096:=(by unfold gU;rw[c'];omega);obtain⟨L,_⟩:=QE Q;rw[L,F2 u,aD (by simp)];simp only;rw[JZ (λv j=>h1 v (PV L8 v j))];have F:jl w [bs (fw (aH (l.getD 0 default)))]=some [k]:=by rw[a3];exact JZ (l:=[k]) (λv j=>by rw[jv] at j;rw[j];exact a1)
  rw[F];simp only;have a2:(Za (iD l (ZE l))).length=(gU l (iD l (ZE l))).length:=(by unfold Za gU;rw[Y4,c']);have G:¬(fw (aH (ZE l))≠[]/\(ext w (fw (aH (ZE l)))).2≠0):=by rintro⟨y,z⟩;rcases Wm h with d|⟨d,_⟩;rw[d] at y;exact y rfl;have:=Ls (ZN.1 d).1;rw[(ZN.1 d).2] at this;rw[this] at z;exact z rfl
  have D:bs (if fw (aH (ZE l))=[] then[] else(ext w (fw (aH (ZE l)))).1)=ZE l:=by rcases Wm h with d|⟨d,R⟩;rw[d];have:ZE l=bs []:=(by rw[<-Zc (ZE l),d]);rw[this];rfl;rw[aD R];have:=Ls (ZN.1 d).1;rw[(ZN.1 d).2] at this;rw[this,Zc]
  have E:∀g∈Za (iD l (ZE l)),g<(l.length:Int):=by intro g S;have p:=u;unfold Zi at p;rw[gm] at p;have:=ZqE (M:=(l.length:Int)-1) O p.1 (λt a0=>by have:=L8 t a0;omega) g S;omega
  rw[aD (by rw[a2];simp),aD G,Vag E,D];have I:ik (-1) (Za (iD l (ZE l)))=iD l (ZE l):=Zon _ _;rw[I];have a4:=ZjI l (ZE l) (l.length-1) 1 O (by(have:0<l.length:=by rw[q];simp);omega);grind
theorem ZiZ (h:ZG w l=true):(∀v∈ly (bs (mr w 48)) l,vld w (aH v)=true)/\Yh (bs (mr w 48)) (ly (bs (mr w 48)) l)=l:=by obtain⟨h1,d,g,j⟩:=ZH.1 h;exact ZbA (by exact Zhh d g) h1
theorem ZfC (h:ZG w l=true) (j:c<=3) (d:kQ c w l=some s):uk w (bi c++s)=some l:=by obtain⟨h1,p,q,g⟩:=ZH.1 h;unfold uk;rw[Ya _ _ j O];simp only;rcases(show c=0\/c=1\/c=2\/c=3 by omega) with rfl|rfl|rfl|rfl;exact Zc3 h d;injection d with d;subst d;exact ZbY h;injection d with d;subst d;obtain⟨k,t⟩:=ZiZ h;unfold HQ;rw[Tr k (by rw[C6];exact g)];grind;injection d with d;subst d;exact Tr h1 g
theorem SP (w:Int) (l:a'):∀k,iB w l k=[]\/∃c s,c<k/\kQ c w l=some s/\iB w l k=bi c++s:=by
 intro k;induction k with
 |zero=>exact .inl rfl
 |succ k ih=>
  have e:iB w l (k+1)=match kQ k w l with
   |none=>iB w l k
   |some s=>if iB w l k=[]\/(bi k++s).length<(iB w l k).length then bi k++s else iB w l k:=rfl
  grind
theorem Md (n:Nat) (s:ax):bi n++s≠[]:=λh=>by have:=congrArg List.length h;rw[bV,lS] at this;simp at this
theorem JY (h:ZG w l=true):∃c s,c<=3/\kQ c w l=some s/\Y8 w l=(bi c++s,0):=by unfold Y8;rcases SP w l 4 with h1|⟨c,s,h1,d,g⟩;exfalso;have e:iB w l 4=if iB w l 3=[]\/(bi 3++DY l).length<(iB w l 3).length then bi 3++DY l else iB w l 3:=rfl;rw[e] at h1;split at h1;exact Md _ _ h1;grind;grind
theorem Zip (h:ZG w l=false):Y8 w l=([],2):=by unfold Y8;grind
theorem Zbc (h:(Y8 w l).2=0):ZG w l=true:=by
 cases d:ZG w l with
 |true=>rfl
 |false=>rw[Zip d] at h;cases h
theorem Zi7 (h:ZG w l=true) (d:c<=3) (j:kQ c w l=some s) (most:Int):
  tr w (bi c++s) most=if(Y8 w l).1≠bi c++s then([],12) else if most<(l.length:Int) then([],2) else(l,0):=by obtain⟨h1,k,p,q⟩:=ZH.1 h;have t:(Y8 w l).2=0:=(by obtain⟨c,s,_,_,g⟩:=JY h;rw[g]);unfold tr x';rw[aD O,ZfC h d j];grind
theorem Zi8 (h:ZG w l=true) (most:Int):tr w (Y8 w l).1 most=if most<(l.length:Int) then([],2) else(l,0):=by obtain⟨c,s,d,g,j⟩:=JY h;have:=Zi7 h d g most;grind
theorem RJ (w:Int) (data:ax) (most:Int):((w<1\/128<w)/\tr w data most=([],1))\/(1<=w/\w<=128/\(tr w data most=([],12)\/tr w data most=([],2)))\/∃l,tr w data most=(l,0)/\Y8 w l=(data,0)/\ZG w l=true/\(l.length:Int)<=most:=by
 unfold tr;by_cases g:w<1\/128<w;exact aO;rw[aD g];right;unfold x';match h:uk w data with
 |none=>exact .inl ⟨O,O,.inl rfl⟩
 |some l=>simp only;by_cases h1:(Y8 w l).2≠0\/(Y8 w l).1≠data;exact aO;rw[aD h1];simp only[not_or,Decidable.not_not] at h1;by_cases d:most<(l.length:Int);exact aO;rw[aD d];exact .inr ⟨l,rfl,Prod.ext h1.2 h1.1,Zbc h1.1,O⟩
end
variable{A:bN}{N b:Nat}{l r:a'}{s:aT}{w:aq}
theorem Yl (h:At w A (bz l)) (i:Nat) (hi:i<l):∃b o,A=some ⟨b,o,none⟩/\b<w.heap.size/\w.cell? ⟨b,o+i,none⟩=some (.string l[i]):=
 h.get i _ (YD l i hi)
theorem JS (Q:At w A (bz l)) (G:∀s∈l,s.size<=1099511627776) (n cap:Nat) (R:n=l) (g:n<=9223372036854775807) (W:Int):
  Calls prog 197 #[W,(A,n,cap)] w (bM w (ZG W l)):=by
 have Ha:=J Q;obtain⟨F,a1,I⟩:=bD (λ(v:aT) (q:v∈l) W2=>(by have:=Z7Y W (aH v) Js W2;rw[Zc] at this;exact this:Calls prog 173 #[W,v] W2 (bM W2 (vld W (aH v))))) (bf w w) R;clear Q G R;go_in;go_wp2;go_loopw [9] (λE wr=>∃j:Nat,j<=n/\E=j/\Hid (∀v∈l.take j,vld W (aH v)=true)/\Hid (Below w w wr)) (λE _=>(n-intOf E).toNat);exact⟨0,cf _,rfl,J (by simp),a1⟩;obtain⟨j,a9,rfl,u,hb⟩:=hrel;by_cases ab:j<n
 .have y:j<l:=iF;obtain⟨b,o,rfl,a7,a4⟩:=Yl (Ha.o.below hb.o) j y;have d:=J (F.o l[j] (dt _));have L:l.take (j+1)=l.take j++[l[j]]:=dK y;have a0:=J (dt y);obtain⟨S,a3⟩:=ay l[j];rw[a3] at a4 d L a0;have a5:=J L;cases q:vld W (aH S) with
  |true=>rw[q] at d;have a6:=J (show ∀v∈l.take (j+1),vld W (aH v)=true from λv g=>by rw[a5.o,lc,jv] at g;rcases g with g|rfl;exact u.o v g;exact q);go_wp21;refine aP (d.o _) λw1 z=>?_;have p:=J (hb.o.trans (z.mono hb.o.size));go_wp2;refine⟨⟨j+1,ab,ci,a6,p⟩,?_⟩;simp[intOf]<;>omega
  |false=>rw[q] at d;have t:=J (show ZG W l=false by cases h:ZG W l;rfl;have:=(ZH.1 h).1 S a0.o;rw[q] at this;cases this);go_wp21;refine aP (d.o _) λw1 z=>?_;have p:=J (hb.o.trans (z.mono hb.o.size));go_wp2;go_returns;exact⟨by rw[t.o];rfl,p.o⟩
 have a2:j=n:=O;have D:=u.o;rw[a2,d' og] at D;have M:ZG W l=(decide (1<=W)&&decide (W<=128)&&decide (n<=4096)):=by unfold ZG;rw[<-I.o,uI.2 D,Bool.true_and]
 have t:=J M;clear u D M F;by_cases h1:1<=W;.by_cases B:W<=128;by_cases a8:(n:Int)<=4096;have k:n<=4096:=O;rw[dd h1,dd B,dd k] at t;exact E4;have k:¬n<=4096:=O;rw[dd h1,dd B,cI k] at t;exact E4;rw[dd h1,cI B] at t;exact E4
 rw[cI h1] at t;exact E4
theorem Ly (l:a'):(bz l)=l.length:=by unfold bz;rw[c']
def QI (F:aT->aT) (l:a') (i:Nat):a':=(l.take i).map F++List.replicate (l.length-i) ⟨#[]⟩
theorem TE (F:aT->aT) (l:a') (i:Nat) (hi:i<=l):(QI F l i)=l.length:=by unfold QI;rw[bV,c',ek,iE];omega
theorem TF (F:aT->aT) (l:a') (i:Nat) (hi:i<l):(QI F l i).set i (F l[i])=QI F l (i+1):=by have d:((l.take i).map F).length=i:=CB;unfold QI;rw[nj _ _ O,d,fh,dK hi,jy,show l.length-i=(l.length-(i+1))+1 by omega,pP,List.set_cons_zero];simp
theorem TC (F:aT->aT) (l:a'):QI F l l.length=l.map F:=by unfold QI;rw[Vbq,fh,List.replicate_zero,fg]
theorem WQ (F:aT->aT) (l:a'):(bz (QI F l 0)).toArray=Array.replicate l.length (.string ⟨#[]⟩:aI):=by unfold QI;rw[Vbv,List.map_nil,pU,Nat.sub_zero];exact I7
theorem Dl {g:Nat} {t:TypeId} (h:Bk w g t (bz l).toArray) (i:Nat) (x:aT):Bk (w.setCell (g,i) (.string x)) g t (bz (l.set i x)).toArray:=by have:=h.put i (.string x);rw[List.setIfInBounds_toArray] at this;unfold bz at this⊢;rw[List.map_set];exact this
theorem JI (a1:At w A (bz l)) (G:∀s∈l,s.size<=1099511627776) (n cap:Nat) (B:n=l) (b9:n<=1099511627776):
  Calls prog 298 #[(A,n,cap)] w λx w'=>∃g,x=.returned (.slice (some ⟨g,0,none⟩) n n)/\w.heap.size<=g/\g<w'.heap.size/\At w' (some ⟨g,0,none⟩) (bz (ZL l))/\Below w w w':=by
 have Ha:=J a1;have a3:=J (λ(v:aT) (q:v∈l) W2=>(by have:=Sa (aH v) Js W2;rw[Zc] at this;exact this:Calls prog 176 #[v] W2 (bM W2 (bs (fw (aH v))))));have b3:=Y5 (P:=prog) 23 9 (.string ⟨#[]⟩) 16 underlying23 YN rfl (n:Int) n rfl O O w;have L:=Bk.new w 9 (Array.replicate n (.string ⟨#[]⟩));have a4:=J (ZD w (.cells (Array.replicate n (.string ⟨#[]⟩)) 9));have a0:Array.replicate n (.string ⟨#[]⟩:aI)=(bz (QI (λv=>bs (fw (aH v))) l 0)).toArray:=(by rw[B,WQ]);have a2:=J a0;have Q:w<(w.alloc (.cells (Array.replicate n (.string ⟨#[]⟩)) 9)).heap.size:=Jf;obtain⟨R,E,I⟩:=bD L Q B;generalize w.alloc (.cells (Array.replicate n (.string ⟨#[]⟩)) 9)=W0 at*;rw[a2.o] at R;clear a1 G B L a0 Q a2;go_in;go_wp2;go_loopw [11] (λD wr=>∃j:Nat,j<=n/\D=j/\Hid (Bk wr w 9 (bz (QI (λv=>bs (fw (aH v))) l j)).toArray)/\Hid (Below w w wr)) (λD _=>(n-intOf D).toNat);exact Cq;obtain⟨j,b8,rfl,z,hb⟩:=hrel;by_cases ab:j<n;.have y:j<l:=iF;obtain⟨b,o,rfl,b4,b2⟩:=Yl (Ha.o.below hb.o) j y;have u:=J (a3.o l[j] (dt _));have t:=J (TF (λv=>bs (fw (aH v))) l j y);have k:=TE (λv=>bs (fw (aH v))) l j O;obtain⟨S,b0⟩:=ay l[j];rw[b0] at b2 u t;obtain⟨T,b1⟩:=ay (bs (fw (aH S)));rw[b1] at u t;have a5:=J (show j<(QI (λv=>bs (fw (aH v))) l j).length by rw[k];exact y);have b6:(j:Int)<n:=O;have b7:(0:Int)<=j:=O;go_wp21;refine aP (u.o _) λw1 M=>?_;have d:=z.o.below M z.o.lt;have a8:=d.cell j;rw[mF,YD _ _ a5.o] at a8;have b5:=d.frozen j;have F:=Dl d j T;rw[t.o] at F;have a6:=J F;have a7:=J ((hb.o.trans (M.mono hb.o.size)).setCell (p:=⟨w,j,none⟩) aU (.string T));generalize (QI (λv=>bs (fw (aH v))) l j)[j]=OLD at*;go_wp2;refine⟨⟨j+1,ab,ci,a6,a7⟩,?_⟩;simp[intOf]<;>omega
 have a9:j=n:=O;have d:=z.o;rw[a9,I.o,TC] at d;have ff:=J d;go_wp2;go_returns;refine⟨_,rfl,aU,ff.o.lt,?_,hb.o⟩;have:=ff.o.at_;rw[Cc] at this;exact this
theorem Ziu {w:Int} (h:∀s∈l,(ext w (aH s)).2=0):jl w l=some (l.map (λs=>bs (ext w (aH s)).1)):=by
 induction l with
 |nil=>rfl
 |cons s r ih=>unfold jl;rw[Vag (h s fi),ih (λx d=>h x (gM _ d))];rfl
theorem Ziv {w:Int} (d:s∈l) (h:(ext w (aH s)).2≠0):jl w l=none:=by
 induction l with
 |nil=>cases d
 |cons a r ih=>unfold jl;by_cases g:(ext w (aH a)).2=0;rw[Vag g];rcases jA.1 d with rfl|d;exact absurd g h;rw[ih d];rfl;rw[aD g]
def M4 (w:aq) (o:Option a') (x:Ending) (w':aq):Prop:=Below w w w'/\match o with
 |none=>∃A,x=.returned (.tuple #[.slice A 0 0,false])
 |some r=>∃g,x=.returned (.tuple #[.slice (some ⟨g,0,none⟩) r r.length,true])/\w.heap.size<=g/\Bk w' g 9 (bz r).toArray
theorem FP (a9:At w A (bz l)) (G:∀s∈l,s.size<=1099511627776) (n cap:Nat) (R:n=l) (y:n<=1099511627776) (W:Int):
  Calls prog 273 #[.agg #[W],(A,n,cap)] w λx w'=>M4 w (jl W l) x w':=by
 have a5:=Bk.new w 274 #[W];have F:=ZD w (.cells #[W] 274);have b9:=Y5 (P:=prog) 23 9 (.string ⟨#[]⟩) 16 underlying23 YN rfl (n:Int) n rfl O O (w.alloc (.cells #[W] 274));have L:=Bk.new (w.alloc (.cells #[W] 274)) 9 (Array.replicate n (.string ⟨#[]⟩));have c3:=J (a5.alloc (.cells (Array.replicate n (.string ⟨#[]⟩)) 9));have d:=J (F.alloc F.size (.cells (Array.replicate n (.string ⟨#[]⟩)) 9));have a7:Array.replicate n (.string ⟨#[]⟩:aI)=(bz (QI (λs=>bs (ext W (aH s)).1) l 0)).toArray:=(by rw[R,WQ]);rw[World.size_alloc] at b9 L;have Ha:=J a9;obtain⟨b5,b1,a6,I⟩:=dc (λ(v:aT) (q:v∈l) W2=>(by have:=Zme W (aH v) Js W2;rw[Zc] at this;exact this:Calls prog 221 #[W,v] W2 (bM W2 (.tuple #[bs (ext W (aH v)).1,((ext W (aH v)).2:Int)])))) a7 L R;generalize (w.alloc (.cells #[W] 274)).alloc (.cells (Array.replicate n (.string ⟨#[]⟩)) 9)=W0 at*;rw[b1.o] at a6;clear a9 G R L a7 b1 a5 F;go_in;go_wp2;go_loopw [16] (λa1 wr=>∃j:Nat,j<=n/\a1=j/\Hid (∀s∈l.take j,(ext W (aH s)).2=0)/\Hid (Bk wr (w.heap.size+1) 9 (bz (QI (λs=>bs (ext W (aH s)).1) l j)).toArray)/\Hid (Bk wr w 274 #[W])/\Hid (Below w w wr)) (λa1 _=>(n-intOf a1).toNat);exact⟨0,cf _,rfl,J (by simp),a6,c3,d⟩;obtain⟨j,d7,rfl,a2,Q,a0,hb⟩:=hrel;by_cases ab:j<n
 .have t:j<l:=iF;obtain⟨b,o,rfl,d3,c6⟩:=Yl (Ha.o.below hb.o) j t;obtain⟨k,b2,B⟩:=bD (b5.o l[j] (dt _)) (dt t) (TF (λs=>bs (ext W (aH s)).1) l j t);have u:=TE (λs=>bs (ext W (aH s)).1) l j O;have a4:l.take (j+1)=l.take j++[l[j]]:=dK t;obtain⟨S,c4⟩:=ay l[j];rw[c4] at c6 k B a4 b2;have c7:=J a4;have b6:=J (show j<(QI (λs=>bs (ext W (aH s)).1) l j).length by rw[u];exact t);have d1:wr.cell? (w,0)=W:=a0.o.cell 0;obtain⟨T,c5⟩:=ay (bs (ext W (aH S)).1);rw[c5] at k B;have d5:(j:Int)<n:=O;have d6:(0:Int)<=j:=O;by_cases M:(ext W (aH S)).2=0
  .rw[M] at k;have c8:=J (show ∀v∈l.take (j+1),(ext W (aH v)).2=0 from λv y=>by rw[c7.o,lc,jv] at y;rcases y with y|rfl;exact a2.o v y;exact M);go_wp21;refine aP (k.o _) λw1 d=>?_;have g:=Q.o.below d Q.o.lt;have b3:=J (a0.o.below d a0.o.lt);have b8:=g.cell j;rw[mF,YD _ _ b6.o] at b8;have d4:=g.frozen j;have a3:=Dl g j T;rw[B.o] at a3;obtain⟨b7,c9,D⟩:=bD a3 (b3.o.off (p:=⟨w+1,j,none⟩) (by simp) (.string T)) ((hb.o.trans (d.mono hb.o.size)).setCell (p:=⟨w+1,j,none⟩) (by simp) (.string T));generalize (QI (λs=>bs (ext W (aH s)).1) l j)[j]=OLD at*;go_wp2;refine⟨⟨j+1,ab,ci,c8,b7,c9,D⟩,?_⟩;simp[intOf]<;>omega
  have z:=J (Ziv b2.o M);have d2:(((ext W (aH S)).2:Int) !=0)=true:=eV;generalize ((ext W (aH S)).2:Int)=E at*;go_wp21;refine aP (k.o _) λw1 d=>?_;have D:=J (hb.o.trans (d.mono hb.o.size));go_wp2;go_returns;refine⟨D.o,?_⟩;rw[z.o];exact⟨none,rfl⟩
 have a8:j=n:=O;have g:=Q.o;rw[a8,I.o,TC] at g;have ff:=J g;have b0:=a2.o;rw[a8,d' og] at b0;have z:=J (Ziu b0);have b4:=J (show(l.map (λs=>bs (ext W (aH s)).1)).length=n by rw[c',I.o]);go_wp2;go_returns;refine⟨hb.o,?_⟩;rw[z.o];exact⟨_,by rw[b4.o];rfl,O,ff.o⟩
theorem Zb2 (y:At w A (bz l)) (k:∀s∈l,s.size<=1099511627776) (n cap:Nat) (F:n=l) (a0:n<=4096) (W:Int):
  Calls prog 269 #[.agg #[W],(A,n,cap)] w (bM w (.tuple #[bs (DY l),true])):=by have q:=ZD w (.cells #[W] 274);have D:=J (JI (y.alloc (.cells #[W] 274)) k n cap F O);have t:n=(ZL l):=(by unfold ZL;exact Fh);have z:=Qq (l:=l) O;have d:=J (λG (B:bN) (c:Nat) (h:At G B (bz (ZL l)))=>X4 h (λs Q=>by have:=z.2 s Q;omega) n c t O);have j:=QE (l:=l) O;have M:((enc (ZL l)).2:Int)=0:=(by rw[j.2];rfl);unfold DY;unfold fZ at d;rw[j.2] at d;have p:=J q;generalize bs (enc (ZL l)).1=SR at*;clear y k F t z j M q;go_in;go_wp21;refine(D.o).mono ?_;rintro x w1 ⟨g,rfl,S,R,I,L⟩;have hb:=p.o.trans (L.mono p.o.size);have E:=J (d.o w1 _ n I);go_wp21;refine aP E.o λa1 aa=>?_;have u:=hb.trans (aa.mono hb.size);exact ES
def yu (b:Nat) (w:aq) (o:Option a') (x:Ending) (w':aq):Prop:=Fr (only b) w w'/\match o with
 |none=>∃A,x=.returned (.tuple #[.slice A 0 0,false])
 |some r=>∃g,x=.returned (.tuple #[.slice (some ⟨g,0,none⟩) r r.length,true])/\w.heap.size<=g/\Bk w' g 9 (bz r).toArray
theorem Df (s:aT):Zb s 0 (s.size:Int)=(s,bs [],0):=by unfold Zb;rw[Vag rfl,aD O,aD O,ep,d' (by rw[Z2];exact aU),oc (by rw[Z2];exact aU),Zc]
theorem Tq (h:RV w b s 0) (c5:s.size<=1000000000) (W:Int):
  Calls prog 241 #[.agg #[W],(b,0)] w λx w'=>yu b w (XH W (aH s)) x w':=by
 have ab:=Bk.lt h;have b6:=Bk.new w 274 #[W];have b5:=ZD w (.cells #[W] 274);have h0:RV (w.alloc (.cells #[W] 274)) b s 0:=Bk.alloc h _;have a6:=J (ZA h0 O);have F:=J (Zr h0 O (s.size:Int));rw[Df] at F;have a4:=J (λz=>QZ (w:=z) s c5 4096);have E:((fl (aH s) 4096).2≠0/\(fl (aH s) 4096).1=[])\/((fl (aH s) 4096).2=0/\(∀t∈(fl (aH s) 4096).1,t.size<=128)/\(fl (aH s) 4096).1.length<=4096):=by rcases XR (aH s) 4096 with (h|h)|⟨l,h,q,d5,d1,c6⟩;rw[h];exact .inl ⟨by simp,rfl⟩;rw[h];exact .inl ⟨by simp,rfl⟩;rw[h];exact .inr ⟨rfl,d1,by simpa using c6⟩
 have b9:XH W (aH s)=if(fl (aH s) 4096).2≠0 then none else jl W (fl (aH s) 4096).1:=rfl;rw[b9];generalize fl (aH s) 4096=D at*;obtain⟨p,e⟩:=D;simp only at E⊢;have I:(∀t∈p,t.size<=1099511627776)/\p.length<=1099511627776:=by rcases E with ⟨_,k⟩|⟨_,k,d4⟩;rw[k];exact I8;exact⟨λt ht=>by have:=k t ht;omega,O⟩
 obtain⟨a5,c8,b4,b1,M,d⟩:=fA (λz (A:bN) (cap:Nat) (B:At z A (bz p))=>FP B I.1 p cap rfl I.2 W) b6 b5 E ab h;obtain⟨R,a0⟩:=ay ((if e≠0 then none else jl W p));rw[a0];have y:=J a0;go_in;go_wp21;refine cp a6.o ?_;go_wp21;refine aP F.o λw1 ⟨a1,G⟩=>?_;have b7:=J ((Fr.of_below (S:=only b) b4.o).trans G);have a2:=J (c8.o.fr G Ak);have b0:=J (a4.o w1);go_wp21;refine(b0.o).mono ?_;rintro x a3 ⟨v,rfl,⟨A,cap,rfl,B⟩,aa⟩;obtain⟨Q,c7,c9⟩:=bD (b7.o.below aa) (a2.o.below aa a2.o.lt) (a5.o a3 A cap B);have d3:a3.cell? (w,0)=W:=c7.o.cell 0;go_wp21;refine(c9.o).mono ?_;rintro x d6 ⟨b3,u⟩;have L:=J (Q.o.below b3);have b2:=J Q.o.size;rcases j:jl W p with _|r;rw[j] at u;obtain⟨A2,rfl⟩:=u;have a7:=J (show R=none by rw[<-y.o,j];split<;>rfl);exact PJ;rw[j] at u;obtain⟨g,rfl,c3,c4⟩:=u;have a9:=J c4;by_cases q:e=0;.have a8:=J c3;have a7:=J (show R=some r by rw[<-y.o,j,aD (by simpa using q)]);subst q;go_wp2;go_returns;refine⟨L.o,?_⟩;rw[a7.o];exact⟨g,rfl,co b2.o a8.o,a9.o⟩
 have a7:=J (show R=none by rw[<-y.o,j,Vag q]);have b8:r.length=0:=by rcases b1.o with ⟨_,k⟩|⟨k,_⟩;rw[k] at j;injection j with j;rw[<-j];rfl;exact absurd k q
 have d2:(((e:Nat):Int)==0)=false:=oe;rw[b8];exact PJ
theorem TU (v:aT):∀(p:a') (last:aT),ly last (p++[v])=ly last p++[bs (jp (aH v) (aH (p.getLastD last))).1]
 |[],last=>rfl
 |a::r,last=>by rw[jw,ly,TU v r a,ly,jw];cases r<;>rfl
theorem JQ (v:aT):∀(p:a') (last:aT),Yh last (p++[v])=Yh last p++[bs (jp (aH v) (aH ((Yh last p).getLastD last))).1]
 |[],last=>rfl
 |a::r,last=>by rw[jw,Yh,JQ v r,Yh,jw];cases r<;>rfl
theorem Q7 (l:a'):∀last,(Yh last l)=l.length:=by
 induction l with
 |nil=>intro _;rfl
 |cons v r ih=>intro last;simp[Yh,ih]
theorem Th (p:a') (v d:aT):(p++[v]).getLastD d=v:=by rw[List.getLastD_eq_getLast?,List.getLast?_concat];rfl
theorem Za5 (a b:ax):(jp a b).1<=a.length:=by unfold jp;split;exact cf _;split;exact cf _;show(List.zipWith mx a b).length<=_;rw[Ah];omega
theorem Vm (w:Int) (c:cj):(mr w c).length<=128:=by unfold mr;split;exact cf _;rename_i h;rw[iE];omega
theorem y_ {p:a'} {x y:aT} {j:Nat} (h:p=j):(p++x::r).set j y=(p++[y])++r:=by rw[nj _ _ O,h,fh,List.set_cons_zero,er];rfl
theorem Zbz (h:∀s∈l,s.size<=N):∀last,∀s∈ly last l,s.size<=N:=by
 induction l with
 |nil=>intro last s d;cases d
 |cons v r ih=>intro last s d;rcases jA.1 d with rfl|d;exact PN;exact ih (λx g=>h x (gM _ g)) v s d
theorem W8 (a b:aT) (d:a.size<=1099511627776) (hb:b.size<=1099511627776) (W:aq):
  cK 275 #[a,b] W (bM W (.tuple #[bs (jp (aH a) (aH b)).1,((jp (aH a) (aH b)).2:Int)])):=by have:=Zhx (aH a) (aH b) (by rw[Z2];exact d) (by rw[Z2];exact hb) W;rw[Zc,Zc] at this;exact this
def sd (last:aT) (l:a') (j:Nat):a':=ly last (l.take j)++List.replicate (l.length-j) ⟨#[]⟩
theorem ZmS (last:aT) (l:a'):(bz (sd last l 0)).toArray=Array.replicate l.length (.string ⟨#[]⟩:aI):=by unfold sd;rw[Vbv,Nat.sub_zero];show(bz (List.replicate l.length ⟨#[]⟩)).toArray=_;exact I7
theorem ZeI (last:aT) (l:a') (j:Nat) (h:j<l):(sd last l j).set j (bs (jp (aH l[j]) (aH ((l.take j).getLastD last))).1)=sd last l (j+1):=by unfold sd;rw[show l.length-j=(l.length-(j+1))+1 by omega,pP,y_ (by rw[C6,ek];omega),<-TU,<-dK h]
theorem ZeH (last:aT) (l:a') (j:Nat) (h:j<=l):(sd last l j)=l.length:=by unfold sd;rw[bV,C6,ek,iE];omega
theorem ZeG (last:aT) (l:a'):sd last l l.length=ly last l:=by unfold sd;rw[Vbq,fh,List.replicate_zero,fg]
theorem ZaX (b7:At w A (bz l)) (y:∀s∈l,s.size<=1099511627776) (n cap:Nat) (F:n=l) (g0:n<=4096) (W:Int):
  Calls prog 268 #[.agg #[W],(A,n,cap)] w (bM w (.tuple #[bs (HQ W l),true])):=by
 have b4:=Bk.new w 274 #[W];have R:=ZD w (.cells #[W] 274);have d3:=Y5 (P:=prog) 23 9 (.string ⟨#[]⟩) 16 underlying23 YN rfl (n:Int) n rfl O O (w.alloc (.cells #[W] 274));have a0:=Bk.new (w.alloc (.cells #[W] 274)) 9 (Array.replicate n (.string ⟨#[]⟩));have b1:=b4.alloc (.cells (Array.replicate n (.string ⟨#[]⟩)) 9);have q:=J (R.alloc R.size (.cells (Array.replicate n (.string ⟨#[]⟩)) 9));obtain⟨Z,D⟩:=ay (bs (mr W 48));have a6:Z.size<=128:=(by rw[<-D,Z0];exact Vm W 48);have b6:Array.replicate n (.string ⟨#[]⟩:aI)=(bz (sd Z l 0)).toArray:=(by rw[F,ZmS]);have b9:=J (λd=>GH W 48 d);rw[D,show(((48:cj).toNat:Nat):Int)=48 from rfl] at b9;rw[World.size_alloc] at d3 a0;have a9:((w.alloc (.cells #[W] 274)).alloc (.cells (Array.replicate n (.string ⟨#[]⟩)) 9)).cell? (w,0)=W:=b1.cell 0;obtain⟨Ha,c7,d5,b8,a2,I⟩:=fA b7 (λ(v u:aT) (e4:v∈l) (e3:u.size<=1099511627776) d=>W8 v u (y v e4) e3 d) y b6 a0 F;have a5:n=(ly Z l):=(by rw[C6];exact F);have c6:=J (λ(d:aq) (B:bN) (h:At d B (bz (ly Z l)))=>JI h (Zbz y Z) n n a5 O);have b5:n=(ZL (ly Z l)):=(by unfold ZL;rw[c'];exact a5);have c4:=Qq (l:=ly Z l) O;have G:=J (λd (B:bN) (c:Nat) (h:At d B (bz (ZL (ly Z l))))=>X4 h (λs e2=>by have:=c4.2 s e2;omega) n c b5 O);have b2:=QE (l:=ly Z l) O;unfold HQ;rw[D];unfold fZ at G;rw[b2.2] at G;generalize bs (enc (ZL (ly Z l))).1=SR at*;generalize (w.alloc (.cells #[W] 274)).alloc (.cells (Array.replicate n (.string ⟨#[]⟩)) 9)=W0 at*;rw[b8.o] at a2;have c8:=J a6;clear b7 y F a0 b6 b8 b4 R b1 a5 b5 c4 b2 D a6;go_in;go_wp21;refine aP (b9.o _) λw1 c3=>?_;have Q:=J (q.o.trans (c3.mono q.o.size));have gk:=J (a2.o.below c3 a2.o.lt);go_wp2;go_loopw [7,20] (λe6 L wr=>∃j:Nat,j<=n/\L=j/\e6=.string ((l.take j).getLastD Z)/\Hid (Bk wr (w.heap.size+1) 9 (bz (sd Z l j)).toArray)/\Hid (Below w w wr)) (λ_ L _=>(n-intOf L).toNat);exact⟨0,cf _,rfl,rfl,gk,Q⟩;obtain⟨j,f9,rfl,rfl,a3,hb⟩:=hrel;by_cases ab:j<n
 .have z:j<l:=iF;obtain⟨b,o,rfl,f4,e1⟩:=Yl (Ha.o.below hb.o) j z;have e7:((l.take j).getLastD Z).size<=1099511627776:=by rcases a4:(l.take j).getLast? with _|u;rw[List.getLastD_eq_getLast?,a4];have:=c8.o;show Z.size<=_;omega;rw[List.getLastD_eq_getLast?,a4];exact d5.o u (Ag (List.mem_of_getLast? a4))
  have a1:=J (c7.o l[j] ((l.take j).getLastD Z) (dt _) e7);have M:=J (ZeI Z l j z);have t:=ZeH Z l j O;have b3:l.take (j+1)=l.take j++[l[j]]:=dK z;obtain⟨S,d8⟩:=ay l[j];rw[d8] at e1 a1 M b3;have d6:=J (show S=(l.take (j+1)).getLastD Z by rw[b3,Th]);have c9:=J (show j<(sd Z l j) by rw[t];exact z);obtain⟨T,d9⟩:=ay (bs (jp (aH S) (aH ((l.take j).getLastD Z))).1);rw[d9] at a1 M;generalize ((jp (aH S) (aH ((l.take j).getLastD Z))).2:Int)=E at*;generalize (l.take j).getLastD Z=U at*;have f6:(j:Int)<n:=O;have f8:(0:Int)<=j:=O;go_wp21;refine aP (a1.o _) λw1 q=>?_;have k:=a3.o.below q a3.o.lt;have a9:=k.cell j;rw[mF,YD _ _ c9.o] at a9;have f5:=k.frozen j;have b0:=Dl k j T;rw[M.o] at b0;have d1:=J b0;have Q:=J ((hb.o.trans (q.mono hb.o.size)).setCell (p:=⟨w+1,j,none⟩) (by simp) (.string T));generalize (sd Z l j)[j]=OLD at*;go_wp2;refine⟨⟨j+1,ab,ci,by rw[<-d6.o],d1,Q⟩,?_⟩;simp[intOf]<;>omega
 have d7:j=n:=O;have k:=a3.o;rw[d7,I.o,ZeG] at k;have a8:=k.at_;rw[Cc] at a8;have c5:=J (c6.o wr _ a8);generalize (l.take j).getLastD Z=U at*;go_wp21;refine(c5.o).mono ?_;rintro x e8 ⟨g,rfl,f7,f3,d4,aa⟩;have a7:=hb.o.trans (aa.mono hb.o.size);have f2:=J (G.o e8 _ n d4);go_wp21;refine aP f2.o λg1 d2=>?_;have e5:=a7.trans (d2.mono a7.size);go_wp2;go_returns;exact⟨rfl,e5⟩
theorem RO (h:∀s∈l,s.size<=N):∀last,∀s∈Yh last l,s.size<=N:=by
 induction l with
 |nil=>intro last s d;cases d
 |cons v r ih=>intro last s d;rcases jA.1 d with rfl|d;exact PN;exact ih (λx g=>h x (gM _ g)) _ s d
def th (last:aT) (l:a') (j:Nat):a':=Yh last (l.take j)++l.drop j
theorem ZgT (last:aT) (l:a') (j:Nat) (h:j<l):(th last l j).set j (bs (jp (aH l[j]) (aH ((Yh last (l.take j)).getLastD last))).1)=th last l (j+1):=by unfold th;rw[kw h,y_ (by rw[Q7,ek];omega),<-JQ,<-dK h]
theorem ZgS (last:aT) (l:a') (j:Nat) (h:j<=l):(th last l j)=l.length:=by unfold th;rw[bV,Q7,ek,iW];omega
theorem Zkg (last:aT) (l:a') (j:Nat) (h:j<l):(bz (th last l j))[j]? =some (.string l[j]):=by unfold th bz;rw[jX,pO (by rw[Q7,ek];omega),Q7,ek,show j-min j l.length=0 by omega,List.getElem?_drop,Vcj,fb h];rfl
theorem ZgR (last:aT) (l:a'):th last l l.length=Yh last l:=by unfold th;rw[Vbq,wY,fg]
theorem Zqg (last:aT) (l:a') (j:Nat) (h:j<l):(Yh last (l.take (j+1))).getLastD last=bs (jp (aH l[j]) (aH ((Yh last (l.take j)).getLastD last))).1:=by rw[dK h,JQ,Th]
theorem Z9f {last:aT} (h:∀s∈l,s.size<=N) (d:last.size<=N) (j:Nat):((Yh last (l.take j)).getLastD last).size<=N:=by rw[List.getLastD_eq_getLast?];rcases g:(Yh last (l.take j)).getLast? with _|u;exact d;exact RO (λs k=>h s (Ag k)) last u (List.mem_of_getLast? g)
theorem QO {W:Int} {s:ax} (h:XH W s=some r):(∀v∈r,v.size<=128)/\r.length<=4096:=by unfold XH at h;split at h;cases h;obtain⟨h1,d⟩:=JD h;refine⟨λv j=> ?_,?_⟩;have:=(Zp.1 (ZN.1 (h1 v j)).1).2.2;rw[Z2] at this;exact this;rw[d];rcases XR s 4096 with (h|h)|⟨l,h,_,_,_,g⟩;rw[h];exact cf _;rw[h];exact cf _;rw[h];exact g
theorem Zc0 (h:RV w b s 0) (e1:s.size<=1000000000) (W:Int):
  Calls prog 240 #[.agg #[W],(b,0)] w λx w'=>yu b w ((XH W (aH s)).map (Yh (bs (mr W 48)))) x w':=by
 have ab:=Bk.lt h;have b2:=Bk.new w 274 #[W];have d3:=ZD w (.cells #[W] 274);have h0:RV (w.alloc (.cells #[W] 274)) b s 0:=Bk.alloc h _;have b9:=J (Tq h0 e1 W);have a7:=J (λQ=>GH W 48 Q);obtain⟨Z,a5⟩:=ay (bs (mr W 48));have c5:Z.size<=128:=(by rw[<-a5,Z0];exact Vm W 48);rw[a5,show(((48:cj).toNat:Nat):Int)=48 from rfl] at a7;rw[a5];have e7:(w.alloc (.cells #[W] 274)).cell? (w,0)=W:=b2.cell 0;have a6:=λr=>QO (W:=W) (s:=aH s) (r:=r);generalize XH W (aH s)=d at*;have G:=J (rfl:d.map (Yh Z)=d.map (Yh Z));obtain⟨R,b5⟩:=ay (d.map (Yh Z));rw[b5];obtain⟨G,e3,d2,c6,c7,M⟩:=fA b5 b2 d3 c5 a6 ab;have c8:(w.alloc (.cells #[W] 274))=w.heap.size+1:=World.size_alloc _ _;have L:=J c8;go_in;go_wp21;refine(b9.o).mono ?_;rintro x w1 ⟨b1,b8⟩;have b4:=J ((Fr.of_below (S:=only b) d2.o).trans b1);have d4:=e3.o.fr b1 Ak;have e8:w1.cell? (w,0)=W:=d4.cell 0;rcases d with _|r;.obtain⟨A,rfl⟩:=b8;have a2:=J (show R=none from G.o.symm);go_wp21;refine aP (a7.o _) λe6 aa=>?_;have y:=J (b4.o.below aa);go_wp2;go_loopw [22] (λt wr=>t=(0:Int)/\Hid (Fr (only b) w wr)) (λ_ _=>0);exact⟨rfl,y⟩;obtain⟨rfl,F⟩:=hrel;go_wp2;go_returns;refine⟨F.o,?_⟩;rw[a2.o];exact⟨_,rfl⟩
 obtain⟨g,rfl,f4,q⟩:=b8;have a2:=J (show R=some (Yh Z r) from G.o.symm);have a8:=J (show w.heap.size+1<=g by have:=L.o;omega);have a0:=c7.o r rfl;have a9:=J q;have d6:=J a0.1;have d5:=a0.2;have c4:=J (λ(v u:aT) (e2:v∈r) (f6:u.size<=128) Q=>W8 v u (by have:=a0.1 v e2;omega) O Q);obtain⟨n,b7⟩:=ay r.length;have I:=J b7;rw[b7] at d5⊢;go_wp21;refine aP (a7.o _) λe6 aa=>?_;have y:=J (b4.o.below aa);have gk:=J (a9.o.below aa a9.o.lt);go_wp2;go_loopw [8,22] (λe4 t wr=>∃j:Nat,j<=n/\t=j/\e4=.string ((Yh Z (r.take j)).getLastD Z)/\Hid (Bk wr g 9 (bz (th Z r j)).toArray)/\Hid (Fr (only b) w wr)) (λ_ t _=>(n-intOf t).toNat);exact⟨0,cf _,rfl,rfl,gk,y⟩;obtain⟨j,f5,rfl,rfl,q,F⟩:=hrel;by_cases ab:j<n
 .have D:j<r.length:=xh;have b6:=q.o.cell j;rw[mF,Zkg Z r j D] at b6;have e5:=Z9f (l:=r) d6.o c6.o j;have a3:=J (c4.o r[j] _ (dt _) e5);have B:=J (ZgT Z r j D);have z:=ZgS Z r j O;have a4:=J (Zqg Z r j D);obtain⟨S,d8⟩:=ay r[j];rw[d8] at b6 a3 B a4;have b0:=J (show j<(th Z r j) by rw[z];exact D);obtain⟨T,d9⟩:=ay (bs (jp (aH S) (aH ((Yh Z (r.take j)).getLastD Z))).1);rw[d9] at a3 B a4;generalize ((jp (aH S) (aH ((Yh Z (r.take j)).getLastD Z))).2:Int)=E at*;generalize (Yh Z (r.take j)).getLastD Z=U at*;have f2:(j:Int)<n:=O;have f3:(0:Int)<=j:=O;go_wp21;refine aP (a3.o _) λw1 b3=>?_;have k:=q.o.below b3 q.o.lt;have d1:=k.cell j;rw[mF,YD _ _ b0.o] at d1;have e9:=k.frozen j;have a1:=Dl k j T;rw[B.o] at a1;have c9:=J a1;have f7:(w1.setCell (g,j) (.string T)).cell? (g,j)=T:=by rw[a1.cell j,<-B.o,mF];unfold bz;rw[jX,List.getElem?_set_self b0.o];rfl
  have y:=J ((F.o.below b3).setCell (p:=⟨g,j,none⟩) (.inr (by have:=a8.o;exact dz)) (.string T));generalize (th Z r j)[j]=OLD at*;go_wp2;refine⟨⟨j+1,ab,ci,by rw[a4.o],c9,y⟩,?_⟩;simp[intOf]<;>omega
 have d7:j=n:=O;have k:=q.o;rw[d7,<-I.o,ZgR] at k;have ff:=J k;have c3:=J (show(Yh Z r).length=n by rw[Q7,I.o]);generalize (Yh Z (r.take j)).getLastD Z=U at*;go_wp2;go_returns;refine⟨F.o,?_⟩;rw[a2.o];exact⟨g,by rw[c3.o];rfl,by have:=a8.o;omega,ff.o⟩
theorem YK (a:List Int) (x:Int):bO (a++[x])=bO a++[.int .i64 x]:=by simp[bO,iv]
theorem WB (a b:aT) (d:a.size<=1099511627776) (hb:b.size<=1099511627776) (W:aq):
  cK 274 #[a,b] W (bM W (.tuple #[bs (qc (aH a) (aH b)).1,.bool (qc (aH a) (aH b)).2])):=by have:=Zhn (aH a) (aH b) (by rw[Z2];exact d) (by rw[Z2];exact hb) W;rw[Zc,Zc] at this;exact this
theorem kE {i:Nat} (h:i<l):l.getD i default=l[i]:=by rw[pf,fb h];rfl
theorem Zhr (a9:At w A (bz l)) (a4:∀s∈l,s.size<=1099511627776) (n cap:Nat) (b1:n=l) (g6:n<=4096) (st:aT) (a3:st.size<=1099511627776):
  Calls prog 297 #[(A,n,cap),st] w λx w'=>∃v,x=.returned v/\hG w' v (iD l st)/\Below w w w':=by
 obtain⟨Ha,I,b6,f4,d3⟩:=ii a9 b1 (λ(v:aT) (R:v∈l) p=>WB v st (a4 v R) a3 p) (Zl (w:=w) (base:=w.heap.size) (e:=3) (size:=1)) (bf w w);clear a9 b1 a4 a3;go_in;go_wp2;go_loopw [5,6] (λf2 a0 wr=>∃k:Nat,(k=0\/k+1<=n)/\a0=((k:Int)+1:Int)/\Hid (wr.ownsRow w 3 1 f2 (jL l st k) (bO (jL l st k)))/\Hid (Below w w wr)) (λ_ a0 _=>(n-intOf a0).toNat);exact⟨0,.inl rfl,rfl,f4,d3⟩;obtain⟨k,g5,rfl,F,hb⟩:=hrel;obtain⟨A5,a2,a7,rfl⟩:=Z7 F.o;by_cases ab:k+1<n
 .have a6:k+1<l.length:=iF;have b4:k<l:=O;obtain⟨b,o,rfl,g1,e3⟩:=Yl (Ha.o.below hb.o) k b4;have c4:∀p,Below wr wr p->p.cell? (b,o+(k+1))=some (.string l[k+1]):=λp d9=>by obtain⟨f8,g7,M,_,d8⟩:=Yl ((Ha.o.below hb.o).mono aU d9) (k+1) a6;injection M with M;injection M with h1 u;subst h1;subst u;exact d8
  have b3:=J c4;have t:=J (b6.o l[k] (dt _));have z:wC l st k=decide (qc (aH l[k]) (aH st)=(aH l[k+1],true)):=by unfold wC;rw[kE b4,kE a6]
  have f3:=Zit l st k;have e4:=Lp l st k;obtain⟨c5,e7⟩:=ay l[k];obtain⟨j,e8⟩:=ay l[k+1];rw[e7] at e3 t z;rw[e8] at b3 z;obtain⟨⟨r,q⟩,hr⟩:=ay (qc (aH c5) (aH st));rw[hr] at t z;simp only at t;have e6:wC l st k=(q&&decide (bs r=j)):=by rw[z,lN,gm,fq,fq,Prod.mk.injEq];constructor;rintro⟨h1,u⟩;exact⟨u,by rw[h1,Zc]⟩;rintro⟨h1,u⟩;exact⟨by rw[<-u,Zm],h1⟩
  have f5:=J e6;have b9:=J f3
  have d7:∀X:aT,bs r=X->(if q=true/\X=j then jL l st (k+1)=jL l st k else jL l st (k+1)=jL l st k++[(k:Int)+1]):=λX D=>by subst D;rw[b9.o,f5.o];by_cases E:q=true;by_cases d:bs r=j;rw[Vag ⟨E,d⟩,E,dd d];rfl;rw[aD (λh=>d h.2),cI d,Bool.and_false,aD (by simp)];rw[aD (λh=>E h.1),aD (by simp[E])]
  obtain⟨X,D⟩:=ay (bs r);have a1:=J (d7 X D);rw[D] at t;have e9:(jL l st k).length+1<=4096:=O;have a8:=J e9;have i1:IntKind.i64.wrap ((k:Int)+1-1)=(k:Int):=pn;have g0:(0:Int)<=k:=O;have f7:(k:Int)<n:=O;have f9:(k:Int)+1<(n:Int):=O;have g3:(k:Int)+1-1=(k:Int):=O;go_wp21;refine aP (t.o _) λw1 L=>?_;have d5:=b3.o w1 L;have b0:w1.cell? (b,o+((k:Int)+1).toNat)=j:=by rw[show((k:Int)+1).toNat=k+1 by omega];exact d5
  have g4:((k:Int)+1).toNat=k+1:=O;have a5:=Z6 F.o (Fr.of_below (S:=nob) L) (λ_ _ f=>f);have G:=J (hb.o.trans (L.mono hb.o.size));obtain⟨v',b8,c9,d2,c8,_⟩:=ZU (P:=prog) 123 3 _ _ underlying123 Y2 rfl (w:=w1) a5 G.o G.o.size ((k:Int)+1:Int) rfl (by have:=a8.o;exact fU) (by have:=a8.o;omega);obtain⟨b7,y,B,d4⟩:=dc c9 d2 c8 a5;cases q;have g:=J (show jL l st (k+1)=jL l st k++[(k:Int)+1] by have:=a1.o;rwa [aD (by simp)] at this);exact N9;by_cases d:X=j;.have g:=J (show jL l st (k+1)=jL l st k by have:=a1.o;rwa [Vag ⟨rfl,d⟩] at this);have c6:(X.toList !=j.toList)=false:=(by rw[Ky,d];simp);have Q:(X.toList==j.toList)=true:=(by rw[Qw,d];simp);have c3:=J (show w1.ownsRow w 3 1 (.slice A5 a2 a7) (jL l st (k+1)) (bO (jL l st (k+1))) by rw[g.o];exact d4.o);go_wp2;refine⟨⟨k+1,.inr ab,ci,c3,G⟩,?_⟩;simp[intOf]<;>omega
  have g:=J (show jL l st (k+1)=jL l st k++[(k:Int)+1] by have:=a1.o;rwa [aD (λh=>d h.2)] at this);have c6:(X.toList !=j.toList)=true:=(by rw[Ky,cI d];rfl);have Q:(X.toList==j.toList)=false:=(by rw[Qw,cI d]);have f6:=b7;exact N9
 have d6:n-1=k:=O;have g2:¬(k:Int)+1<(n:Int):=O;have c7:Hid (hG wr (.slice A5 a2 a7) (iD l st)):=J (by obtain⟨b5,e5,R,d1⟩:=Zh F.o;unfold iD;rw[<-I.o,d6];exact⟨b5,e5,R,d1⟩);go_wp2;go_returns;exact⟨_,rfl,c7.o,hb.o⟩
end Go.Proofs.Y
namespace Wv
open Go.Proofs.Tryz Go Go.RowKit
open Classical in
noncomputable def lk (l:List MapEntry) (k:Value):Option Value:=(l.find? (λe=>decide (e.key=k))).map (·.val)
theorem Qj {e:MapEntry} {t:List MapEntry} {k:aI} (h:e.key=k):lk (e::t) k=some e.val:=by unfold lk;grind
theorem YB {e:MapEntry} {t:List MapEntry} {k:aI} (h:e.key≠k):lk (e::t) k=lk t k:=by unfold lk;grind
theorem Hh {d:TypeDesc} {k:aI} (D:MapKept.IsKey d k):∀(l:List MapEntry) (i:Nat),(∀x∈l,MapKept.IsKey d x.key)->
  (Instr.findNow d k l i=some none/\lk l k=none)\/∃j v,Instr.findNow d k l i=some (some (i+j,v))/\lk l k=some v/\(∃e,l[j]? =some e/\e.key=k)/\
   ∀u,lk (l.modify j λe=> { e with key:=k,val:=u }) k=some u/\∀k',k'≠k->lk (l.modify j λe=> { e with key:=k,val:=u }) k'=lk l k'
 |[],i,_=>.inl ⟨rfl,rfl⟩
 |e::t,i,h=>by
  obtain⟨r,z,E⟩:=MapKept.sameNow_of_keys D (h e (.head _));cases r with
  |true=>have B:=E.1 rfl;refine .inr ⟨0,e.val,by simp[Instr.findNow,z],Qj B.symm,⟨e,rfl,B.symm⟩,λu=>⟨?_,λk' p=> ?_⟩⟩;show lk ({ e with key:=k,val:=u } ::t) k=_;rw[Qj rfl];show lk ({ e with key:=k,val:=u } ::t) k'=_;rw[YB (λh=>p h.symm),YB (λh=>p aO)]
  |false=>have w:e.key≠k:=λq=>aO;rcases Hh D t (i+1) (λx I=>h x (.tail _ I)) with ⟨h1,y⟩|⟨j,v,h1,y,⟨F,L,G⟩,h5⟩;exact .inl ⟨by simp[Instr.findNow,z,h1],by rw[YB w,y]⟩;refine .inr ⟨j+1,v,by simp[Instr.findNow,z,h1];omega,by rw[YB w,y],⟨F,aO,G⟩,λu=>⟨?_,λk' p=> ?_⟩⟩;show lk (e::t.modify j _) k=_;rw[YB w];grind;show lk (e::t.modify j _) k'=_;by_cases g:e.key=k';rw[Qj g,Qj g];rw[YB g,YB g];exact(h5 u).2 k' p
theorem b_ (l:List MapEntry) (e:MapEntry) (h:lk l e.key=none):lk (l++[e]) e.key=some e.val/\∀k,k≠e.key->lk (l++[e]) k=lk l k:=by
 induction l with
 |nil=>exact⟨Qj rfl,λk j=>YB (λh=>j h.symm)⟩
 |cons a t ih=>by_cases g:a.key=e.key;rw[Qj g] at h;cases h;rw[YB g] at h;obtain⟨i1,p⟩:=ih h;refine⟨?_,λk j=> ?_⟩;rw[jw,YB g,i1];rw[jw];by_cases d:a.key=k;rw[Qj d,Qj d];rw[YB d,YB d,p k j]
def eC (d:TypeDesc) (w:aq) (b:Nat) (M:aI->Option aI):Prop:=∃es clock,w.heap[b]? =some (.map es clock)/\(∀x∈es.toList,MapKept.IsKey d x.key)/\∀k,MapKept.IsKey d k->lk es.toList k=M k
section
variable {P:Program} {d:TypeDesc} {w w':aq} {b:Nat} {M:aI->Option aI} {t kt et:TypeId}
theorem eC.lt (h:eC d w b M):b<w:=by obtain⟨es,c,h1,_⟩:=h;grind
theorem eC.of (h:eC d w b M) (j:w'.heap[b]? =w.heap[b]?):eC d w' b M:=by obtain⟨es,c,h1,g⟩:=h;exact⟨es,c,j.trans h1,g⟩
theorem eC.below {B:Nat} (h:eC d w b M) (hb:Below B w w') (g:b<B):eC d w' b M:=h.of (hb.block b g)
theorem eC.fr {S:Nat->Prop} (h:eC d w b M) (j:Fr S w w') (g:¬S b):eC d w' b M:=h.of (j.block b h.lt g)
theorem eC.drew (h:eC d w b M):eC d w.drew b M:=h
theorem eC.drewN (h:eC d w b M) (n:Nat):eC d (w.drewN n) b M:=h
theorem eC.alloc (h:eC d w b M) (o:Obj):eC d (w.alloc o) b M:=h.of (Below.heap_alloc w o b h.lt)
theorem eC.new (d:TypeDesc) (w:aq):eC d (w.alloc (.map #[] 0)) w (λ_=>none):=⟨#[],0,heap_alloc_new w _,(λx g=>aO),λk _=>rfl⟩
theorem eC.get (ht:P.underlying t=some (.map kt et)) (hd:P.underlying kt=some d) (h:eC d w b M) (k v:aI) (p:MapKept.IsKey d k) (y:M k=some v):
  (Instr.lookup t (.map (some b)) k false).run P w=.ok v w/\(Instr.lookup t (.map (some b)) k true).run P w=.ok (.tuple #[v,true]) w:=by obtain⟨es,c,h1,q,u⟩:=h;have g:=λe=>MapKept.run_checkKey (w:=w) hd p e 9999;rcases Hh p es.toList 0 q with ⟨f1,l⟩|⟨j,z,f1,l,_,_⟩;exact aO;rw[u k p,y] at l;injection l with l;subst l;constructor;exact OP;exact OP
theorem eC.miss (ht:P.underlying t=some (.map kt et)) (hd:P.underlying kt=some d) (h:eC d w b M) (k z:aI) (l:MapKept.IsKey d k) (B:M k=none) (u:(zeroValue et).run P w=.ok z w):
  (Instr.lookup t (.map (some b)) k false).run P w=.ok z w/\(Instr.lookup t (.map (some b)) k true).run P w=.ok (.tuple #[z,false]) w:=by obtain⟨es,c,h1,q,y⟩:=h;have g:=λe=>MapKept.run_checkKey (w:=w) hd l e 9999;rcases Hh l es.toList 0 q with ⟨f1,p⟩|⟨j,D,f1,p,_,_⟩;constructor;exact Oi;exact Oi;grind
theorem eC.put (Q:P.underlying t=some (.map kt et)) (hd:P.underlying kt=some d) (h:eC d w b M) (k v:aI) (u:MapKept.IsKey d k):
  ∃w',(Instr.mapUpdate t (.map (some b)) k v).run P w=.ok () w'/\(∀l,l k=some v->(∀x,x≠k->l x=M x)->eC d w' b l)/\Fr (λj=>j=b) w w'/\w'.heap.size=w.heap.size:=by have ab:=h.lt;obtain⟨es,c,h1,G,I⟩:=h;have D:=MapKept.run_checkKey (w:=w) hd u false 9999;have E:∀o,Fr (λj=>j=b) w { w with heap:=w.heap.setIfInBounds b o } :=λo=>⟨rfl,rfl,rfl,by simp,λr a1 a0=>aO⟩;rcases Hh u es.toList 0 G with ⟨f1,q⟩|⟨j,v',f1,q,⟨e,R,F⟩,f5⟩;refine⟨{ w with heap:=w.heap.setIfInBounds b (.map (es.push { key:=k,val:=v,born:=c }) (c+1)) },?_,λl p z=> ?_,E _,by simp⟩;unfold Instr.mapUpdate;simp only[Sem.run_bind,run_underlying Q,Result.andThen_ok,MapKept.run_getObj_map h1,D,MapKept.run_findKey hd f1,MapKept.run_setObj_map _ h1];refine⟨_,_,(MapKept.heap_set h1).1,?_,?_⟩;exact aO;intro x y;rw[Array.toList_push];by_cases g:x=k;subst g;rw[p];exact(b_ _ { key:=x,val:=v,born:=c } q).1;rw[z x g,<-I x y];exact(b_ _ { key:=k,val:=v,born:=c } q).2 x g;have L:es[j]? =some e:=(by simpa using R);refine⟨{ w with heap:=w.heap.setIfInBounds b (.map (es.modify j λe=> { e with key:=k,val:=v }) c) },?_,λl p z=> ?_,E _,by simp⟩;simp[Instr.mapUpdate,run_underlying Q,MapKept.run_getObj_map h1,D,MapKept.run_findKey hd f1,L,F,MapKept.run_keyThatStays u,MapKept.run_setObj_map _ h1,Result.andThen];refine⟨_,_,(MapKept.heap_set h1).1,?_,?_⟩;exact MapKept.isKey_modify G _ _ (λS B=>by rw[L] at B;cases B;exact F.symm);intro x y;rw[Array.toList_modify];by_cases g:x=k;subst g;rw[p];exact(f5 v).1;rw[z x g,<-I x y];exact(f5 v).2 x g
end
