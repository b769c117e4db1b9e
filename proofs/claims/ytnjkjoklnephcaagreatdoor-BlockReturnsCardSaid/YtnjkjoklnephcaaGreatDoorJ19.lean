import Derived.Test.YtnjkjoklnephcaaGreatDoorJ11
import Derived.Test.YtnjkjoklnephcaaGreatDoorJ17
set_option linter.all false
set_option maxRecDepth 100000
set_option maxHeartbeats 0
section
variable{P Q:Prop}
theorem Fi(h:P:=by unfold only;omega):P:=h
theorem Jw(h:P:=by rw[Z2];exact G v q):P:=h
theorem Ju(h:P:=by have:=Z3F _ s a0;omega):P:=h
theorem Cs(h:P:=by unfold Z9;rw[Y3];exact v3):P:=h
theorem Jn(h:P:=by rw[World.size_alloc];omega):P:=h
theorem Ao(h:P:=by have:=F.o;unfold only;omega):P:=h
theorem Jd(h:P:=by unfold q4;rw[D];exact XG p _):P:=h
theorem E3(h:P:=by unfold q5;rw[g];exact YS p _):P:=h
theorem I9(h:P:=by exact⟨λt ht=>(by cases ht),cf _⟩):P:=h
theorem I8(h:P:=by unfold bD;rw[List.map_replicate];rfl):P:=h
theorem E6(h:P:=by go_wp2;go_returns;exact⟨by rw[t.o];rfl,hb.o⟩):P:=h
theorem Rk(h:P:=by go_wp2;go_returns;refine⟨a2.o,?_⟩;rw[a8.o];exact⟨_,rfl⟩):P:=h
theorem PZ(h:P:=by rcases Classical.em (X=aH data) with h|h;exact h;exact absurd (.inr h) p):P:=h
theorem P0(h:P:=by rw[Z0];have:=Zad (aH v) (aH last);rw[Z2] at this;exact cp this (h v fm)):P:=h
theorem O3(h:P:=by unfold Instr.lookup;simp only[Sem.run_bind,Sem.run_pure,run_underlying ht,Result.andThen_ok,MapKept.run_getObj_map h1,g,MapKept.run_findKey hd f1];rfl):P:=h
theorem OZ(h:P:=by unfold Instr.lookup;simp only[Sem.run_bind,Sem.run_pure,run_underlying ht,Result.andThen_ok,MapKept.run_getObj_map h1,g,MapKept.run_findKey hd f1,u];rfl):P:=h
theorem NF(h:P:=by
 by_cases D:g=0
 .right;have e2:X≠aH data:=p.resolve_left (λh=>h D);have a7:((bs X).toList==data.toList)=false:=by rw[XM,uN];intro h;exact e2 (by rw[<-h,Zk])
  refine⟨by rw[D];rfl,by rw[bne,a7];rfl,a7⟩
 left;rw[kx];omega):P:=h
theorem Oi(h:P:=by
 have c3:=J (show b0.ownsRow w 3 1 v' (jQ l st (k+1)) (bQ (jQ l st (k+1))) by rw[g.o,YO,bT];exact t.o)
 go_wp2_with (
  at_builtin;refine Z5 (by with_reducible rfl) rfl _ _ _ rfl _ _ (by rfl) (by rfl) b8.o ?_);refine⟨⟨k+1,.inr ab,by go_num,c3,y⟩,?_⟩;simp[intOf]<;>omega):P:=h
end
namespace Go.Proofs.Y
open Tryz Wv Go.RowKit
section
variable{c:Nat}{l:bd}{s:ax}{w:au}
theorem ZjK (data:aS) (hd:data.size<=1000000000):
  dt 196 #[data] w λx w'=>vk w (X5 (aH data)) x w':=by
 match h1:dI (aH data) 1 with
 |none=>obtain⟨e,g,k⟩:=Y8 h1;have l:X5 (aH data)=none:=(by unfold X5;rw[h1]);rw[l];exact WM data O 0 data e data e k (XG g 4096) g aW
 |some (c,s1)=>
  obtain⟨n1,q,p⟩:=Zx h1;match h2:dI s1 4096 with
  |none=>obtain⟨e,g,k⟩:=Y8 h2;have l:X5 (aH data)=none:=(by unfold X5;rw[h1];simp only;rw[h2]);rw[l];exact WM data O c (bs s1) 0 (bs s1) e n1 k g p
  |some (n,s2)=>exact ZfO data hd c n s1 s2 h1 h2
theorem Zmn {ws:bd} {A B:List Int×Nat} (h:fin c ws A B=some l):∃Z,ZL ws Z []=(l,0):=by
 unfold fin at h;obtain⟨Z,hZ⟩:=ay ((if c=1 then(ZW A.1).1.map Int.ofNat else A.1).zip (B.1.map (· +1)));rw[hZ] at h;split at h;cases h;split at h;cases h;split at h;cases h;split at h;.rename_i h0;injection h with h;exact⟨_,Prod.ext h h0⟩
 cases h
theorem ZfL (h:X5 s=some l):∃c k A B n g s3,fin c k A B=some l/\Yp n g=some (k,s3):=by
 unfold X5 at h;match h1:dI s 1,h with
 |none,h=>cases h
 |some (c,s1),h=>
  simp only at h;match h2:dI s1 4096,h with
  |none,h=>cases h
  |some (n,g),h=>
   simp only at h;match p:Yp n g,h with
   |none,h=>cases h
   |some (k,s3),h=>
    simp only at h;match h4:fs s3 s.length,h with
    |none,h=>cases h
    |some (a,s4),h=>exact⟨_,_,_,_,n,g,s3,h,p⟩
theorem Z94 (n:Nat):∀ {s:ax} {k:bd} {t:ax},Yp n s=some (k,t)->∀x∈k,x.size<=128:=by
 induction n with
 |zero=>intro s k t h x q;rw[Yp] at h;injection h with h;injection h with h1 g;subst h1;cases q
 |succ n ih=>
  intro s k t h x q;match h1:fs s 128 with
  |none=>rw[UV h1] at h;cases h
  |some (a,u)=>
   rw[UU h1] at h;match g:Yp n u with
   |none=>rw[g] at h;cases h
   |some (l,v)=>rw[g] at h;injection h with h;injection h with y z;subst y;rcases jx.1 q with p|p;rw[p,Z0];exact(JV h1).2.2.2;exact ih g x p
theorem Z8t (d:bd) (hd:∀x∈d,x.size<=128) (Z:List (Int×Int)):∀acc:bd,(∀x∈acc,x.size<=128)->acc.length<=4096->(∀x∈(ZL d Z acc).1,x.size<=128)/\(ZL d Z acc).1.length<=4096:=by
 induction Z with
 |nil=>intro acc h1 h2;exact⟨h1,h2⟩
 |cons z Z ih=>intro acc h1 h2;rw[ZL];split;exact⟨by simp,by simp⟩;rename_i c1;split;exact⟨by simp,by simp⟩;refine ih _ (λx hx=> ?_) ?_;rcases kY.1 hx with h|h;exact h1 x h;rw[(Ck.1 h).2];have:z.1.toNat<d:=O;have e:d.getD z.1.toNat default=d[z.1.toNat]:=(by simp[List.getD,this]);rw[e];exact hd _ (dr _);exact Cu
theorem JR (h:X5 s=some l):(∀x∈l,x.size<=128)/\l.length<=4096:=by obtain⟨c,p,A,B,n,q,s3,h1,g⟩:=ZfL h;obtain⟨Z,k⟩:=Zmn h1;have:=Z8t p (Z94 n g) Z [] (by simp) (by simp);rw[k] at this;exact this
theorem FP (data:aS) (hd:data.size<=1000000000) (most:Int):
  Calls prog 149 #[data,most] w λx w'=>pd w (fw (aH data) most) x w':=by
 have u:=J (ZjK (w:=w) data hd);unfold fw;match hr:X5 (aH data) with
 |none=>rw[hr] at u;simp only;clear hr hd;go_in;go_wp21;refine(u.o).mono ?_;rintro x w1 ⟨v,rfl,k,hb⟩;simp only[Option.isSome_none];clear k;go_wp2;go_returns;exact Qv 12 hb
 |some l=>
  rw[hr] at u;simp only;obtain⟨E,R⟩:=JR hr;have B:=J (λW A cap (h:At W A (bD l))=>X9 h (λs k=>by have:=E s k;omega) l cap rfl O);obtain⟨⟨X,g⟩,hX⟩:=ay (enc l);rw[hX] at B⊢;simp only;clear hr hd hX E;by_cases p:g≠0\/X≠aH data
  .rw[aP p];have q:((g:Int) !=0)=true\/(((g:Int) !=0)=false/\(((bs X).toList !=data.toList)=true/\((bs X).toList==data.toList)=false)):=NF;clear p;rcases q with q|⟨q,q2,q3⟩
   all_goals
    go_in;go_wp21;refine(u.o).mono ?_;rintro x w1 ⟨v,rfl,k,hb⟩;simp only[Option.isSome_some];obtain⟨A,cap,rfl,t⟩:=k l rfl;have y:=J (B.o _ _ cap t);clear k t;go_wp21;refine aO y.o λG aa=>?_;have z:=hb.trans (aa.mono hb.size);go_wp2;go_returns;exact Qv 12 z
  rw[az p];have D:g=0:=O;have Q:X=aH data:=PZ;subst D;subst Q;have q2:((bs (aH data)).toList !=data.toList)=false:=(by rw[Zd,yH]);have q3:((bs (aH data)).toList==data.toList)=true:=(by rw[Zd,IF]);clear p;by_cases F:most<(l.length:Int);.rw[aP F];go_in;go_wp21;refine(u.o).mono ?_;rintro x w1 ⟨v,rfl,k,hb⟩;simp only[Option.isSome_some];obtain⟨A,cap,rfl,t⟩:=k l rfl;have y:=J (B.o _ _ cap t);clear k t;go_wp21;refine aO y.o λG aa=>?_;have z:=hb.trans (aa.mono hb.size);go_wp2;go_returns;exact Qv 2 z
  rw[az F];go_in;go_wp21;refine(u.o).mono ?_;rintro x w1 ⟨v,rfl,k,hb⟩;simp only[Option.isSome_some];obtain⟨A,cap,rfl,t⟩:=k l rfl;have y:=J (B.o _ _ cap t);have I:=J t;clear k t;go_wp21;refine aO y.o λG aa=>?_;have z:=hb.trans (aa.mono hb.size);have M:=I.o.below aa;go_wp2;go_returns;exact⟨_,rfl,⟨A,cap,rfl,M⟩,z⟩
theorem Zix (c:Nat) (l:bd) (g:l.length<=4096):(sw c l).length<9223372036854775808:=by have h1:=Qj (Yj c l) (λv k=>by have:=C6 c l g v k;omega);have p:=YC (da l) l;rw[YM] at h1;show(jj (Yj c l)).length<_;omega
theorem Md (g:l.length<=4096) (k:∀s∈l,s.size<=128):enc l=(if(gB 1 l).length<(gB 0 l) then gB 1 l else gB 0 l,0):=by unfold enc;grind
theorem F8 (g:l.length<=4096) (k:∀s∈l,s.size<=128):∃c,c<=1/\enc l=(gB c l,0):=by rw[Md g k];split;exact aI;grind
theorem Zil (p:c<=1) (g:l.length<=4096) (k:∀s∈l,s.size<=128) (most:Int):
  fw (gB c l) most=if(enc l).1≠gB c l then([],12) else if most<(l.length:Int) then([],2) else(l,0):=by
 have h1:=ZjJ c p l g k (Zix c l g);unfold fw;have q:(enc l).2=0:=by rw[Md g k]
 grind
theorem LG (g:l.length<=4096) (k:∀s∈l,s.size<=128) (most:Int):
  fw (enc l).1 most=if most<(l.length:Int) then([],2) else(l,0):=by obtain⟨c,p,q⟩:=F8 g k;have:=Zil p g k most;grind
theorem XW (data:ax) (most:Int):(fw data most=([],12)\/fw data most=([],2))\/∃l,fw data most=(l,0)/\enc l=(data,0)/\X5 data=some l/\(∀x∈l,x.size<=128)/\l.length<=4096:=by
 unfold fw;match h:X5 data with
 |none=>exact .inl (.inl rfl)
 |some l=>obtain⟨g,k⟩:=JR h;by_cases h1:(enc l).2≠0\/(enc l).1≠data;exact aI;grind
def l4:bd:=[⟨#[97]⟩,⟨#[97]⟩,⟨#[98]⟩,⟨#[97]⟩]
end
theorem Zco (c:Nat) {l:bd} (k:l.length<=4096) (t:∀s∈l,s.size<=128):(gB c l).length<=2000000:=by
 have B:=Yy l;have h1:=JN c (da l) (da l) (KB t) O;have p:=Qj (Yj c l) (λv g=>by have:=C6 c l k v g;omega);have q:=Qj (oK l) (λv g=>by have:=Dr l k v g;omega);have u:=rH (sw c l);have y:=YC (da l) l;rw[YM] at p;rw[Qe] at q;have z:gB c l=X0 c (da l) (da l).length++(bj (sw c l).length++jj (Yj c l))++jj (oK l):=by unfold gB X0;rw[pm];rfl
 grind
theorem Qb {l:bd} (g:l.length<=4096) (k:∀s∈l,s.size<=128):(enc l).1.length<=2000000:=by obtain⟨c,q,p⟩:=F8 g k;rw[p];exact Zco c g k
def ZS (l:List Int):ax:=jj (l.map Int.toNat)
def ij (l:List Int):bd:=l.map (λg=>bs (bj g.toNat))
def lp (l:List Int):ax:=bj 0++ZS (Z9 l)
def oL (l:List Int):ax:=bj 1++bj (Zt l).st.toNat++bj (Zt l).f.toNat++bj (Zt l).s.toNat++bj (Zt l).n.toNat++text (bs (ZS (Z9 (Qz (Zt l) l))))++ZS (Z9 (qj (Zt l) l))
def om (l:List Int):ax:=bj 2++(enc (ij (Z9 l))).1
def D6 (c:Nat) (l:List Int):ax:=if c=0 then lp l else if c=1 then oL l else om l
def jS (a b:ax):ax:=if b.length<a then b else a
def ke (l:List Int):ax×Nat:=if Zh l=true then(if l.length<2 then jS (lp l) (om l) else jS (jS (lp l) (oL l)) (om l),0) else([],2)
theorem Yf {l:List Int} (h:Zh l=true):(ZS (Z9 l)).length<=600000:=by obtain⟨_,_,p⟩:=Ze.1 h;have g:=XD h;have:=Qj ((Z9 l).map Int.toNat) (λv k=>aI);rw[dc] at this;unfold Z9 at this;rw[Y3] at this;unfold ZS Z9;omega
theorem Z3F (l:List Int):∀s∈ij l,s.size<=9:=by intro s k;obtain⟨g,_,rfl⟩:=iV.1 k;rw[Z0,lT];have:=Ye g.toNat;omega
theorem Xt (l:List Int):(ij l)=l.length:=by simp[ij]
theorem Vk {l:List Int} (h:Zh l=true):(enc (ij (Z9 l))).2=0/\(enc (ij (Z9 l))).1.length<=2000000:=by obtain⟨_,_,v3⟩:=Ze.1 h;have g:(ij (Z9 l)).length<=4096:=(by rw[Xt];exact Cs);have a0:∀s∈ij (Z9 l),s.size<=128:=λs a0=>Ju;exact⟨by obtain⟨c,_,k⟩:=F8 g a0;rw[k],Qb g a0⟩
def ye (s:ax):Option (dR×ax×ax):=
 match dI s 1099511627776 with
 |none=>none
 |some (a,s1)=>
  match dI s1 1099511627776 with
  |none=>none
  |some (b,s2)=>
   match dI s2 1099511627776 with
   |none=>none
   |some (d,s3)=>
    match dI s3 4096 with
    |none=>none
    |some (n,s4)=>
     match fs s4 s4.length with
     |none=>none
     |some (x,t)=>some (⟨(a:Int),(b:Int),(d:Int),(n:Int)⟩,x,t)
def xW (c:dR) (X Y:List Int×Nat):Option (List Int):=
 if nZ c=false\/X.2≠0\/Y.2≠0 then none
 else match kR X.1,kR Y.1 with
  |some m,some x=>some (zK c m x)
  |_,_=>none
def wu (s:ax):Option (List Int):=match ye s with
 |none=>none
 |some (c,a,t)=>xW c (fq a 4096) (fq t 4096)
def QA:bd->Option (List Int)
 |[]=>some []
 |s::r=>match dI (aH s) 1099511627776 with
  |some (g,[])=>(QA r).map ((g:Int)::·)
  |_=>none
def QO (data:ax):Option (List Int):=match dI data 2 with
 |none=>none
 |some (c,r)=>
  if c=0 then(if(fq r 4096).2≠0 then none else kR (fq r 4096).1)
  else if c=1 then wu r
  else if(fw r 4096).2≠0 then none else match QA (fw r 4096).1 with
   |none=>none
   |some g=>kR g
def nO (data:ax) (most:Int):List Int×Nat:=match QO data with
 |none=>([],12)
 |some l=>if(ke l).2≠0\/(ke l).1≠data then([],12) else if most<(l.length:Int) then([],2) else(l,0)
def q1 (s:aS):=bK s 0 1099511627776
def q2 (s:aS):=bK (q1 s).2.1 (q1 s).2.2 1099511627776
def q3 (s:aS):=bK (q2 s).2.1 (q2 s).2.2 1099511627776
def q4 (s:aS):=bK (q3 s).2.1 (q3 s).2.2 4096
def q5 (s:aS):=ZC (q4 s).2.1 (q4 s).2.2 ((q4 s).2.1.size:Int)
theorem ZjC (s:ax):((q5 (bs s)).2.2≠0/\ye s=none)\/((q5 (bs s)).2.2=0/\∃x t,ye s=some (⟨((q1 (bs s)).1:Int),((q2 (bs s)).1:Int),((q3 (bs s)).1:Int),((q4 (bs s)).1:Int)⟩,x,t)/\(q5 (bs s)).1=bs x/\(q5 (bs s)).2.1=bs t/\x.length<=s.length/\t.length<=s.length):=by
 unfold ye;match h1:dI s 1099511627776 with
 |none=>obtain⟨e,p,l⟩:=Y8 h1;have u:q1 (bs s)=(0,bs s,e):=l;have q:q2 (bs s)=(0,bs s,e):=(by unfold q2;rw[u];exact XG p _);have D:q3 (bs s)=(0,bs s,e):=(by unfold q3;rw[q];exact XG p _);have g:q4 (bs s)=(0,bs s,e):=Jd;have k:q5 (bs s)=(bs [],bs s,e):=E3;rw[k];exact .inl ⟨p,rfl⟩
 |some (a,s1)=>
  obtain⟨E,S,R⟩:=Zx h1;have u:q1 (bs s)=(a,bs s1,0):=E;simp only;match h2:dI s1 1099511627776 with
  |none=>obtain⟨e,p,l⟩:=Y8 h2;have q:q2 (bs s)=(0,bs s1,e):=(by unfold q2;grind);have D:q3 (bs s)=(0,bs s1,e):=(by unfold q3;rw[q];exact XG p _);have g:q4 (bs s)=(0,bs s1,e):=Jd;have k:q5 (bs s)=(bs [],bs s1,e):=E3;rw[k];exact .inl ⟨p,rfl⟩
  |some (b,s2)=>
   obtain⟨a2,a0,Q⟩:=Zx h2;have q:q2 (bs s)=(b,bs s2,0):=(by unfold q2;grind);simp only;match h3:dI s2 1099511627776 with
   |none=>obtain⟨e,p,l⟩:=Y8 h3;have D:q3 (bs s)=(0,bs s2,e):=(by unfold q3;rw[q];exact l);have g:q4 (bs s)=(0,bs s2,e):=Jd;have k:q5 (bs s)=(bs [],bs s2,e):=E3;rw[k];exact .inl ⟨p,rfl⟩
   |some (d,s3)=>
    obtain⟨z,M,G⟩:=Zx h3;have D:q3 (bs s)=(d,bs s3,0):=(by unfold q3;rw[q];exact z);simp only;match h4:dI s3 4096 with
    |none=>obtain⟨e,p,l⟩:=Y8 h4;have g:q4 (bs s)=(0,bs s3,e):=(by unfold q4;rw[D];exact l);have k:q5 (bs s)=(bs [],bs s3,e):=E3;rw[k];exact .inl ⟨p,rfl⟩
    |some (n,s4)=>
     obtain⟨B,a3,a1⟩:=Zx h4;have g:q4 (bs s)=(n,bs s4,0):=(by unfold q4;rw[D];exact B);simp only;match h5:fs s4 s4.length with
     |none=>obtain⟨e,p,l⟩:=Uv h5;have k:q5 (bs s)=(bs [],bs s4,e):=(by unfold q5;rw[g];exact l);rw[k];exact .inl ⟨p,rfl⟩
     |some (x,t)=>obtain⟨y,F,I,_⟩:=JV h5;have k:q5 (bs s)=(bs x,bs t,0):=(by unfold q5;rw[g];exact y);rw[u,q,D,g,k];exact .inr ⟨rfl,x,t,rfl,rfl,rfl,O,O⟩
theorem Znk (s:aS):(q1 s).2.1.size<=s.size/\(q2 s).2.1.size<=s.size/\(q3 s).2.1.size<=s.size/\(q4 s).2.1.size<=s.size:=by have a1:(q1 s).2.1.size<=s.size:=Zw;have a2:(q2 s).2.1.size<=(q1 s).2.1.size:=Zw;have a3:(q3 s).2.1.size<=(q2 s).2.1.size:=Zw;have a4:(q4 s).2.1.size<=(q3 s).2.1.size:=Zw;omega
theorem Zjg {l:List Int} (h:Zh l=true):((Z9 l).map Int.toNat).length<=4096/\(∀v∈(Z9 l).map Int.toNat,v<4611686018427387904)/\((Z9 l).map Int.toNat).map Int.ofNat=Z9 l:=by
 obtain⟨_,_,v3⟩:=Ze.1 h;have g:=XD h;refine⟨?_,?_,?_⟩;rw[dc];exact Cs;exact aI;rw[qy];conv=>rhs;rw[<-List.map_id (Z9 l)]
 apply List.map_congr_left;grind
theorem Gg {l:List Int} (h:Zh l=true):fq (ZS (Z9 l)) 4096=(Z9 l,0):=by obtain⟨n1,n2,n3⟩:=Zjg h;have:=Up _ 4096 n1 O n2;rw[n3] at this;exact this
theorem ZjB {c:dR} {X R:ax} (g:sA c) (B:X.length<=1000000000):
  ye (bj c.st.toNat++bj c.f.toNat++bj c.s.toNat++bj c.n.toNat++text (bs X)++R)=some (c,X,R):=by obtain⟨h1,l,p,q,t,u,y,z⟩:=g;unfold ye text;simp only[ey];rw[Y9 _ _ O O];simp only;rw[Y9 _ _ O O];simp only;rw[Y9 _ _ O O];simp only;rw[Y9 _ _ O O];simp only;have k:(bs X).size=X:=Z0 X;rw[k,Zk];rw[Yo X _ aI O];obtain⟨a,b,d,n⟩:=c;grind
theorem Kv {c:Nat} (k:c<=2) (r:ax):QO (bj c++r)=if c=0 then(if(fq r 4096).2≠0 then none else kR (fq r 4096).1) else if c=1 then wu r else if(fw r 4096).2≠0 then none else match QA (fw r 4096).1 with|none=>none|some g=>kR g:=by unfold QO;rw[Y9 c 2 k O r]<;>grind
theorem ZbQ {g:List Int} (h:∀x∈g,0<=x/\x<=1099511627776):QA (ij g)=some g:=by
 induction g with
 |nil=>rfl
 |cons a r ih=>
  have t:=h a fm;have p:=ih (λx q=>h x (gN _ q));have h1:ij (a::r)=bs (bj a.toNat)::ij r:=rfl
  have l:QA (bs (bj a.toNat)::ij r)=match dI (aH (bs (bj a.toNat))) 1099511627776 with
   |some (g,[])=>(QA (ij r)).map ((g:Int)::·)
   |_=>none:=rfl
  have k:=Y9 a.toNat 1099511627776 O O [];rw[fu] at k;rw[h1,l,Zk,k,p];grind
theorem l_ (l:List Int):oL l=bj 1++(bj (Zt l).st.toNat++bj (Zt l).f.toNat++bj (Zt l).s.toNat++bj (Zt l).n.toNat++text (bs (ZS (Z9 (Qz (Zt l) l))))++ZS (Z9 (qj (Zt l) l))):=by rfl
theorem Zo0 {l:List Int} (h:Zh l=true):(ij (Z9 l)).length<=4096/\∀s∈ij (Z9 l),s.size<=128:=by obtain⟨_,_,v3⟩:=Ze.1 h;refine⟨by rw[Xt];exact Cs,λs a0=>Ju⟩
theorem ZfK {c:dR} {l:List Int} (g:nZ c=true) (h:Zh l=true) (R:ax):
  wu (bj c.st.toNat++bj c.f.toNat++bj c.s.toNat++bj c.n.toNat++text (bs (ZS (Z9 (Qz c l))))++(ZS (Z9 (qj c l))++R))=xW c (Z9 (Qz c l),0) (fq (ZS (Z9 (qj c l))++R) 4096):=by have hi:=(YK.1 g).1;unfold wu;rw[ZjB hi (by have:=Yf (Xl hi l);omega)];simp only;rw[Gg (Xl hi l)]
theorem ZfM {l:List Int} (h:Zh l=true) (c:Nat) (t:c<=2) (h1:c=1->2<=l.length):QO (D6 c l)=some l:=by have p:c=0\/c=1\/c=2:=O;rcases p with rfl|rfl|rfl;show QO (bj 0++ZS (Z9 l))=_;rw[Kv O,aP rfl,Gg h,az (by simp)];exact GN h;show QO (oL l)=_;have k:=Qi h (h1 rfl);have hi:=(YK.1 k).1;rw[l_,Kv O,az aZ,aP rfl];have:=ZfK k h [];rw[fu] at this;rw[this,Gg (FW h)];unfold xW;rw[az aI];rw[GN (Xl hi l),GN (FW h)];simp only;rw[Zns hi h];show QO (bj 2++(enc (ij (Z9 l))).1)=_;obtain⟨t1,q⟩:=Zo0 h;have g:=LG t1 q 4096;rw[az O] at g;rw[Kv O,az aZ,az aZ,g,az (by simp)];rw[ZbQ (XD h)];exact GN h
theorem XY {l:List Int} (h:Zh l=true):∃c,c<=2/\(c=1->2<=l.length)/\ke l=(D6 c l,0):=by unfold ke;rw[aP h];by_cases g:l.length<2;rw[aP g];unfold jS;split;exact⟨2,O,O,rfl⟩;exact⟨0,O,O,rfl⟩;rw[az g];obtain⟨z,q⟩:=ay (jS (lp l) (oL l));rw[q];have t:jS z (om l)=if(om l).length<z then om l else z:=rfl;rw[t];by_cases k:(om l)<z.length;rw[aP k];exact⟨2,O,O,rfl⟩;rw[az k,<-q];unfold jS;by_cases p:(oL l)<(lp l).length;rw[aP p];exact⟨1,O,O,rfl⟩;rw[az p];exact⟨0,O,O,rfl⟩
theorem Vy {l:List Int} (h:Zh l=false):ke l=([],2):=by unfold ke;grind
theorem Zii {l:List Int} (h:Zh l=true) (c:Nat) (g:c<=2) (h1:c=1->2<=l.length) (most:Int):
  nO (D6 c l) most=if(ke l).1≠D6 c l then([],12) else if most<(l.length:Int) then([],2) else(l,0):=by have p:(ke l).2=0:=(by obtain⟨c,_,_,k⟩:=XY h;rw[k]);unfold nO;rw[ZfM h c g h1];grind
theorem Zij {l:List Int} (h:Zh l=true) (most:Int):nO (ke l).1 most=if most<(l.length:Int) then([],2) else(l,0):=by obtain⟨c,g,h1,k⟩:=XY h;have:=Zii h c g h1 most;grind
theorem ZdQ {l:List Int} (g:(ke l).2=0):Zh l=true:=by
 cases k:Zh l with
 |true=>rfl
 |false=>rw[Vy k] at g;cases g
theorem JD (data:ax) (most:Int):(nO data most=([],12)\/nO data most=([],2))\/∃l,nO data most=(l,0)/\ke l=(data,0)/\Zh l=true/\QO data=some l/\(l.length:Int)<=most:=by
 unfold nO;match h:QO data with
 |none=>exact .inl (.inl rfl)
 |some l=>simp only;by_cases h1:(ke l).2≠0\/(ke l).1≠data;exact aI;rw[az h1];have g:(ke l).2=0:=O;have p:(ke l).1=data:=aI;by_cases k:most<(l.length:Int);exact aI;rw[az k];exact .inr ⟨l,rfl,Prod.ext p g,ZdQ g,rfl,O⟩
section
variable{c:Nat}{l:bd}{s:ax}{st:aS}{w:Int}
def ti (c:ci):List Bool:=[decide (2<=cd c),decide (cd c % 2=1)]
def XP (v:ax):List Bool:=v.flatMap ti
def ZR (l:bd):List Bool:=l.flatMap (λv=>XP (aH v))
theorem F3 (v:ax):(XP v).length=2*v.length:=by
 unfold XP;induction v with
 |nil=>rfl
 |cons c r ih=>rw[sS,bT,ih,f'];simp[ti];omega
theorem ZcS (h:∀v∈l,gW w (aH v)=true):((ZR l).length:Int)=2*(l.length*w):=by
 unfold ZR;induction l with
 |nil=>simp
 |cons v r ih=>have g:=(ZK.1 (h v fm)).2;rw[sS,bT,F3,f'];grind
def ut (l:bd):Option ax:=if 65536<(ZR l).length then none else some (bj l.length++aH (rE (ZR l)))
def vy (l:bd):ax:=bj l.length++if l=[] then[] else
 text (bs (fJ (aH (l.getD 0 default))))++text (bs (fJ (aH (ZF l))))++text (bs (ZS (Z9 (iI l (ZF l)))))++(enc (ZM (hK l (iI l (ZF l))))).1
def HX (w:Int) (l:bd):ax:=(enc (ZM (ly (bs (mE w 48)) l))).1
def D7 (l:bd):ax:=(enc (ZM l)).1
def kO (c:Nat) (w:Int) (l:bd):Option ax:=if c=0 then ut l else if c=1 then some (vy l) else if c=2 then some (HX w l) else some (D7 l)
def Mc (c w:Int) (l:bd):ax×Nat:=if c<0\/3<c then([],1) else if ZH w l=false then([],2) else match kO c.toNat w l with
 |none=>([],9)
 |some s=>(bj c.toNat++s,0)
def iG (w:Int) (l:bd):Nat->ax
 |0=>[]
 |i+1=>match kO i w l with
  |none=>iG w l i
  |some s=>if iG w l i=[]\/(bj i++s).length<(iG w l i).length then bj i++s else iG w l i
def Y7 (w:Int) (l:bd):ax×Nat:=if ZH w l=false then([],2) else(iG w l 4,0)
def kA:Nat->List Bool->ax
 |0,_=>[]
 |k+1,b=>ch (2*(b.getD 0 false).toNat+(b.getD 1 false).toNat)::kA k (b.drop 2)
def vj (w:Nat):Nat->List Bool->bd
 |0,_=>[]
 |n+1,b=>bs (kA w b)::vj w n (b.drop (2*w))
def zl (w:Int) (s:ax):Option bd:=match dI s 4096 with
 |none=>none
 |some (n,r)=>match oo (bs r) with
  |none=>none
  |some k=>if(k:Int)=2*n*w then some (vj w.toNat n (dY (bs r) k)) else none
def ir:Int->List Int->List Int
 |_,[]=>[]
 |last,g::r=>(last+1+g)::ir (last+1+g) r
def pO:List Int->bd->Int->Option aS
 |i::x,v::r,k=>if i=k then some v else pO x r k
 |_,_,_=>none
def qu (x:List Int) (vs:bd) (st:aS):Nat->Nat->aS->Option bd
 |0,_,_=>some []
 |k+1,i,last=>match pO x vs (i:Int) with
  |some v=>(qu x vs st k (i+1) v).map (v::·)
  |none=>if(qf (aH last) (aH st)).2=true then(qu x vs st k (i+1) (bs (qf (aH last) (aH st)).1)).map (bs (qf (aH last) (aH st)).1::·) else none
def YQ (w:Int) (s:ax):Option bd:=match dI s 4096 with
  |none=>none
  |some (n,s1)=>if n=0 then(if s1=[] then some [] else none) else match fs s1 128 with
    |none=>none
    |some (f,s2)=>match fs s2 128 with
      |none=>none
      |some (st,s3)=>match fs s3 s3.length with
        |none=>none
        |some (a,s4)=>if(fq a 4096).2≠0\/(fw s4 4096).2≠0 then none else match jl w (fw s4 4096).1,jl w [bs f] with
          | some vs, some q => if (fq a 4096).1.length ≠ vs.length then none else
              if st≠[]/\(ext w st).2≠0 then none else
              if(∀g∈(fq a 4096).1,g<(n:Int)) then(qu (ir (-1) (fq a 4096).1) vs (bs (if st=[] then[] else(ext w st).1)) (n-1) 1 (q.getD 0 default)).map (q.getD 0 default::·) else none
          |_,_=>none
def XL (w:Int) (s:ax):Option bd:=if(fw s 4096).2≠0 then none else jl w (fw s 4096).1
def ur (w:Int) (data:ax):Option bd:=match dI data 3 with
 |none=>none
 |some (c,r)=>if c=0 then zl w r else if c=1 then YQ w r else if c=2 then(XL w r).map (Yg (bs (mE w 48))) else XL w r
def yc (w:Int) (data:ax) (most:Int) (o:Option bd):bd×Nat:=match o with
 |none=>([],12)
 |some l=>if(Y7 w l).2≠0\/(Y7 w l).1≠data then([],12) else if most<(l.length:Int) then([],2) else(l,0)
def tn (w:Int) (data:ax) (most:Int):bd×Nat:=if w<1\/128<w then([],1) else yc w data most (ur w data)
theorem ZhW {c:ci} (h:cd c<4) (r:List Bool):ch (2*((ti c++r).getD 0 false).toNat+((ti c++r).getD 1 false).toNat)=c/\(ti c++r).drop 2=r:=by
 refine⟨?_,rfl⟩;have g:=MG c h;rcases(show cd c=0\/cd c=1\/cd c=2\/cd c=3 by omega) with h0|h0|h0|h0
 all_goals
  rw[h0] at g;unfold ti;rw[h0];exact g
theorem Tf:∀(v:ax) (r:List Bool),(∀c∈v,cd c<4)->kA v (XP v++r)=v
 |[],r,_=>rfl
 |c::v,r,h=>by have k:=h c fm;have e:XP (c::v)++r=ti c++(XP v++r):=(by rfl);obtain⟨h1,g⟩:=ZhW k (XP v++r);rw[f',e];show ch _::kA v ((ti c++(XP v++r)).drop 2)=_;rw[h1,g,Tf v r (λx l=>h x (gN _ l))]
theorem Sh (w:Nat):∀(l:bd) (r:List Bool),(∀v∈l,gW (w:Int) (aH v)=true)->vj w l (ZR l++r)=l
 |[],r,_=>rfl
 |v::l,r,h=>by
  have p:=ZK.1 (h v fm);have g:(aH v)=w:=O;have e:ZR (v::l)++r=XP (aH v)++(ZR l++r):=(by unfold ZR;grind);rw[f',e];show bs (kA w _)::vj w l (_:List Bool)=_;have h1:=Tf (aH v) (ZR l++r) (Zo.1 p.1).1;rw[g] at h1;have k:(XP (aH v)++(ZR l++r)).drop (2*w)=ZR l++r:=by rw[<-g,<-F3];grind
  rw[h1,k,Sh w l r (λx q=>h x (gN _ q)),Zd]
theorem Zcb (h:ZH w l=true) (g:ut l=some s):zl w s=some l:=by obtain⟨h1,q,t,k⟩:=ZI.1 h;unfold ut at g;split at g;exact aI;injection g with g;subst g;have p:=ZcS h1;obtain⟨n1,n2⟩:=nrd_bstr (ZR l) O;unfold zl;rw[Y9 _ _ k O];simp only[Zd];have:=Sh w.toNat l [] (λv u=>aI);grind
theorem Qs (h:l.length<=4096):(ZM l).length<=4096/\∀s∈ZM l,s.size<=128:=by unfold ZM;refine⟨aI,λs g=> ?_⟩;obtain⟨v,_,rfl⟩:=iV.1 g;exact Ya _
theorem QF (h:l.length<=4096):fw (enc (ZM l)).1 4096=(ZM l,0)/\(enc (ZM l)).2=0:=by obtain⟨s1,g⟩:=Qs h;refine⟨?_,by obtain⟨c,_,k⟩:=F8 s1 g;rw[k]⟩;rw[LG s1 g,az O]
theorem SO (h1:∀v∈l,gW w (aH v)=true) (k:l.length<=4096):XL w (enc (ZM l)).1=some l:=by unfold XL;obtain⟨g,_⟩:=QF k;rw[g,az (by simp)];exact JK h1
theorem Zot (x:List Int):∀last,ir last (gp last x)=x:=by
 induction x with
 |nil=>intro _;rfl
 |cons t r ih=>intro last;show(last+1+(t-last-1))::ir (last+1+(t-last-1)) (gp t r)=_;grind
theorem ZmQ (l:bd) (k:Int):∀x:List Int,pO x (hK l x) k=if k∈x then some (l.getD k.toNat default) else none:=by
 intro x;induction x with
 |nil=>rfl
 |cons i r ih=>show(if i=k then some (l.getD i.toNat default) else pO r (hK l r) k)=_;grind
theorem Zmh {i:Nat} (h1:1<=i) (g:i<l):(i:Int)∈iI l st↔tE l st (i-1)=false:=by unfold iI jQ;grind
theorem ZjQ (l:bd) (st:aS):∀(k i:Nat),1<=i->i+k=l.length->qu (iI l st) (hK l (iI l st)) st k i (l.getD (i-1) default)=some (l.drop i):=by
 intro k;induction k with
 |zero=>intro i _ h;rw[oe O];rfl
 |succ k ih=>
  intro i h1 y;have p:i<l:=O;have hd:l.drop i=l[i]::l.drop (i+1):=kw p;have q:l.getD i default=l[i]:=aI;have u:=ih (i+1) O O;rw[vO,q] at u;unfold qu;rw[ZmQ];by_cases t:(i:Int)∈iI l st;exact aI
  have g:tE l st (i-1)=true:=by
   cases h:tE l st (i-1) with
   |true=>rfl
   |false=>exact absurd ((Zmh h1 p).2 h) t
  unfold tE at g;rw[fE] at g;rw[g,aP rfl];simp only[Zd];grind
theorem F9 (h:l.length<=4096) (st:aS):Zh (iI l st)=true:=by unfold iI;refine Ze.2 ⟨Zbp _ _ _,λt g=> ?_,?_⟩;have:=ZkQ t g;omega;have:=LM l st (l.length-1);omega
theorem Sr (l:bd):(aH (ZF l)=[])\/(l≠[]/\ZH ((l.getD 0 default).size:Int) l=true/\jR (aH (ZF l))=true/\ZF l∈zv l):=by
 unfold ZF;by_cases h:l=[]\/ZH ((l.getD 0 default).size:Int) l=false;rw[aP h];exact .inl rfl;rw[az h];simp only[not_or,Bool.not_eq_false] at h
 have key:∀(g:bd) (F:aS->Nat) (p:aS×Nat),(g.foldl (Yw F) p).1=p.1\/(g.foldl (Yw F) p).1∈g:=by
  intro g F;induction g with
  |nil=>exact aI
  |cons a r ih=>
   intro p;rcases ih (Yw F p a) with h1|h1
   .have e:(List.foldl (Yw F) p (a::r)).1=(Yw F p a).1:=h1;rw[e];by_cases q:p.2<F a
    .have k:Yw F p a=(a,F a):=by unfold Yw;grind
     grind
    have k:Yw F p a=p:=by unfold Yw;grind
    grind
   grind
 rcases key (zv l) (λd=>(zv l).count d) (bs [],0) with h1|h1;left;unfold BM;rw[h1];rfl;right;exact⟨h.1,h.2,a_ _ h1,h1⟩
theorem ZqM {M:Int} {l:List Int} :∀ {last:Int},-1<=last->tv last l=true->(∀t∈l,t<=M)->∀g∈gp last l,g<=M:=by
 induction l with
 |nil=>intro _ _ _ _ g k;cases k
 |cons a r ih=>intro last h0 h p g k;obtain⟨h1,q,u⟩:=QS.1 h;rcases jx.1 k with rfl|k;have:=p a fm;omega;grind
theorem VW (h:ZH w l=true):aH (ZF l)=[]\/(gW w (aH (ZF l))=true/\fJ (aH (ZF l))≠[]):=by
 obtain⟨h1,h2,h3,h4⟩:=ZI.1 h;rcases Sr l with h5|⟨h5,_,h6,h7⟩;exact aI;right;refine⟨ZK.2 ⟨Hq h6,?_⟩,(Zgi _).2 (Hq h6)⟩;obtain⟨j,hj,e⟩:=List.mem_filterMap.1 h7;have xL:=List.mem_range.1 hj;unfold BD at e;split at e;.rename_i hc;injection e with e;rw[<-e,Zk];have hk:=(Tv (Prod.ext rfl hc)).2;rw[hk];have hg:l.getD j default=l[j]:=aI;rw[hg];exact(ZK.1 (h1 _ (dr _))).2
 grind
theorem ZnT (X:ax):text (bs X)=bj X.length++X:=rfl
theorem ZkB {x:List Int} (h:∀i∈x,0<=i/\i<(l.length:Int)):∀v∈hK l x,v∈l:=by intro v g;obtain⟨i,hi,rfl⟩:=iV.1 g;grind
theorem Mj :∀i∈iI l st,0<=i/\i<(l.length:Int):=by intro i hi;have:=ZkQ i hi;grind
theorem LL (l:bd) (st:aS):(iI l st)<=l.length-1:=LM _ _ _
theorem Zc6 (h:ZH w l=true):YQ w (vy l)=some l:=by
  obtain⟨h1,a9,b0,E⟩:=ZI.1 h;unfold YQ vy;rw[Y9 _ _ E O];simp only;by_cases h0:l=[];exact aI;rw[az h0,az (λe=>h0 (gx e))];obtain⟨q,r,y⟩:∃v r,l=v::r:=by cases l with|nil=>exact absurd rfl h0|cons v r=>exact⟨v,r,rfl⟩
  have a6:l.getD 0 default=q:=(by rw[y];rfl);have a4:=h1 q (by rw[y];exact fm);have z:=F9 E (ZF l);have a8:=LL l (ZF l);have b1:=Yf z;simp only[ZnT,ey];have k1:=Ya (aH (l.getD 0 default));have k2:=Ya (aH (ZF l));rw[Yo _ _ k1 O];simp only;rw[Yo _ _ k2 O];simp only;rw[Yo _ _ (by rw[bT,bT];omega) O];simp only;have a0:(hK l (iI l (ZF l))).length<=4096:=(by unfold hK;rw[dc];omega);obtain⟨S,_⟩:=QF a0;rw[S,Gg z,az (by simp)];simp only;rw[JK (λv p=>h1 v (ZkB Mj v p))];have I:jl w [bs (fJ (aH (l.getD 0 default)))]=some [q]:=by rw[a6];exact JK (l:=[q]) (λv p=>by rw[js] at p;rw[p];exact a4)
  rw[I];simp only;have a5:(Z9 (iI l (ZF l))).length=(hK l (iI l (ZF l))).length:=(by unfold Z9 hK;rw[Y3,dc]);have Q:¬(fJ (aH (ZF l))≠[]/\(ext w (fJ (aH (ZF l)))).2≠0):=by rintro⟨B,D⟩;rcases VW h with k|⟨k,_⟩;rw[k] at B;exact B rfl;have:=LO (ZK.1 k).1;rw[(ZK.1 k).2] at this;rw[this] at D;exact D rfl
  have F:bs (if fJ (aH (ZF l))=[] then[] else(ext w (fJ (aH (ZF l)))).1)=ZF l:=by rcases VW h with k|⟨k,a1⟩;rw[k];have:ZF l=bs []:=(by rw[<-Zd (ZF l),k]);rw[this];rfl;rw[az a1];have:=LO (ZK.1 k).1;rw[(ZK.1 k).2] at this;rw[this,Zd]
  have G:∀g∈Z9 (iI l (ZF l)),g<(l.length:Int):=by intro g a2;have u:=z;unfold Zh at u;rw[gm] at u;have:=ZqM (M:=(l.length:Int)-1) O u.1 (λt a3=>by have:=Mj t a3;omega) g a2;omega
  rw[az (by rw[a5];simp),az Q,aP G,F];have R:ir (-1) (Z9 (iI l (ZF l)))=iI l (ZF l):=Zot _ _;rw[R];have a7:=ZjQ l (ZF l) (l.length-1) 1 O (by(have:0<l.length:=by rw[y];simp);omega);grind
theorem Zjb (h:ZH w l=true):(∀v∈ly (bs (mE w 48)) l,gW w (aH v)=true)/\Yg (bs (mE w 48)) (ly (bs (mE w 48)) l)=l:=by obtain⟨h1,g,k,p⟩:=ZI.1 h;exact ZbJ (by exact Zhn g k) h1
theorem ZfJ (h:ZH w l=true) (p:c<=3) (g:kO c w l=some s):ur w (bj c++s)=some l:=by obtain⟨h1,t,u,k⟩:=ZI.1 h;unfold ur;rw[Y9 _ _ p O];simp only;rcases(show c=0\/c=1\/c=2\/c=3 by omega) with rfl|rfl|rfl|rfl;exact Zcb h g;injection g with g;subst g;exact Zc6 h;injection g with g;subst g;obtain⟨q,y⟩:=Zjb h;unfold HX;rw[SO q (by rw[Dc];exact k)];grind;injection g with g;subst g;exact SO h1 k
theorem Tp (w:Int) (l:bd):∀k,iG w l k=[]\/∃c s,c<k/\kO c w l=some s/\iG w l k=bj c++s:=by
 intro k;induction k with
 |zero=>exact .inl rfl
 |succ k ih=>
  have e:iG w l (k+1)=match kO k w l with
   |none=>iG w l k
   |some s=>if iG w l k=[]\/(bj k++s).length<(iG w l k).length then bj k++s else iG w l k:=rfl
  grind
theorem Mm (n:Nat) (s:ax):bj n++s≠[]:=λh=>by have:=congrArg List.length h;rw[bT,lT] at this;simp at this
theorem JJ (h:ZH w l=true):∃c s,c<=3/\kO c w l=some s/\Y7 w l=(bj c++s,0):=by unfold Y7;rcases Tp w l 4 with h1|⟨c,s,h1,g,k⟩;exfalso;have e:iG w l 4=if iG w l 3=[]\/(bj 3++D7 l).length<(iG w l 3).length then bj 3++D7 l else iG w l 3:=rfl;rw[e] at h1;split at h1;exact Mm _ _ h1;grind;grind
theorem Ziy (h:ZH w l=false):Y7 w l=([],2):=by unfold Y7;grind
theorem Zbm (h:(Y7 w l).2=0):ZH w l=true:=by
 cases g:ZH w l with
 |true=>rfl
 |false=>rw[Ziy g] at h;cases h
theorem Zig (h:ZH w l=true) (g:c<=3) (p:kO c w l=some s) (most:Int):
  tn w (bj c++s) most=if(Y7 w l).1≠bj c++s then([],12) else if most<(l.length:Int) then([],2) else(l,0):=by obtain⟨h1,q,t,u⟩:=ZI.1 h;have y:(Y7 w l).2=0:=(by obtain⟨c,s,_,_,k⟩:=JJ h;rw[k]);unfold tn yc;rw[az O,ZfJ h g p];grind
theorem Zih (h:ZH w l=true) (most:Int):tn w (Y7 w l).1 most=if most<(l.length:Int) then([],2) else(l,0):=by obtain⟨c,s,g,k,p⟩:=JJ h;have:=Zig h g k most;grind
theorem R5 (w:Int) (data:ax) (most:Int):((w<1\/128<w)/\tn w data most=([],1))\/(1<=w/\w<=128/\(tn w data most=([],12)\/tn w data most=([],2)))\/∃l,tn w data most=(l,0)/\Y7 w l=(data,0)/\ZH w l=true/\(l.length:Int)<=most:=by
 unfold tn;by_cases k:w<1\/128<w;exact aI;rw[az k];right;unfold yc;match h:ur w data with
 |none=>exact .inl ⟨O,O,.inl rfl⟩
 |some l=>simp only;by_cases h1:(Y7 w l).2≠0\/(Y7 w l).1≠data;exact aI;rw[az h1];simp only[not_or,Decidable.not_not] at h1;by_cases g:most<(l.length:Int);exact aI;rw[az g];exact .inr ⟨l,rfl,Prod.ext h1.2 h1.1,Zbm h1.1,O⟩
end
variable{A:bS}{N b:Nat}{l r:bd}{s:aS}{w:au}
theorem Yl (h:At w A (bD l)) (i:Nat) (hi:i<l):∃b o,A=some ⟨b,o,none⟩/\b<w.heap.size/\w.cell? ⟨b,o+i,none⟩=some (.string l[i]):=
 h.get i _ (YD l i hi)
theorem J3 (a0:At w A (bD l)) (G:∀s∈l,s.size<=1099511627776) (n cap:Nat) (a1:n=l) (k:n<=9223372036854775807) (W:Int):
  Calls prog 197 #[W,(A,n,cap)] w (bN w (ZH W l)):=by
 have Ha:=J a0;obtain⟨M,a3,I⟩:=bF (λ(v:aS) (q:v∈l) W2=>(by have:=Z84 W (aH v) Jw W2;rw[Zd] at this;exact this:Calls prog 173 #[W,v] W2 (bN W2 (gW W (aH v))))) (bi w w) a1;clear a0 G a1;go_in;go_wp2;go_loopw [9] (λF wr=>∃j:Nat,j<=n/\F=j/\Hid (∀v∈l.take j,gW W (aH v)=true)/\Hid (Below w w wr)) (λF _=>(n-intOf F).toNat);exact⟨0,cf _,rfl,J (by simp),a3⟩;obtain⟨j,b2,rfl,z,hb⟩:=hrel;by_cases ab:j<n
 .have B:j<l:=im;obtain⟨b,o,rfl,b0,a6⟩:=Yl (Ha.o.below hb.o) j B;have g:=J (M.o l[j] (dr _));have Q:l.take (j+1)=l.take j++[l[j]]:=dD B;have a2:=J (dr B);obtain⟨S,a5⟩:=ay l[j];rw[a5] at a6 g Q a2;have a7:=J Q;cases q:gW W (aH S) with
  |true=>rw[q] at g;have a8:=J (show ∀v∈l.take (j+1),gW W (aH v)=true from λv k=>by rw[a7.o,kY,js] at k;rcases k with k|rfl;exact z.o v k;exact q);go_wp21;refine aO (g.o _) λw1 u=>?_;have y:=J (hb.o.trans (u.mono hb.o.size));go_wp2;refine⟨⟨j+1,ab,ck,a8,y⟩,?_⟩;simp[intOf]<;>omega
  |false=>rw[q] at g;have t:=J (show ZH W l=false by cases h:ZH W l;rfl;have:=(ZI.1 h).1 S a2.o;rw[q] at this;cases this);go_wp21;refine aO (g.o _) λw1 u=>?_;have y:=J (hb.o.trans (u.mono hb.o.size));go_wp2;go_returns;exact⟨by rw[t.o];rfl,y.o⟩
 have a4:j=n:=O;have E:=z.o;rw[a4,dU oh] at E;have R:ZH W l=(decide (1<=W)&&decide (W<=128)&&decide (n<=4096)):=by unfold ZH;rw[<-I.o,tS.2 E,Bool.true_and]
 have t:=J R;clear z E R M;by_cases h1:1<=W;.by_cases D:W<=128;by_cases b1:(n:Int)<=4096;have p:n<=4096:=O;rw[cT h1,cT D,cT p] at t;exact E6;have p:¬n<=4096:=O;rw[cT h1,cT D,cG p] at t;exact E6;rw[cT h1,cG D] at t;exact E6
 rw[cG h1] at t;exact E6
theorem LU (l:bd):(bD l)=l.length:=by unfold bD;rw[dc]
def QJ (F:aS->aS) (l:bd) (i:Nat):bd:=(l.take i).map F++List.replicate (l.length-i) ⟨#[]⟩
theorem TW (F:aS->aS) (l:bd) (i:Nat) (hi:i<=l):(QJ F l i)=l.length:=by unfold QJ;rw[bT,dc,eC,iK];omega
theorem TX (F:aS->aS) (l:bd) (i:Nat) (hi:i<l):(QJ F l i).set i (F l[i])=QJ F l (i+1):=by have g:((l.take i).map F).length=i:=Cv;unfold QJ;rw[nz _ _ O,g,fv,dD hi,jv,show l.length-i=(l.length-(i+1))+1 by omega,pS,List.set_cons_zero];simp
theorem TU (F:aS->aS) (l:bd):QJ F l l.length=l.map F:=by unfold QJ;rw[pm,fv,List.replicate_zero,fu]
theorem t_ (F:aS->aS) (l:bd):(bD (QJ F l 0)).toArray=Array.replicate l.length (.string ⟨#[]⟩:aJ):=by unfold QJ;rw[po,List.map_nil,pX,Nat.sub_zero];exact I8
theorem Dq {g:Nat} {t:TypeId} (h:Bk w g t (bD l).toArray) (i:Nat) (x:aS):Bk (w.setCell (g,i) (.string x)) g t (bD (l.set i x)).toArray:=by have:=h.put i (.string x);rw[List.setIfInBounds_toArray] at this;unfold bD at this⊢;rw[List.map_set];exact this
theorem JS (a5:At w A (bD l)) (G:∀s∈l,s.size<=1099511627776) (n cap:Nat) (D:n=l) (c5:n<=1099511627776):
  Calls prog 298 #[(A,n,cap)] w λx w'=>∃g,x=.returned (.slice (some ⟨g,0,none⟩) n n)/\w.heap.size<=g/\g<w'.heap.size/\At w' (some ⟨g,0,none⟩) (bD (ZM l))/\Below w w w':=by
 have Ha:=J a5;have a7:=J (λ(v:aS) (q:v∈l) W2=>(by have:=To (aH v) Jw W2;rw[Zd] at this;exact this:Calls prog 176 #[v] W2 (bN W2 (bs (fJ (aH v))))));have b8:=Y4 (P:=prog) 23 9 (.string ⟨#[]⟩) 16 underlying23 YR rfl (n:Int) n rfl O O w;have a1:=Bk.new w 9 (Array.replicate n (.string ⟨#[]⟩));have R:=J (ZE w (.cells (Array.replicate n (.string ⟨#[]⟩)) 9));have a4:Array.replicate n (.string ⟨#[]⟩:aJ)=(bD (QJ (λv=>bs (fJ (aH v))) l 0)).toArray:=(by rw[D,t_]);have a6:=J a4;have a2:w<(w.alloc (.cells (Array.replicate n (.string ⟨#[]⟩)) 9)).heap.size:=Jn;obtain⟨E,M,I⟩:=bF a1 a2 D;generalize w.alloc (.cells (Array.replicate n (.string ⟨#[]⟩)) 9)=W0 at*;rw[a6.o] at E;clear a5 G D a1 a4 a2 a6;go_in;go_wp2;go_loopw [11] (λF wr=>∃j:Nat,j<=n/\F=j/\Hid (Bk wr w 9 (bD (QJ (λv=>bs (fJ (aH v))) l j)).toArray)/\Hid (Below w w wr)) (λF _=>(n-intOf F).toNat);exact Cz;obtain⟨j,c4,rfl,B,hb⟩:=hrel;by_cases ab:j<n;.have z:j<l:=im;obtain⟨b,o,rfl,b7,b6⟩:=Yl (Ha.o.below hb.o) j z;have y:=J (a7.o l[j] (dr _));have u:=J (TX (λv=>bs (fJ (aH v))) l j z);have t:=TW (λv=>bs (fJ (aH v))) l j O;obtain⟨S,b4⟩:=ay l[j];rw[b4] at b6 y u;obtain⟨T,b5⟩:=ay (bs (fJ (aH S)));rw[b5] at y u;have a8:=J (show j<(QJ (λv=>bs (fJ (aH v))) l j).length by rw[t];exact z);have c3:(j:Int)<n:=O;have c6:(0:Int)<=j:=O;go_wp21;refine aO (y.o _) λw1 Q=>?_;have k:=B.o.below Q B.o.lt;have b2:=k.cell j;rw[mK,YD _ _ a8.o] at b2;have b9:=k.frozen j;have a0:=Dq k j T;rw[u.o] at a0;have b0:=J a0;have b1:=J ((hb.o.trans (Q.mono hb.o.size)).setCell (p:=⟨w,j,none⟩) aW (.string T));generalize (QJ (λv=>bs (fJ (aH v))) l j)[j]=OLD at*;go_wp2;refine⟨⟨j+1,ab,ck,b0,b1⟩,?_⟩;simp[intOf]<;>omega
 have b3:j=n:=O;have k:=B.o;rw[b3,I.o,TU] at k;have a3:=J k;go_wp2;go_returns;refine⟨_,rfl,aW,a3.o.lt,?_,hb.o⟩;have:=a3.o.at_;rw[Ci] at this;exact this
theorem ZiD {w:Int} (h:∀s∈l,(ext w (aH s)).2=0):jl w l=some (l.map (λs=>bs (ext w (aH s)).1)):=by
 induction l with
 |nil=>rfl
 |cons s r ih=>unfold jl;rw[aP (h s fm),ih (λx g=>h x (gN _ g))];rfl
theorem ZiE {w:Int} (g:s∈l) (h:(ext w (aH s)).2≠0):jl w l=none:=by
 induction l with
 |nil=>cases g
 |cons a r ih=>unfold jl;by_cases k:(ext w (aH a)).2=0;rw[aP k];rcases jx.1 g with rfl|g;exact absurd k h;rw[ih g];rfl;rw[az k]
def Ng (w:au) (o:Option bd) (x:Ending) (w':au):Prop:=Below w w w'/\match o with
 |none=>∃A,x=.returned (.tuple #[.slice A 0 0,false])
 |some r=>∃g,x=.returned (.tuple #[.slice (some ⟨g,0,none⟩) r r.length,true])/\w.heap.size<=g/\Bk w' g 9 (bD r).toArray
theorem F4 (b2:At w A (bD l)) (G:∀s∈l,s.size<=1099511627776) (n cap:Nat) (a1:n=l) (z:n<=1099511627776) (W:Int):
  Calls prog 273 #[.agg #[W],(A,n,cap)] w λx w'=>Ng w (jl W l) x w':=by
 have a7:=Bk.new w 274 #[W];have M:=ZE w (.cells #[W] 274);have c5:=Y4 (P:=prog) 23 9 (.string ⟨#[]⟩) 16 underlying23 YR rfl (n:Int) n rfl O O (w.alloc (.cells #[W] 274));have Q:=Bk.new (w.alloc (.cells #[W] 274)) 9 (Array.replicate n (.string ⟨#[]⟩));have c4:=J (a7.alloc (.cells (Array.replicate n (.string ⟨#[]⟩)) 9));have g:=J (M.alloc M.size (.cells (Array.replicate n (.string ⟨#[]⟩)) 9));have b0:Array.replicate n (.string ⟨#[]⟩:aJ)=(bD (QJ (λs=>bs (ext W (aH s)).1) l 0)).toArray:=(by rw[a1,t_]);rw[World.size_alloc] at c5 Q;have Ha:=J b2;obtain⟨b7,b3,a8,I⟩:=dm (λ(v:aS) (q:v∈l) W2=>(by have:=Zmk W (aH v) Jw W2;rw[Zd] at this;exact this:Calls prog 221 #[W,v] W2 (bN W2 (.tuple #[bs (ext W (aH v)).1,((ext W (aH v)).2:Int)])))) b0 Q a1;generalize (w.alloc (.cells #[W] 274)).alloc (.cells (Array.replicate n (.string ⟨#[]⟩)) 9)=W0 at*;rw[b3.o] at a8;clear b2 G a1 Q b0 b3 a7 M;go_in;go_wp2;go_loopw [16] (λa3 wr=>∃j:Nat,j<=n/\a3=j/\Hid (∀s∈l.take j,(ext W (aH s)).2=0)/\Hid (Bk wr (w.heap.size+1) 9 (bD (QJ (λs=>bs (ext W (aH s)).1) l j)).toArray)/\Hid (Bk wr w 274 #[W])/\Hid (Below w w wr)) (λa3 _=>(n-intOf a3).toNat);exact⟨0,cf _,rfl,J (by simp),a8,c4,g⟩;obtain⟨j,e1,rfl,a4,a0,a2,hb⟩:=hrel;by_cases ab:j<n
 .have u:j<l:=im;obtain⟨b,o,rfl,d7,c9⟩:=Yl (Ha.o.below hb.o) j u;obtain⟨t,b5,D⟩:=bF (b7.o l[j] (dr _)) (dr u) (TX (λs=>bs (ext W (aH s)).1) l j u);have y:=TW (λs=>bs (ext W (aH s)).1) l j O;have a6:l.take (j+1)=l.take j++[l[j]]:=dD u;obtain⟨S,c7⟩:=ay l[j];rw[c7] at c9 t D a6 b5;have d1:=J a6;have b8:=J (show j<(QJ (λs=>bs (ext W (aH s)).1) l j).length by rw[y];exact u);have d5:wr.cell? (w,0)=W:=a2.o.cell 0;obtain⟨T,c8⟩:=ay (bs (ext W (aH S)).1);rw[c8] at t D;have d9:(j:Int)<n:=O;have e2:(0:Int)<=j:=O;by_cases R:(ext W (aH S)).2=0
  .rw[R] at t;have d2:=J (show ∀v∈l.take (j+1),(ext W (aH v)).2=0 from λv z=>by rw[d1.o,kY,js] at z;rcases z with z|rfl;exact a4.o v z;exact R);go_wp21;refine aO (t.o _) λw1 g=>?_;have k:=a0.o.below g a0.o.lt;have d4:=J (a2.o.below g a2.o.lt);have c3:=k.cell j;rw[mK,YD _ _ b8.o] at c3;have d8:=k.frozen j;have a5:=Dq k j T;rw[D.o] at a5;obtain⟨b9,d3,F⟩:=bF a5 (d4.o.off (p:=⟨w+1,j,none⟩) (by simp) (.string T)) ((hb.o.trans (g.mono hb.o.size)).setCell (p:=⟨w+1,j,none⟩) (by simp) (.string T));generalize (QJ (λs=>bs (ext W (aH s)).1) l j)[j]=OLD at*;go_wp2;refine⟨⟨j+1,ab,ck,d2,b9,d3,F⟩,?_⟩;simp[intOf]<;>omega
  have B:=J (ZiE b5.o R);have d6:(((ext W (aH S)).2:Int) !=0)=true:=fb;generalize ((ext W (aH S)).2:Int)=E at*;go_wp21;refine aO (t.o _) λw1 g=>?_;have F:=J (hb.o.trans (g.mono hb.o.size));go_wp2;go_returns;refine⟨F.o,?_⟩;rw[B.o];exact⟨none,rfl⟩
 have b1:j=n:=O;have k:=a0.o;rw[b1,I.o,TU] at k;have c6:=J k;have b4:=a4.o;rw[b1,dU oh] at b4;have B:=J (ZiD b4);have b6:=J (show(l.map (λs=>bs (ext W (aH s)).1)).length=n by rw[dc,I.o]);go_wp2;go_returns;refine⟨hb.o,?_⟩;rw[B.o];exact⟨_,by rw[b6.o];rfl,O,c6.o⟩
theorem Zbc (z:At w A (bD l)) (q:∀s∈l,s.size<=1099511627776) (n cap:Nat) (F:n=l) (a3:n<=4096) (W:Int):
  Calls prog 269 #[.agg #[W],(A,n,cap)] w (bN w (.tuple #[bs (D7 l),true])):=by have u:=ZE w (.cells #[W] 274);have G:=J (JS (z.alloc (.cells #[W] 274)) q n cap F O);have y:n=(ZM l):=(by unfold ZM;exact Fm);have E:=Qs (l:=l) O;have k:=J (λM (B:bS) (c:Nat) (h:At M B (bD (ZM l)))=>X9 h (λs a0=>by have:=E.2 s a0;omega) n c y O);have p:=QF (l:=l) O;have S:((enc (ZM l)).2:Int)=0:=(by rw[p.2];rfl);unfold D7;unfold gj at k;rw[p.2] at k;have t:=J u;generalize bs (enc (ZM l)).1=SR at*;clear z q F y E p S u;go_in;go_wp21;refine(G.o).mono ?_;rintro x w1 ⟨g,rfl,a2,a1,R,Q⟩;have hb:=t.o.trans (Q.mono t.o.size);have I:=J (k.o w1 _ n R);go_wp21;refine aO I.o λa4 aa=>?_;have D:=hb.trans (aa.mono hb.size);exact E2
def yE (b:Nat) (w:au) (o:Option bd) (x:Ending) (w':au):Prop:=Fr (only b) w w'/\match o with
 |none=>∃A,x=.returned (.tuple #[.slice A 0 0,false])
 |some r=>∃g,x=.returned (.tuple #[.slice (some ⟨g,0,none⟩) r r.length,true])/\w.heap.size<=g/\Bk w' g 9 (bD r).toArray
theorem Dn (s:aS):Zb s 0 (s.size:Int)=(s,bs [],0):=by unfold Zb;rw[aP rfl,az O,az O,ek,dU (by rw[Z2];exact aW),oe (by rw[Z2];exact aW),Zd]
theorem TJ (h:RV w b s 0) (c6:s.size<=1000000000) (W:Int):
  Calls prog 241 #[.agg #[W],(b,0)] w λx w'=>yE b w (XL W (aH s)) x w':=by
 have ab:=Bk.lt h;have b7:=Bk.new w 274 #[W];have b6:=ZE w (.cells #[W] 274);have h0:RV (w.alloc (.cells #[W] 274)) b s 0:=Bk.alloc h _;have a9:=J (ZB h0 O);have I:=J (Zr h0 O (s.size:Int));rw[Dn] at I;have a6:=J (λB=>FP (w:=B) s c6 4096);have G:((fw (aH s) 4096).2≠0/\(fw (aH s) 4096).1=[])\/((fw (aH s) 4096).2=0/\(∀t∈(fw (aH s) 4096).1,t.size<=128)/\(fw (aH s) 4096).1.length<=4096):=by rcases XW (aH s) 4096 with (h|h)|⟨l,h,u,d7,d3,c9⟩;rw[h];exact .inl ⟨by simp,rfl⟩;rw[h];exact .inl ⟨by simp,rfl⟩;rw[h];exact .inr ⟨rfl,d3,by simpa using c9⟩
 have c3:XL W (aH s)=if(fw (aH s) 4096).2≠0 then none else jl W (fw (aH s) 4096).1:=rfl;rw[c3];generalize fw (aH s) 4096=D at*;obtain⟨q,e⟩:=D;simp only at G⊢;have Q:(∀t∈q,t.size<=1099511627776)/\q.length<=1099511627776:=by rcases G with ⟨_,p⟩|⟨_,p,d6⟩;rw[p];exact I9;exact⟨λt ht=>by have:=p t ht;omega,O⟩
 obtain⟨a7,d1,b5,b2,F,H⟩:=fF (λB (A:bS) (cap:Nat) (E:At B A (bD q))=>F4 E Q.1 q cap rfl Q.2 W) b7 b6 G ab h;obtain⟨R,a1⟩:=ay ((if e≠0 then none else jl W q));rw[a1];have z:=J a1;go_in;go_wp21;refine cq a9.o ?_;go_wp21;refine aO I.o λw1 ⟨a3,M⟩=>?_;have b8:=J ((Fr.of_below (S:=only b) b5.o).trans M);have a4:=J (d1.o.fr M Ao);have c7:=J (a6.o w1);go_wp21;refine(c7.o).mono ?_;rintro x a5 ⟨v,rfl,⟨A,cap,rfl,E⟩,aa⟩;obtain⟨a0,c8,d2⟩:=bF (b8.o.below aa) (a4.o.below aa a4.o.lt) (a7.o a5 A cap E);have d5:a5.cell? (w,0)=W:=c8.o.cell 0;go_wp21;refine(d2.o).mono ?_;rintro x d8 ⟨b4,y⟩;have a2:=J (a0.o.below b4);have b3:=J a0.o.size;rcases k:jl W q with _|r;rw[k] at y;obtain⟨A2,rfl⟩:=y;have a8:=J (show R=none by rw[<-z.o,k];split<;>rfl);exact Rk;rw[k] at y;obtain⟨g,rfl,c4,c5⟩:=y;have b1:=J c5;by_cases u:e=0;.have b0:=J c4;have a8:=J (show R=some r by rw[<-z.o,k,az (by simpa using u)]);subst u;go_wp2;go_returns;refine⟨a2.o,?_⟩;rw[a8.o];exact⟨g,rfl,cp b3.o b0.o,b1.o⟩
 have a8:=J (show R=none by rw[<-z.o,k,aP u]);have b9:r.length=0:=by rcases b2.o with ⟨_,p⟩|⟨p,_⟩;rw[p] at k;injection k with k;rw[<-k];rfl;exact absurd p u
 have d4:(((e:Nat):Int)==0)=false:=pt;rw[b9];exact Rk
theorem Uq (v:aS):∀(p:bd) (last:aS),ly last (p++[v])=ly last p++[bs (jp (aH v) (aH (p.getLastD last))).1]
 |[],last=>rfl
 |a::r,last=>by rw[ju,ly,Uq v r a,ly,ju];cases r<;>rfl
theorem J1 (v:aS):∀(p:bd) (last:aS),Yg last (p++[v])=Yg last p++[bs (jp (aH v) (aH ((Yg last p).getLastD last))).1]
 |[],last=>rfl
 |a::r,last=>by rw[ju,Yg,J1 v r,Yg,ju];cases r<;>rfl
theorem Qc (l:bd):∀last,(Yg last l)=l.length:=by
 induction l with
 |nil=>intro _;rfl
 |cons v r ih=>intro last;simp[Yg,ih]
theorem TA (p:bd) (v d:aS):(p++[v]).getLastD d=v:=by rw[List.getLastD_eq_getLast?,List.getLast?_concat];rfl
theorem Zad (a b:ax):(jp a b).1<=a.length:=by unfold jp;split;exact cf _;split;exact cf _;show(List.zipWith mx a b).length<=_;rw[Ak];omega
theorem VC (w:Int) (c:ci):(mE w c).length<=128:=by unfold mE;split;exact cf _;rename_i h;rw[iK];omega
theorem Zgd {p:bd} {x y:aS} {j:Nat} (h:p=j):(p++x::r).set j y=(p++[y])++r:=by rw[nz _ _ O,h,fv,List.set_cons_zero,ey];rfl
theorem ZbI (h:∀s∈l,s.size<=N):∀last,∀s∈ly last l,s.size<=N:=by
 induction l with
 |nil=>intro last s g;cases g
 |cons v r ih=>intro last s g;rcases jx.1 g with rfl|g;exact P0;exact ih (λx k=>h x (gN _ k)) v s g
theorem y_ (a b:aS) (g:a.size<=1099511627776) (hb:b.size<=1099511627776) (W:au):
  dt 275 #[a,b] W (bN W (.tuple #[bs (jp (aH a) (aH b)).1,((jp (aH a) (aH b)).2:Int)])):=by have:=ZhG (aH a) (aH b) (by rw[Z2];exact g) (by rw[Z2];exact hb) W;rw[Zd,Zd] at this;exact this
def sh (last:aS) (l:bd) (j:Nat):bd:=ly last (l.take j)++List.replicate (l.length-j) ⟨#[]⟩
theorem ZmY (last:aS) (l:bd):(bD (sh last l 0)).toArray=Array.replicate l.length (.string ⟨#[]⟩:aJ):=by unfold sh;rw[po,Nat.sub_zero];show(bD (List.replicate l.length ⟨#[]⟩)).toArray=_;exact I8
theorem ZeQ (last:aS) (l:bd) (j:Nat) (h:j<l):(sh last l j).set j (bs (jp (aH l[j]) (aH ((l.take j).getLastD last))).1)=sh last l (j+1):=by unfold sh;rw[show l.length-j=(l.length-(j+1))+1 by omega,pS,Zgd (by rw[Dc,eC];omega),<-Uq,<-dD h]
theorem ZeP (last:aS) (l:bd) (j:Nat) (h:j<=l):(sh last l j)=l.length:=by unfold sh;rw[bT,Dc,eC,iK];omega
theorem ZeO (last:aS) (l:bd):sh last l l.length=ly last l:=by unfold sh;rw[pm,fv,List.replicate_zero,fu]
theorem Zb8 (c3:At w A (bD l)) (z:∀s∈l,s.size<=1099511627776) (n cap:Nat) (G:n=l) (g2:n<=4096) (W:Int):
  Calls prog 268 #[.agg #[W],(A,n,cap)] w (bN w (.tuple #[bs (HX W l),true])):=by
 have b7:=Bk.new w 274 #[W];have a1:=ZE w (.cells #[W] 274);have d7:=Y4 (P:=prog) 23 9 (.string ⟨#[]⟩) 16 underlying23 YR rfl (n:Int) n rfl O O (w.alloc (.cells #[W] 274));have a2:=Bk.new (w.alloc (.cells #[W] 274)) 9 (Array.replicate n (.string ⟨#[]⟩));have b5:=b7.alloc (.cells (Array.replicate n (.string ⟨#[]⟩)) 9);have t:=J (a1.alloc a1.size (.cells (Array.replicate n (.string ⟨#[]⟩)) 9));obtain⟨Z,F⟩:=ay (bs (mE W 48));have a8:Z.size<=128:=(by rw[<-F,Z0];exact VC W 48);have b9:Array.replicate n (.string ⟨#[]⟩:aJ)=(bD (sh Z l 0)).toArray:=(by rw[G,ZmY]);have c5:=J (λk=>GU W 48 k);rw[F,show(((48:ci).toNat:Nat):Int)=48 from rfl] at c5;rw[World.size_alloc] at d7 a2;have b1:((w.alloc (.cells #[W] 274)).alloc (.cells (Array.replicate n (.string ⟨#[]⟩)) 9)).cell? (w,0)=W:=b5.cell 0;obtain⟨Ha,d1,d8,c4,a4,I⟩:=fF c3 (λ(v u:aS) (e8:v∈l) (e7:u.size<=1099511627776) k=>y_ v u (z v e8) e7 k) z b9 a2 G;have a7:n=(ly Z l):=(by rw[Dc];exact G);have c9:=J (λ(k:au) (B:bS) (h:At k B (bD (ly Z l)))=>JS h (ZbI z Z) n n a7 O);have b8:n=(ZM (ly Z l)):=(by unfold ZM;rw[dc];exact a7);have c7:=Qs (l:=ly Z l) O;have M:=J (λk (B:bS) (c:Nat) (h:At k B (bD (ZM (ly Z l))))=>X9 h (λs e6=>by have:=c7.2 s e6;omega) n c b8 O);have b6:=QF (l:=ly Z l) O;unfold HX;rw[F];unfold gj at M;rw[b6.2] at M;generalize bs (enc (ZM (ly Z l))).1=SR at*;generalize (w.alloc (.cells #[W] 274)).alloc (.cells (Array.replicate n (.string ⟨#[]⟩)) 9)=W0 at*;rw[c4.o] at a4;have d2:=J a8;clear c3 z G a2 b9 c4 b7 a1 b5 a7 b8 c7 b6 F a8;go_in;go_wp21;refine aO (c5.o _) λw1 c6=>?_;have a0:=J (t.o.trans (c6.mono t.o.size));have d9:=J (a4.o.below c6 a4.o.lt);go_wp2;go_loopw [7,20] (λf2 Q wr=>∃j:Nat,j<=n/\Q=j/\f2=.string ((l.take j).getLastD Z)/\Hid (Bk wr (w.heap.size+1) 9 (bD (sh Z l j)).toArray)/\Hid (Below w w wr)) (λ_ Q _=>(n-intOf Q).toNat);exact⟨0,cf _,rfl,rfl,d9,a0⟩;obtain⟨j,g1,rfl,rfl,a5,hb⟩:=hrel;by_cases ab:j<n
 .have D:j<l:=im;obtain⟨b,o,rfl,f7,e5⟩:=Yl (Ha.o.below hb.o) j D;have f3:((l.take j).getLastD Z).size<=1099511627776:=by rcases a6:(l.take j).getLast? with _|u;rw[List.getLastD_eq_getLast?,a6];have:=d2.o;show Z.size<=_;omega;rw[List.getLastD_eq_getLast?,a6];exact d8.o u (Aj (List.mem_of_getLast? a6))
  have a3:=J (d1.o l[j] ((l.take j).getLastD Z) (dr _) f3);have R:=J (ZeQ Z l j D);have y:=ZeP Z l j O;have b4:l.take (j+1)=l.take j++[l[j]]:=dD D;obtain⟨S,e3⟩:=ay l[j];rw[e3] at e5 a3 R b4;have e1:=J (show S=(l.take (j+1)).getLastD Z by rw[b4,TA]);have d3:=J (show j<(sh Z l j) by rw[y];exact D);obtain⟨T,e4⟩:=ay (bs (jp (aH S) (aH ((l.take j).getLastD Z))).1);rw[e4] at a3 R;generalize ((jp (aH S) (aH ((l.take j).getLastD Z))).2:Int)=E at*;generalize (l.take j).getLastD Z=U at*;have f9:(j:Int)<n:=O;have g3:(0:Int)<=j:=O;go_wp21;refine aO (a3.o _) λw1 t=>?_;have q:=a5.o.below t a5.o.lt;have b1:=q.cell j;rw[mK,YD _ _ d3.o] at b1;have f8:=q.frozen j;have b2:=Dq q j T;rw[R.o] at b2;have d4:=J b2;have a0:=J ((hb.o.trans (t.mono hb.o.size)).setCell (p:=⟨w+1,j,none⟩) (by simp) (.string T));generalize (sh Z l j)[j]=OLD at*;go_wp2;refine⟨⟨j+1,ab,ck,by rw[<-e1.o],d4,a0⟩,?_⟩;simp[intOf]<;>omega
 have e2:j=n:=O;have q:=a5.o;rw[e2,I.o,ZeO] at q;have b0:=q.at_;rw[Ci] at b0;have c8:=J (c9.o wr _ b0);generalize (l.take j).getLastD Z=U at*;go_wp21;refine(c8.o).mono ?_;rintro x f4 ⟨g,rfl,g0,f6,d6,aa⟩;have b3:=hb.o.trans (aa.mono hb.o.size);have f5:=J (M.o f4 _ n d6);go_wp21;refine aO f5.o λg4 d5=>?_;have e9:=b3.trans (d5.mono b3.size);go_wp2;go_returns;exact⟨rfl,e9⟩
theorem Sd (h:∀s∈l,s.size<=N):∀last,∀s∈Yg last l,s.size<=N:=by
 induction l with
 |nil=>intro last s g;cases g
 |cons v r ih=>intro last s g;rcases jx.1 g with rfl|g;exact P0;exact ih (λx k=>h x (gN _ k)) _ s g
def tf (last:aS) (l:bd) (j:Nat):bd:=Yg last (l.take j)++l.drop j
theorem Zh0 (last:aS) (l:bd) (j:Nat) (h:j<l):(tf last l j).set j (bs (jp (aH l[j]) (aH ((Yg last (l.take j)).getLastD last))).1)=tf last l (j+1):=by unfold tf;rw[kw h,Zgd (by rw[Qc,eC];omega),<-J1,<-dD h]
theorem ZgZ (last:aS) (l:bd) (j:Nat) (h:j<=l):(tf last l j)=l.length:=by unfold tf;rw[bT,Qc,eC,jt];omega
theorem Zko (last:aS) (l:bd) (j:Nat) (h:j<l):(bD (tf last l j))[j]? =some (.string l[j]):=by unfold tf bD;rw[jV,pR (by rw[Qc,eC];omega),Qc,eC,show j-min j l.length=0 by omega,List.getElem?_drop,tW,fD h];rfl
theorem ZgY (last:aS) (l:bd):tf last l l.length=Yg last l:=by unfold tf;rw[pm,wY,fu]
theorem Zqm (last:aS) (l:bd) (j:Nat) (h:j<l):(Yg last (l.take (j+1))).getLastD last=bs (jp (aH l[j]) (aH ((Yg last (l.take j)).getLastD last))).1:=by rw[dD h,J1,TA]
theorem Z9k {last:aS} (h:∀s∈l,s.size<=N) (g:last.size<=N) (j:Nat):((Yg last (l.take j)).getLastD last).size<=N:=by rw[List.getLastD_eq_getLast?];rcases k:(Yg last (l.take j)).getLast? with _|u;exact g;exact Sd (λs p=>h s (Aj p)) last u (List.mem_of_getLast? k)
theorem QP {W:Int} {s:ax} (h:XL W s=some r):(∀v∈r,v.size<=128)/\r.length<=4096:=by unfold XL at h;split at h;cases h;obtain⟨h1,g⟩:=JL h;refine⟨λv p=> ?_,?_⟩;have:=(Zo.1 (ZK.1 (h1 v p)).1).2.2;rw[Z2] at this;exact this;rw[g];rcases XW s 4096 with (h|h)|⟨l,h,_,_,_,k⟩;rw[h];exact cf _;rw[h];exact cf _;rw[h];exact k
theorem Zc8 (h:RV w b s 0) (e6:s.size<=1000000000) (W:Int):
  Calls prog 240 #[.agg #[W],(b,0)] w λx w'=>yE b w ((XL W (aH s)).map (Yg (bs (mE W 48)))) x w':=by
 have ab:=Bk.lt h;have b6:=Bk.new w 274 #[W];have d6:=ZE w (.cells #[W] 274);have h0:RV (w.alloc (.cells #[W] 274)) b s 0:=Bk.alloc h _;have c5:=J (TJ h0 e6 W);have b0:=J (λa1=>GU W 48 a1);obtain⟨Z,a7⟩:=ay (bs (mE W 48));have c8:Z.size<=128:=(by rw[<-a7,Z0];exact VC W 48);rw[a7,show(((48:ci).toNat:Nat):Int)=48 from rfl] at b0;rw[a7];have f4:(w.alloc (.cells #[W] 274)).cell? (w,0)=W:=b6.cell 0;have a8:=λr=>QP (W:=W) (s:=aH s) (r:=r);generalize XL W (aH s)=k at*;have Q:=J (rfl:k.map (Yg Z)=k.map (Yg Z));obtain⟨R,b8⟩:=ay (k.map (Yg Z));rw[b8];obtain⟨Q,e8,d5,c9,d1,F⟩:=fF b8 b6 d6 c8 a8 ab;have d2:(w.alloc (.cells #[W] 274))=w.heap.size+1:=World.size_alloc _ _;have a0:=J d2;go_in;go_wp21;refine(c5.o).mono ?_;rintro x w1 ⟨b5,c4⟩;have b7:=J ((Fr.of_below (S:=only b) d5.o).trans b5);have d7:=e8.o.fr b5 Ao;have f5:w1.cell? (w,0)=W:=d7.cell 0;rcases k with _|r;.obtain⟨A,rfl⟩:=c4;have a4:=J (show R=none from Q.o.symm);go_wp21;refine aO (b0.o _) λf3 aa=>?_;have z:=J (b7.o.below aa);go_wp2;go_loopw [22] (λy wr=>y=(0:Int)/\Hid (Fr (only b) w wr)) (λ_ _=>0);exact⟨rfl,z⟩;obtain⟨rfl,M⟩:=hrel;go_wp2;go_returns;refine⟨M.o,?_⟩;rw[a4.o];exact⟨_,rfl⟩
 obtain⟨g,rfl,f8,t⟩:=c4;have a4:=J (show R=some (Yg Z r) from Q.o.symm);have b1:=J (show w.heap.size+1<=g by have:=a0.o;omega);have a2:=d1.o r rfl;have b2:=J t;have d9:=J a2.1;have d8:=a2.2;have c7:=J (λ(v u:aS) (e7:v∈r) (g0:u.size<=128) a1=>y_ v u (by have:=a2.1 v e7;omega) O a1);obtain⟨n,c3⟩:=ay r.length;have I:=J c3;rw[c3] at d8⊢;go_wp21;refine aO (b0.o _) λf3 aa=>?_;have z:=J (b7.o.below aa);have e1:=J (b2.o.below aa b2.o.lt);go_wp2;go_loopw [8,22] (λe9 y wr=>∃j:Nat,j<=n/\y=j/\e9=.string ((Yg Z (r.take j)).getLastD Z)/\Hid (Bk wr g 9 (bD (tf Z r j)).toArray)/\Hid (Fr (only b) w wr)) (λ_ y _=>(n-intOf y).toNat);exact⟨0,cf _,rfl,rfl,e1,z⟩;obtain⟨j,f9,rfl,rfl,t,M⟩:=hrel;by_cases ab:j<n
 .have G:j<r.length:=xi;have b9:=t.o.cell j;rw[mK,Zko Z r j G] at b9;have f2:=Z9k (l:=r) d9.o c9.o j;have a5:=J (c7.o r[j] _ (dr _) f2);have D:=J (Zh0 Z r j G);have B:=ZgZ Z r j O;have a6:=J (Zqm Z r j G);obtain⟨S,e4⟩:=ay r[j];rw[e4] at b9 a5 D a6;have b4:=J (show j<(tf Z r j) by rw[B];exact G);obtain⟨T,e5⟩:=ay (bs (jp (aH S) (aH ((Yg Z (r.take j)).getLastD Z))).1);rw[e5] at a5 D a6;generalize ((jp (aH S) (aH ((Yg Z (r.take j)).getLastD Z))).2:Int)=E at*;generalize (Yg Z (r.take j)).getLastD Z=U at*;have f7:(j:Int)<n:=O;have g1:(0:Int)<=j:=O;go_wp21;refine aO (a5.o _) λw1 b3=>?_;have q:=t.o.below b3 t.o.lt;have d4:=q.cell j;rw[mK,YD _ _ b4.o] at d4;have f6:=q.frozen j;have a3:=Dq q j T;rw[D.o] at a3;have d3:=J a3;have g2:(w1.setCell (g,j) (.string T)).cell? (g,j)=T:=by rw[a3.cell j,<-D.o,mK];unfold bD;rw[jV,List.getElem?_set_self b4.o];rfl
  have z:=J ((M.o.below b3).setCell (p:=⟨g,j,none⟩) (.inr (by have:=b1.o;exact dw)) (.string T));generalize (tf Z r j)[j]=OLD at*;go_wp2;refine⟨⟨j+1,ab,ck,by rw[a6.o],d3,z⟩,?_⟩;simp[intOf]<;>omega
 have e3:j=n:=O;have q:=t.o;rw[e3,<-I.o,ZgY] at q;have e2:=J q;have c6:=J (show(Yg Z r).length=n by rw[Qc,I.o]);generalize (Yg Z (r.take j)).getLastD Z=U at*;go_wp2;go_returns;refine⟨M.o,?_⟩;rw[a4.o];exact⟨g,by rw[c6.o];rfl,by have:=b1.o;omega,e2.o⟩
theorem YO (a:List Int) (x:Int):bQ (a++[x])=bQ a++[.int .i64 x]:=by simp[bQ,iv]
theorem WT (a b:aS) (g:a.size<=1099511627776) (hb:b.size<=1099511627776) (W:au):
  dt 274 #[a,b] W (bN W (.tuple #[bs (qf (aH a) (aH b)).1,.bool (qf (aH a) (aH b)).2])):=by have:=Zhu (aH a) (aH b) (by rw[Z2];exact g) (by rw[Z2];exact hb) W;rw[Zd,Zd] at this;exact this
theorem yZ {i:Nat} (h:i<l):l.getD i default=l[i]:=by rw[qA,fD h];rfl
theorem Zhy (b5:At w A (bD l)) (a7:∀s∈l,s.size<=1099511627776) (n cap:Nat) (b7:n=l) (h0:n<=4096) (st:aS) (a6:st.size<=1099511627776):
  Calls prog 297 #[(A,n,cap),st] w λx w'=>∃v,x=.returned v/\h' w' v (iI l st)/\Below w w w':=by
 obtain⟨Ha,I,c6,f8,d7⟩:=ia b5 b7 (λ(v:aS) (a2:v∈l) z=>WT v st (a7 v a2) a6 z) (Zm (w:=w) (base:=w.heap.size) (e:=3) (size:=1)) (bi w w);clear b5 b7 a7 a6;go_in;go_wp2;go_loopw [5,6] (λf6 a3 wr=>∃k:Nat,(k=0\/k+1<=n)/\a3=((k:Int)+1:Int)/\Hid (wr.ownsRow w 3 1 f6 (jQ l st k) (bQ (jQ l st k)))/\Hid (Below w w wr)) (λ_ a3 _=>(n-intOf a3).toNat);exact⟨0,.inl rfl,rfl,f8,d7⟩;obtain⟨k,g9,rfl,Q,hb⟩:=hrel;obtain⟨A5,a5,b3,rfl⟩:=Za Q.o;by_cases ab:k+1<n
 .have b1:k+1<l.length:=im;have c4:k<l:=O;obtain⟨b,o,rfl,g5,e7⟩:=Yl (Ha.o.below hb.o) k c4;have c8:∀z,Below wr wr z->z.cell? (b,o+(k+1))=some (.string l[k+1]):=λz e6=>by obtain⟨g2,h3,a0,_,e5⟩:=Yl ((Ha.o.below hb.o).mono aW e6) (k+1) b1;injection a0 with a0;injection a0 with h1 D;subst h1;subst D;exact e5
  have b9:=J c8;have B:=J (c6.o l[k] (dr _));have E:tE l st k=decide (qf (aH l[k]) (aH st)=(aH l[k+1],true)):=by unfold tE;rw[yZ c4,yZ b1]
  have f7:=ZiC l st k;have e8:=LM l st k;obtain⟨c9,f3⟩:=ay l[k];obtain⟨u,f4⟩:=ay l[k+1];rw[f3] at e7 B E;rw[f4] at b9 E;obtain⟨⟨r,q⟩,hr⟩:=ay (qf (aH c9) (aH st));rw[hr] at B E;simp only at B;have f2:tE l st k=(q&&decide (bs r=u)):=by rw[E,lO,gm,fE,fE,Prod.mk.injEq];constructor;rintro⟨h1,D⟩;exact⟨D,by rw[h1,Zd]⟩;rintro⟨h1,D⟩;exact⟨by rw[<-D,Zk],h1⟩
  have f9:=J f2;have c7:=J f7
  have e4:∀X:aS,bs r=X->(if q=true/\X=u then jQ l st (k+1)=jQ l st k else jQ l st (k+1)=jQ l st k++[(k:Int)+1]):=λX F=>by subst F;rw[c7.o,f9.o];by_cases G:q=true;by_cases p:bs r=u;rw[aP ⟨G,p⟩,G,cT p];rfl;rw[az (λh=>p h.2),cG p,Bool.and_false,az (by simp)];rw[az (λh=>G h.1),az (by simp[G])]
  obtain⟨X,F⟩:=ay (bs r);have a4:=J (e4 X F);rw[F] at B;have f5:(jQ l st k).length+1<=4096:=O;have b4:=J f5;have i1:IntKind.i64.wrap ((k:Int)+1-1)=(k:Int):=pr;have g4:(0:Int)<=k:=O;have g1:(k:Int)<n:=O;have g3:(k:Int)+1<(n:Int):=O;have g7:(k:Int)+1-1=(k:Int):=O;go_wp21;refine aO (B.o _) λw1 M=>?_;have d9:=b9.o w1 M;have b6:w1.cell? (b,o+((k:Int)+1).toNat)=u:=by rw[show((k:Int)+1).toNat=k+1 by omega];exact d9
  have g8:((k:Int)+1).toNat=k+1:=O;have a8:=Z6 Q.o (Fr.of_below (S:=nob) M) (λ_ _ f=>f);have R:=J (hb.o.trans (M.mono hb.o.size));obtain⟨v',b0,d4,d6,d3,_⟩:=ZU (P:=prog) 123 3 _ _ underlying123 Y1 rfl (w:=w1) a8 R.o R.o.size ((k:Int)+1:Int) rfl (by have:=b4.o;exact gn) (by have:=b4.o;omega);obtain⟨b8,t,y,d8⟩:=dm d4 d6 d3 a8;cases q;have g:=J (show jQ l st (k+1)=jQ l st k++[(k:Int)+1] by have:=a4.o;rwa [az (by simp)] at this);exact Oi;by_cases p:X=u;.have g:=J (show jQ l st (k+1)=jQ l st k by have:=a4.o;rwa [aP ⟨rfl,p⟩] at this);have d1:(X.toList !=u.toList)=false:=(by rw[KE,p];simp);have a1:(X.toList==u.toList)=true:=(by rw[XM,p];simp);have c3:=J (show w1.ownsRow w 3 1 (.slice A5 a5 b3) (jQ l st (k+1)) (bQ (jQ l st (k+1))) by rw[g.o];exact d8.o);go_wp2;refine⟨⟨k+1,.inr ab,ck,c3,R⟩,?_⟩;simp[intOf]<;>omega
  have g:=J (show jQ l st (k+1)=jQ l st k++[(k:Int)+1] by have:=a4.o;rwa [az (λh=>p h.2)] at this);have d1:(X.toList !=u.toList)=true:=(by rw[KE,cG p];rfl);have a1:(X.toList==u.toList)=false:=(by rw[XM,cG p]);have g0:=b8;exact Oi
 have e3:n-1=k:=O;have g6:¬(k:Int)+1<(n:Int):=O;have d2:Hid (h' wr (.slice A5 a5 b3) (iI l st)):=J (by obtain⟨c5,e9,a2,d5⟩:=Zi Q.o;unfold iI;rw[<-I.o,e3];exact⟨c5,e9,a2,d5⟩);go_wp2;go_returns;exact⟨_,rfl,d2.o,hb.o⟩
end Go.Proofs.Y
namespace Wv
open Go.Proofs.Tryz Go Go.RowKit
open Classical in
noncomputable def lk (l:List MapEntry) (k:Value):Option Value:=(l.find? (λe=>decide (e.key=k))).map (·.val)
theorem Qm {e:MapEntry} {t:List MapEntry} {k:aJ} (h:e.key=k):lk (e::t) k=some e.val:=by unfold lk;grind
theorem YA {e:MapEntry} {t:List MapEntry} {k:aJ} (h:e.key≠k):lk (e::t) k=lk t k:=by unfold lk;grind
theorem Hu {d:TypeDesc} {k:aJ} (E:MapKept.IsKey d k):∀(l:List MapEntry) (i:Nat),(∀x∈l,MapKept.IsKey d x.key)->
  (Instr.findNow d k l i=some none/\lk l k=none)\/∃j v,Instr.findNow d k l i=some (some (i+j,v))/\lk l k=some v/\(∃e,l[j]? =some e/\e.key=k)/\
   ∀u,lk (l.modify j λe=> { e with key:=k,val:=u }) k=some u/\∀k',k'≠k->lk (l.modify j λe=> { e with key:=k,val:=u }) k'=lk l k'
 |[],i,_=>.inl ⟨rfl,rfl⟩
 |e::t,i,h=>by
  obtain⟨r,B,F⟩:=MapKept.sameNow_of_keys E (h e (.head _));cases r with
  |true=>have D:=F.1 rfl;refine .inr ⟨0,e.val,by simp[Instr.findNow,B],Qm D.symm,⟨e,rfl,D.symm⟩,λu=>⟨?_,λk' p=> ?_⟩⟩;show lk ({ e with key:=k,val:=u } ::t) k=_;rw[Qm rfl];show lk ({ e with key:=k,val:=u } ::t) k'=_;rw[YA (λh=>p h.symm),YA (λh=>p aI)]
  |false=>have y:e.key≠k:=λq=>aI;rcases Hu E t (i+1) (λx M=>h x (.tail _ M)) with ⟨h1,z⟩|⟨j,v,h1,z,⟨G,Q,I⟩,h5⟩;exact .inl ⟨by simp[Instr.findNow,B,h1],by rw[YA y,z]⟩;refine .inr ⟨j+1,v,by simp[Instr.findNow,B,h1];omega,by rw[YA y,z],⟨G,aI,I⟩,λu=>⟨?_,λk' p=> ?_⟩⟩;show lk (e::t.modify j _) k=_;rw[YA y];grind;show lk (e::t.modify j _) k'=_;by_cases g:e.key=k';rw[Qm g,Qm g];rw[YA g,YA g];exact(h5 u).2 k' p
theorem w_ (l:List MapEntry) (e:MapEntry) (h:lk l e.key=none):lk (l++[e]) e.key=some e.val/\∀k,k≠e.key->lk (l++[e]) k=lk l k:=by
 induction l with
 |nil=>exact⟨Qm rfl,λk q=>YA (λh=>q h.symm)⟩
 |cons a t ih=>by_cases p:a.key=e.key;rw[Qm p] at h;cases h;rw[YA p] at h;obtain⟨i1,u⟩:=ih h;refine⟨?_,λk q=> ?_⟩;rw[ju,YA p,i1];rw[ju];by_cases g:a.key=k;rw[Qm g,Qm g];rw[YA g,YA g,u k q]
def eE (d:TypeDesc) (w:au) (b:Nat) (M:aJ->Option aJ):Prop:=∃es clock,w.heap[b]? =some (.map es clock)/\(∀x∈es.toList,MapKept.IsKey d x.key)/\∀k,MapKept.IsKey d k->lk es.toList k=M k
section
variable {P:Program} {d:TypeDesc} {w w':au} {b:Nat} {M:aJ->Option aJ} {t kt et:TypeId}
theorem eE.lt (h:eE d w b M):b<w:=by obtain⟨es,c,h1,_⟩:=h;grind
theorem eE.of (h:eE d w b M) (k:w'.heap[b]? =w.heap[b]?):eE d w' b M:=by obtain⟨es,c,h1,g⟩:=h;exact⟨es,c,k.trans h1,g⟩
theorem eE.below {B:Nat} (h:eE d w b M) (hb:Below B w w') (g:b<B):eE d w' b M:=h.of (hb.block b g)
theorem eE.fr {S:Nat->Prop} (h:eE d w b M) (k:Fr S w w') (g:¬S b):eE d w' b M:=h.of (k.block b h.lt g)
theorem eE.drew (h:eE d w b M):eE d w.drew b M:=h
theorem eE.drewN (h:eE d w b M) (n:Nat):eE d (w.drewN n) b M:=h
theorem eE.alloc (h:eE d w b M) (o:Obj):eE d (w.alloc o) b M:=h.of (Below.heap_alloc w o b h.lt)
theorem eE.new (d:TypeDesc) (w:au):eE d (w.alloc (.map #[] 0)) w (λ_=>none):=⟨#[],0,heap_alloc_new w _,(λx g=>aI),λk _=>rfl⟩
theorem eE.get (ht:P.underlying t=some (.map kt et)) (hd:P.underlying kt=some d) (h:eE d w b M) (k v:aJ) (p:MapKept.IsKey d k) (y:M k=some v):
  (Instr.lookup t (.map (some b)) k false).run P w=.ok v w/\(Instr.lookup t (.map (some b)) k true).run P w=.ok (.tuple #[v,true]) w:=by obtain⟨es,c,h1,q,u⟩:=h;have g:=λe=>MapKept.run_checkKey (w:=w) hd p e 9999;rcases Hu p es.toList 0 q with ⟨f1,l⟩|⟨j,z,f1,l,_,_⟩;exact aI;rw[u k p,y] at l;injection l with l;subst l;constructor;exact O3;exact O3
theorem eE.miss (ht:P.underlying t=some (.map kt et)) (hd:P.underlying kt=some d) (h:eE d w b M) (k z:aJ) (l:MapKept.IsKey d k) (B:M k=none) (u:(zeroValue et).run P w=.ok z w):
  (Instr.lookup t (.map (some b)) k false).run P w=.ok z w/\(Instr.lookup t (.map (some b)) k true).run P w=.ok (.tuple #[z,false]) w:=by obtain⟨es,c,h1,q,y⟩:=h;have g:=λe=>MapKept.run_checkKey (w:=w) hd l e 9999;rcases Hu l es.toList 0 q with ⟨f1,p⟩|⟨j,D,f1,p,_,_⟩;constructor;exact OZ;exact OZ;grind
theorem eE.put (R:P.underlying t=some (.map kt et)) (hd:P.underlying kt=some d) (h:eE d w b M) (k v:aJ) (u:MapKept.IsKey d k):
  ∃w',(Instr.mapUpdate t (.map (some b)) k v).run P w=.ok () w'/\(∀l,l k=some v->(∀x,x≠k->l x=M x)->eE d w' b l)/\Fr (λj=>j=b) w w'/\w'.heap.size=w.heap.size:=by have ab:=h.lt;obtain⟨es,c,h1,G,I⟩:=h;have D:=MapKept.run_checkKey (w:=w) hd u false 9999;have E:∀o,Fr (λj=>j=b) w { w with heap:=w.heap.setIfInBounds b o } :=λo=>⟨rfl,rfl,rfl,by simp,λr a2 a1=>aI⟩;rcases Hu u es.toList 0 G with ⟨f1,q⟩|⟨j,v',f1,q,⟨e,S,F⟩,f5⟩;refine⟨{ w with heap:=w.heap.setIfInBounds b (.map (es.push { key:=k,val:=v,born:=c }) (c+1)) },?_,λl p z=> ?_,E _,by simp⟩;unfold Instr.mapUpdate;simp only[Sem.run_bind,run_underlying R,Result.andThen_ok,MapKept.run_getObj_map h1,D,MapKept.run_findKey hd f1,MapKept.run_setObj_map _ h1];refine⟨_,_,(MapKept.heap_set h1).1,?_,?_⟩;exact aI;intro x y;rw[Array.toList_push];by_cases g:x=k;subst g;rw[p];exact(w_ _ { key:=x,val:=v,born:=c } q).1;rw[z x g,<-I x y];exact(w_ _ { key:=k,val:=v,born:=c } q).2 x g;have Q:es[j]? =some e:=(by simpa using S);refine⟨{ w with heap:=w.heap.setIfInBounds b (.map (es.modify j λe=> { e with key:=k,val:=v }) c) },?_,λl p z=> ?_,E _,by simp⟩;simp[Instr.mapUpdate,run_underlying R,MapKept.run_getObj_map h1,D,MapKept.run_findKey hd f1,Q,F,MapKept.run_keyThatStays u,MapKept.run_setObj_map _ h1,Result.andThen];refine⟨_,_,(MapKept.heap_set h1).1,?_,?_⟩;exact MapKept.isKey_modify G _ _ (λa0 B=>by rw[Q] at B;cases B;exact F.symm);intro x y;rw[Array.toList_modify];by_cases g:x=k;subst g;rw[p];exact(f5 v).1;rw[z x g,<-I x y];exact(f5 v).2 x g
end
