import Derived.Test.YtikecoijpkmnbaaGreatDoorJ14
set_option linter.all false
set_option maxRecDepth 100000
set_option maxHeartbeats 0
namespace Wv
open Go.Proofs.Y
variable{e:Nat}{f len most t:Int}{s text:aT}{st:List (Int×Int)}{zs:List Nat}
structure Hd where
 f:Int
 t:Int
 lv:Nat
 sp:Nat
 gaps:List (Int×Int)
 quiet:List Bool
 off:Int
 sn:Nat
 strs:List (Int×Int)
abbrev Rs:=aT×Nat
def hasS (s:Int×Int) (q:Bool) (lv:Int):Bool:= !q&&(decide (lv=0)||decide (lv=1)&& !decide (s.1=3))
def su (f t:Int):Int->List (Int×Int)->Bool
 |_,[]=>true
 |a,g::l=>decide (f+1<=g.1)&&decide (g.1<g.2)&&decide (g.2<=t+1)&&decide (a<g.1)&&su f t g.2 l
def mQ (f t:Int) (l:List (Int×Int)):Bool:=su f t f l&&decide (l.length<=16)
def lX (f:Int) (l:List (Int×Int)):ax:=l.flatMap λg=>bi (g.1-f-1).toNat++bi (g.2-g.1).toNat
def mD (l:List Bool):ax:=l.flatMap λq=>bi q.toNat
def lenT (lv:Int):List (Int×Int)->List Bool->List Nat->ax
 |s::st,q::qs,z::zs=>(if hasS s q lv then bi z else[])++lenT lv st qs zs
 |_,_,_=>[]
def xC (n:Nat) (f t:Int) (lv sp:Nat) (gs:List (Int×Int)):ax:=
 bi n++(bi (f+1).toNat++(bi (t-f).toNat++(bi lv++(bi sp++(bi gs.length++lX f gs)))))
def YR (st:List (Int×Int)) (f t:Int) (lv sp:Nat) (gs:List (Int×Int)) (qs:List Bool) (sn:Nat) (zs:List Nat):ax:=
 xC st.length f t lv sp gs++(mD qs++(bi sn++lenT lv st qs zs))
theorem Yt (n:Nat) (most:Int) (h:(n:Int)<=most) (g:n<9223372036854775808) (r:ax):bG (bs (bi n++r)) 0 most=(n,bs r,0):=by rw[VV (Mm n g r) O,<-Yq6,B7]
theorem ZW (h:(bG s e most).2.2=0):e=0/\aH s=bi (bG s e most).1++aH (bG s e most).2.1/\((bG s e most).1:Int)<=most:=by
 by_cases k:e=0
 .subst k
  have g:bG s 0 most=match gP (aH s) with
   |none=>(0,s,12)
   |some x=>if most<(x.1:Int) then(0,s,2) else(x.1,bs ((aH s).drop x.2),0):=rfl
  match hd:gP (aH s) with
  |none=>rw[g,hd] at h;cases h
  |some (n,z)=>rw[hd] at g;simp only at g;by_cases l:most<(n:Int);exact aO;rw[Vae l] at g;rw[g];exact⟨rfl,by exact Wc hd,O⟩
 rw[Uw k] at h;grind
theorem Yu (s:aT) (e:Nat) (h:0<=most):((bG s e most).1:Int)<=most:=by by_cases g:(bG s e most).2.2=0;exact(ZW g).2.2;unfold bG at g⊢;grind
def jo (f:Int) (x:Rs):Nat->List (Int×Int)×Rs
 |0=>([],x)
 |k+1=>
  ((jo f x k).1++[(f+1+(bG (jo f x k).2.1 (jo f x k).2.2 1099511627776).1,f+1+(bG (jo f x k).2.1 (jo f x k).2.2 1099511627776).1+(bG (bG (jo f x k).2.1 (jo f x k).2.2 1099511627776).2.1 (bG (jo f x k).2.1 (jo f x k).2.2 1099511627776).2.2 1099511627777).1)],
   (bG (bG (jo f x k).2.1 (jo f x k).2.2 1099511627776).2.1 (bG (jo f x k).2.1 (jo f x k).2.2 1099511627776).2.2 1099511627777).2)
def quiR (x:Rs):Nat->List Bool×Rs
 |0=>([],x)
 |k+1=>((quiR x k).1++[decide ((bG (quiR x k).2.1 (quiR x k).2.2 1).1=1)],(bG (quiR x k).2.1 (quiR x k).2.2 1).2)
def sK (s:Int×Int) (q:Bool) (lv:Int) (p:(List (Int×Int)×Int)×Rs):(List (Int×Int)×Int)×Rs:=
 if hasS s q lv=false then((p.1.1++[(0,0)],p.1.2),p.2)
 else if(bG p.2.1 p.2.2 16384).1=0 then((p.1.1++[(0,0)],p.1.2),(bG p.2.1 p.2.2 16384).2)
 else((p.1.1++[(p.1.2,((bG p.2.1 p.2.2 16384).1:Int))],p.1.2+(bG p.2.1 p.2.2 16384).1),(bG p.2.1 p.2.2 16384).2)
def gD (lv:Int) (st:List (Int×Int)) (qs:List Bool) (a:Int) (x:Rs):Nat->(List (Int×Int)×Int)×Rs
 |0=>(([],a),x)
 |k+1=>sK (st.getD k (0,0)) (qs.getD k false) lv (gD lv st qs a x k)
theorem Vk (f:Int) (x:Rs) (k:Nat):(jo f x k).1=k:=by
 induction k with
 |zero=>rfl
 |succ k ih=>rw[jo,Vab,ih];rfl
theorem V' (x:Rs) (k:Nat):(quiR x k).1=k:=by
 induction k with
 |zero=>rfl
 |succ k ih=>rw[quiR,Vab,ih];rfl
theorem Zk2 (s:Int×Int) (q:Bool) (lv:Int) (p:(List (Int×Int)×Int)×Rs):(sK s q lv p).1.1=p.1.1.length+1:=by unfold sK;grind
theorem Zk0 (lv:Int) (st:List (Int×Int)) (qs:List Bool) (a:Int) (x:Rs) (k:Nat):(gD lv st qs a x k).1.1=k:=by
 induction k with
 |zero=>rfl
 |succ k ih=>rw[gD,Zk2,ih]
theorem TI {f:Int} {x:Rs} :∀(k:Nat),(jo f x k).2.2=0->x.2=0/\aH x.1=lX f (jo f x k).1++aH (jo f x k).2.1
 |0,h=>⟨h,rfl⟩
 |k+1,h=>by rw[jo] at h⊢;obtain⟨a1,a2,_⟩:=ZW h;obtain⟨b1,g,_⟩:=ZW a1;obtain⟨c1,c2⟩:=TI k b1;rw[c2,g,a2];unfold lX;grind
theorem Uz {x:Rs} :∀(k:Nat),(quiR x k).2.2=0->x.2=0/\aH x.1=mD (quiR x k).1++aH (quiR x k).2.1
 |0,h=>⟨h,rfl⟩
 |k+1,h=>by
  rw[quiR] at h⊢;obtain⟨a1,a2,a3⟩:=ZW h;obtain⟨c1,c2⟩:=Uz k a1;rw[c2,a2];unfold mD;have hb:(decide ((bG (quiR x k).2.1 (quiR x k).2.2 1).1=1)).toNat=(bG (quiR x k).2.1 (quiR x k).2.2 1).1:=by by_cases h1:(bG (quiR x k).2.1 (quiR x k).2.2 1).1=1;exact aO;grind
  grind
theorem Ze8 (f:Int) (g:Int×Int) (l:List (Int×Int)):lX f (g::l)=bi (g.1-f-1).toNat++(bi (g.2-g.1).toNat++lX f l):=by unfold lX;grind
theorem Z9V {f:Int} {l:List (Int×Int)} (p:∀g∈l,f+1<=g.1/\g.1-f-1<=1099511627776/\g.1<=g.2/\g.2-g.1<=1099511627777) (r:ax):∀k,k<=l.length->jo f (bs (lX f l++r),0) k=(l.take k,(bs (lX f (l.drop k)++r),0))
 |0,_=>by rfl
 |k+1,h=>by obtain⟨h1,q,t,u⟩:=p _ (dt (show k<l.length by omega));rw[jo,Z9V p r k O,kw (show k<l.length by omega),Ze8,er,er];rw[Yt _ _ O O];rw[Yt _ _ O O,dK (show k<l.length by omega)];grind
theorem V8 {l:List Bool} (r:ax):∀k,k<=l.length->quiR (bs (mD l++r),0) k=(l.take k,(bs (mD (l.drop k)++r),0))
 |0,_=>by rfl
 |k+1,h=>by rw[quiR,V8 r k O,kw (show k<l.length by omega)];rw[show mD (l[k]::l.drop (k+1))=bi l[k].toNat++mD (l.drop (k+1)) from rfl,er];rw[Yt _ _ (by cases l[k]<;>decide) (by cases l[k]<;>decide),dK (show k<l.length by omega)];cases l[k]<;>rfl
def kW (a:Int):List Nat->List (Int×Int)
 |[]=>[]
 |z::zs=>(if z=0 then(0,0) else(a,(z:Int)))::kW (a+z) zs
theorem Gz:∀(zs:List Nat) (a:Int),(kW a zs)=zs.length
 |[],_=>rfl
 |z::zs,a=>by rw[kW,gd,Gz zs,gd]
theorem Ki (z:Nat):∀(zs:List Nat) (a:Int),kW a (zs++[z])=kW a zs++[if z=0 then(0,0) else(a+zs.sum,(z:Int))]
 |[],a=>by simp[kW]
 |y::zs,a=>by rw[jw,kW,Ki z zs,kW,jw];grind
theorem J7 (lv:Int) (s:Int×Int) (q:Bool) (z:Nat):∀(st:List (Int×Int)) (qs:List Bool) (zs:List Nat),st=zs.length->qs.length=zs.length->lenT lv (st++[s]) (qs++[q]) (zs++[z])=lenT lv st qs zs++(if hasS s q lv=true then bi z else[])
 |[],[],[],_,_=>by simp[lenT]
 |s'::st,q'::qs,z'::zs,h1,h2=>by rw[jw,jw,jw,lenT,lenT,J7 lv s q z st qs zs aO aO,er]
 |[],_,_::_,h1,_=>aO
 |_::_,_,[],h1,_=>aO
 |_,[],_::_,_,h2=>aO
 |_,_::_,[],_,h2=>aO
theorem Zgj {s:Int×Int} {q:Bool} {lv:Int} {p:(List (Int×Int)×Int)×Rs} (h:(sK s q lv p).2.2=0):
  p.2.2=0/\∃z:Nat,(sK s q lv p).1=(p.1.1++[if z=0 then(0,0) else(p.1.2,(z:Int))],p.1.2+z)/\aH p.2.1=(if hasS s q lv=true then bi z else[])++aH (sK s q lv p).2.1/\(hasS s q lv=false->z=0)/\z<=16384:=by unfold sK at h⊢;by_cases g:hasS s q lv=false;exact aO;rw[Vae g] at h⊢;by_cases h0:(bG p.2.1 p.2.2 16384).1=0;rw[Vag h0] at h⊢;obtain⟨a1,a2,a3⟩:=ZW h;grind;rw[Vae h0] at h⊢;obtain⟨a1,a2,a3⟩:=ZW h;grind
theorem UK {lv:Int} {st:List (Int×Int)} {qs:List Bool} {a:Int} {x:Rs} :∀(k:Nat),k<=st.length->k<=qs.length->(gD lv st qs a x k).2.2=0->
  x.2=0/\∃zs:List Nat,zs=k/\(gD lv st qs a x k).1=(kW a zs,a+zs.sum)/\aH x.1=lenT lv (st.take k) (qs.take k) zs++aH (gD lv st qs a x k).2.1/\(∀i,i<k->hasS (st.getD i (0,0)) (qs.getD i false) lv=false->zs.getD i 0=0)/\∀z∈zs,z<=16384
 |0,_,_,h=>⟨h,[],rfl,by simp[gD,kW],by rfl,O,by simp⟩
 |k+1,h1,h2,h=>by rw[gD] at h⊢;obtain⟨a1,z,a2,a3,a4,a5⟩:=Zgj h;obtain⟨b1,zs,p,b3,u,q,y⟩:=UK k O O a1;refine⟨b1,zs++[z],aO,?_,?_,?_,?_⟩;rw[a2,b3,Ki,List.sum_append,List.sum_singleton,xb,Int.add_assoc];rw[dK (show k<st by omega),dK (show k<qs by omega),J7 _ _ _ _ _ _ _ aO aO];grind;intro i hi g;by_cases l:i<k;have:=q i l g;rw[pf,List.getElem?_append_left O,<-pf];exact this;have:i=k:=O;subst this;have t:=a4 g;rw[t,pf,pO O,p,fh];rfl;grind
theorem Wn {lv:Int} {st:List (Int×Int)} {qs:List Bool} {a:Int} {zs:List Nat} (D:qs=st.length) (F:zs=st.length) (h0:∀i,i<st.length->hasS (st.getD i (0,0)) (qs.getD i false) lv=false->zs.getD i 0=0) (t:∀z∈zs,z<=16384) (r:ax):
  ∀k,k<=st.length->gD lv st qs a (bs (lenT lv st qs zs++r),0) k=((kW a (zs.take k),a+(zs.take k).sum),(bs (lenT lv (st.drop k) (qs.drop k) (zs.drop k)++r),0))
 |0,_=>by simp[gD,kW]
 |k+1,h=>by rw[gD,Wn D F h0 t r k O];have l:st.getD k (0,0)=st[k]'O:=aO;have p:qs.getD k false=qs[k]'O:=aO;have u:zs.getD k 0=zs[k]'O:=aO;have y:=h0 k O;have G:=t _ (dt (show k<zs.length by omega));rw[dK (show k<zs.length by omega),Ki,List.sum_append,List.sum_singleton,xb];rw[kw (show k<st.length by omega),kw (show k<qs.length by omega),kw (show k<zs.length by omega),lenT];rw[l,p,u] at y;rw[l,p];generalize st[k]'O=s at*;generalize qs[k]'O=q at*;generalize zs[k]'O=z at*;unfold sK;by_cases B:hasS s q lv=false;exact aO;have E:hasS s q lv=true:=(by cases hb:hasS s q lv<;>simp_all);rw[Vae B,Vag E,er];simp only;rw[Yt _ _ O O];simp only;by_cases g:z=0;rw[Vag g,g];simp;rw[Vae g,Vae g,Int.add_assoc]
structure Ha where
 n:Nat
 f:Int
 t:Int
 lv:Nat
 sp:Nat
 gaps:List (Int×Int)
 x:Rs
def mW (text:aT):Ha:=
 let k:=bG text 0 64;let a1:=bG k.2.1 k.2.2 1099511627776;let a2:=bG a1.2.1 a1.2.2 1099511627777;let a3:=bG a2.2.1 a2.2.2 2;let a4:=bG a3.2.1 a3.2.2 1099511627776;let a5:=bG a4.2.1 a4.2.2 16;let g:=jo (a1.1-1) a5.2 a5.1
 ⟨k.1,a1.1-1,a1.1-1+a2.1,a3.1,a4.1,g.1,g.2⟩
def yU (st:List (Int×Int)) (A:Ha):Bool:=
 decide (A.x.2=0)&&decide (A.n=st)&&decide (A.f<1099511627776)&&decide (A.f<A.t)&&decide (A.t<=1099511627776)&&(decide (A.lv=1)==decide (0<A.sp))&&mQ A.f A.t A.gaps
def rL (st:List (Int×Int)) (text:aT) (len:Int):Option Hd:=
 let A:=mW text;if yU st A=false then none else
 let q:=quiR A.x st;let z:=bG q.2.1 q.2.2 16384;let r:=gD A.lv st q.1 (2+len+z.1) z.2 st;if iQ r.2.1 r.2.2=0/\r.1.2<=16384 then some ⟨A.f,A.t,A.lv,A.sp,A.gaps,q.1,2+len,z.1,r.1.1⟩ else none
theorem Zjv (h:(mW text).x.2=0):aH text=xC (mW text).n (mW text).f (mW text).t (mW text).lv (mW text).sp (mW text).gaps++aH (mW text).x.1/\-1<=(mW text).f/\(mW text).n<=64/\(mW text).lv<=2/\(mW text).sp<=1099511627776:=by unfold mW at h⊢;simp only at h⊢;obtain⟨g,I⟩:=TI _ h;obtain⟨q,F,_⟩:=ZW g;obtain⟨p,E,_⟩:=ZW q;obtain⟨l,D,_⟩:=ZW p;obtain⟨k,B,_⟩:=ZW l;obtain⟨h1,z,_⟩:=ZW k;obtain⟨h0,e0,_⟩:=ZW h1;have M:=Yu text 0 (most:=64) O;generalize OF:bG text 0 64=a0 at*;generalize R:bG a0.2.1 a0.2.2 1099511627776=a1 at*;generalize G:bG a1.2.1 a1.2.2 1099511627777=a2 at*;have Q:=Yu a2.2.1 a2.2.2 (most:=2) O;generalize S:bG a2.2.1 a2.2.2 2=a3 at*;have l4:=Yu a3.2.1 a3.2.2 (most:=1099511627776) O;generalize u:bG a3.2.1 a3.2.2 1099511627776=a4 at*;generalize y:bG a4.2.1 a4.2.2 16=a5 at*;refine⟨?_,O,O,O,O⟩;unfold xC;rw[Vk,show((a1.1:Int)-1+1).toNat=a1.1 from by exact O,show((a1.1:Int)-1+a2.1-(a1.1-1)).toNat=a2.1 from by exact O];grind
theorem N5 {f t:Int} :∀ {l:List (Int×Int)} {a:Int},su f t a l=true->∀g∈l,f+1<=g.1/\g.1<g.2/\g.2<=t+1
 |[],_,_,g,k=>aO
 |x::l,a,h,g,k=>by unfold su at h;simp only[gm,Vax] at h;rcases jA.1 k with rfl|k;exact O;exact N5 h.2 g k
theorem A' {l:List (Int×Int)} (h:mQ f t l=true):(∀g∈l,f+1<=g.1/\g.1<g.2/\g.2<=t+1)/\l.length<=16:=by unfold mQ at h;rw[gm,Vax] at h;exact⟨N5 h.1,h.2⟩
theorem Znf {n:Nat} {lv sp:Nat} {gs:List (Int×Int)} (u:n<=64) (p: -1<=f) (l:f<1099511627776) (F:f<t) (y:t<=1099511627776) (D:lv<=2) (z:sp<=1099511627776) (k:mQ f t gs=true) (r:ax):
  mW (bs (xC n f t lv sp gs++r))=⟨n,f,t,lv,sp,gs,(bs r,0)⟩:=by obtain⟨E,B⟩:=A' k;unfold mW xC;simp only[er];rw[Yt n _ O O];rw[Yt _ _ O O];rw[Yt _ _ O O];rw[Yt _ _ O O];rw[Yt _ _ O O];rw[Yt _ _ O O];rw[show(((f+1).toNat:Int))-1=f from by exact O,show f+((t-f).toNat:Int)=t from by exact O];rw[Z9V (λg q=>aO) r gs aU,pi,wY];rfl
theorem Hl {A:Ha} :yU st A=true↔A.x.2=0/\A.n=st/\A.f<1099511627776/\A.f<A.t/\A.t<=1099511627776/\(A.lv=1↔0<A.sp)/\mQ A.f A.t A.gaps=true:=by unfold yU;grind
theorem Ua :iQ s e=0↔e=0/\aH s=[]:=by
 unfold iQ;constructor;intro h;split at h;exact O;refine⟨h,?_⟩;have:s.size=0:=O;exact ia this;rintro⟨h1,g⟩;have:s.size=0:=by show(aH s).length=0;rw[g];rfl
 grind
def Is (st:List (Int×Int)) (h:Hd) (len:Int) (zs:List Nat):Prop:=
 -1<=h.f/\h.f<1099511627776/\h.f<h.t/\h.t<=1099511627776/\h.lv<=2/\h.sp<=1099511627776/\(h.lv=1↔0<h.sp)/\mQ h.f h.t h.gaps=true/\st.length<=64/\h.quiet=st.length/\zs=st.length/\
  (∀i,i<st.length->hasS (st.getD i (0,0)) (h.quiet.getD i false) h.lv=false->zs.getD i 0=0)/\2+len+h.sn+zs.sum<=16384/\h.off=2+len/\h.strs=kW (2+len+h.sn) zs
theorem ZpH {h:Hd} (hp:rL st text len=some h):∃zs,Is st h len zs/\aH text=YR st h.f h.t h.lv h.sp h.gaps h.quiet h.sn zs:=by
 unfold rL at hp;simp only at hp;split at hp;exact aO;rename_i bY;have UI:yU st (mW text)=true:=aO;obtain⟨h0,h1,h2,h3,h4,h5,h6⟩:=Hl.1 UI;obtain⟨b1,b2,b3,b4,b5⟩:=Zjv h0;generalize hA:mW text=A at*;split at hp;.rename_i hc;injection hp with hp;obtain⟨cH,dL⟩:=hc;obtain⟨he,hs⟩:=Ua.1 cH;generalize hq:quiR A.x st.length=q at*;generalize hz:bG q.2.1 q.2.2 16384=z at*;have nn:q.1=st.length:=(by rw[<-hq];exact V' _ _);obtain⟨c1,zs,c2,c3,c4,c5,c6⟩:=UK (lv:=A.lv) (st:=st) (qs:=q.1) (a:=2+len+z.1) (x:=z.2) st aU O he;have d:=ZW (s:=q.2.1) (e:=q.2.2) (most:=16384) aO;rw[hz] at d;have e:=Uz (x:=A.x) st aO;rw[hq] at e;rw[c3] at dL hp;subst hp;refine⟨zs,⟨b2,h2,h3,h4,b4,b5,h5,h6,O,nn,c2,c5,dL,rfl,rfl⟩,?_⟩;unfold YR;grind
 grind
theorem Zq4 :∀z∈zs,z<=zs.sum:=by
 induction zs with
 |nil=>exact aO
 |cons y zs ih=>exact aO
theorem Zjo {h:Hd} (a1:0<=len) (S:Is st h len zs):rL st (bs (YR st h.f h.t h.lv h.sp h.gaps h.quiet h.sn zs)) len=some h:=by obtain⟨f,t,lv,sp,gs,qs,off,sn,strs⟩:=h;obtain⟨h1,k,p,q,G,I,M,u,Q,g,y,D,B,F,E⟩:=S;simp only at h1 k p q G I M u Q g y D B F E⊢;subst F E;unfold rL YR;rw[Znf (n:=st.length) Q h1 k p q G I u];simp only;rw[Vae (by rw[Hl.2 ⟨rfl,rfl,k,p,q,M,u⟩];decide)];rw[<-g,V8 (l:=qs) _ qs aU,pi,wY];rw[show mD []=[] from rfl,pU,Yt sn _ O O];have R:=Wn (lv:=(lv:Int)) (st:=st) (qs:=qs) (a:=2+len+sn) (zs:=zs) g y D (λz a0=>by have:=Zq4 z a0;omega) [] st aU;rw[fg] at R;rw[g,R];rw[d' O,wY];rw[Vag ⟨Ua.2 ⟨rfl,by rfl⟩,B⟩]
