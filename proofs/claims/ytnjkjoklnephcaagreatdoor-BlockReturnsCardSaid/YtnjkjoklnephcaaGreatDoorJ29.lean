import Derived.Test.YtnjkjoklnephcaaGreatDoorJ14
set_option linter.all false
set_option maxRecDepth 100000
set_option maxHeartbeats 0
namespace Wv
open Go.Proofs.Y
variable{e:Nat}{f len most t:Int}{s text:aS}{st:List (Int×Int)}{zs:List Nat}
structure Hd where
 f:Int
 t:Int
 lv:Nat
 sp:Nat
 gaps:List (Int×Int)
 quiet:List Bool
 off:Int
 sn:Nat
 strs:List (Int×Int)
abbrev Rs:=aS×Nat
def eG (s:Int×Int) (q:Bool) (lv:Int):Bool:= !q&&(decide (lv=0)||decide (lv=1)&& !decide (s.1=3))
def sy (f t:Int):Int->List (Int×Int)->Bool
 |_,[]=>true
 |a,g::l=>decide (f+1<=g.1)&&decide (g.1<g.2)&&decide (g.2<=t+1)&&decide (a<g.1)&&sy f t g.2 l
def mZ (f t:Int) (l:List (Int×Int)):Bool:=sy f t f l&&decide (l.length<=16)
def lX (f:Int) (l:List (Int×Int)):ax:=l.flatMap λg=>bj (g.1-f-1).toNat++bj (g.2-g.1).toNat
def mJ (l:List Bool):ax:=l.flatMap λq=>bj q.toNat
def lw (lv:Int):List (Int×Int)->List Bool->List Nat->ax
 |s::st,q::qs,z::zs=>(if eG s q lv then bj z else[])++lw lv st qs zs
 |_,_,_=>[]
def xF (n:Nat) (f t:Int) (lv sp:Nat) (g:List (Int×Int)):ax:=
 bj n++(bj (f+1).toNat++(bj (t-f).toNat++(bj lv++(bj sp++(bj g.length++lX f g)))))
def YV (st:List (Int×Int)) (f t:Int) (lv sp:Nat) (g:List (Int×Int)) (qs:List Bool) (sn:Nat) (zs:List Nat):ax:=
 xF st.length f t lv sp g++(mJ qs++(bj sn++lw lv st qs zs))
theorem Ys (n:Nat) (most:Int) (h:(n:Int)<=most) (g:n<9223372036854775808) (r:ax):bK (bs (bj n++r)) 0 most=(n,bs r,0):=by rw[WQ (Mr n g r) O,<-lT,Cc]
theorem ZV (h:(bK s e most).2.2=0):e=0/\aH s=bj (bK s e most).1++aH (bK s e most).2.1/\((bK s e most).1:Int)<=most:=by
 by_cases k:e=0
 .subst k
  have g:bK s 0 most=match hG (aH s) with
   |none=>(0,s,12)
   |some x=>if most<(x.1:Int) then(0,s,2) else(x.1,bs ((aH s).drop x.2),0):=rfl
  match hd:hG (aH s) with
  |none=>rw[g,hd] at h;cases h
  |some (n,z)=>rw[hd] at g;simp only at g;by_cases l:most<(n:Int);exact aI;rw[az l] at g;rw[g];exact⟨rfl,by exact WK hd,O⟩
 rw[UH k] at h;grind
theorem Yt (s:aS) (e:Nat) (h:0<=most):((bK s e most).1:Int)<=most:=by by_cases g:(bK s e most).2.2=0;exact(ZV g).2.2;unfold bK at g⊢;grind
def jo (f:Int) (x:Rs):Nat->List (Int×Int)×Rs
 |0=>([],x)
 |k+1=>
  ((jo f x k).1++[(f+1+(bK (jo f x k).2.1 (jo f x k).2.2 1099511627776).1,f+1+(bK (jo f x k).2.1 (jo f x k).2.2 1099511627776).1+(bK (bK (jo f x k).2.1 (jo f x k).2.2 1099511627776).2.1 (bK (jo f x k).2.1 (jo f x k).2.2 1099511627776).2.2 1099511627777).1)],
   (bK (bK (jo f x k).2.1 (jo f x k).2.2 1099511627776).2.1 (bK (jo f x k).2.1 (jo f x k).2.2 1099511627776).2.2 1099511627777).2)
def eU (x:Rs):Nat->List Bool×Rs
 |0=>([],x)
 |k+1=>((eU x k).1++[decide ((bK (eU x k).2.1 (eU x k).2.2 1).1=1)],(bK (eU x k).2.1 (eU x k).2.2 1).2)
def sF (s:Int×Int) (q:Bool) (lv:Int) (p:(List (Int×Int)×Int)×Rs):(List (Int×Int)×Int)×Rs:=
 if eG s q lv=false then((p.1.1++[(0,0)],p.1.2),p.2)
 else if(bK p.2.1 p.2.2 16384).1=0 then((p.1.1++[(0,0)],p.1.2),(bK p.2.1 p.2.2 16384).2)
 else((p.1.1++[(p.1.2,((bK p.2.1 p.2.2 16384).1:Int))],p.1.2+(bK p.2.1 p.2.2 16384).1),(bK p.2.1 p.2.2 16384).2)
def gU (lv:Int) (st:List (Int×Int)) (qs:List Bool) (a:Int) (x:Rs):Nat->(List (Int×Int)×Int)×Rs
 |0=>(([],a),x)
 |k+1=>sF (st.getD k (0,0)) (qs.getD k false) lv (gU lv st qs a x k)
theorem VM (f:Int) (x:Rs) (k:Nat):(jo f x k).1=k:=by
 induction k with
 |zero=>rfl
 |succ k ih=>rw[jo,bT,ih];rfl
theorem WI (x:Rs) (k:Nat):(eU x k).1=k:=by
 induction k with
 |zero=>rfl
 |succ k ih=>rw[eU,bT,ih];rfl
theorem Zkb (s:Int×Int) (q:Bool) (lv:Int) (p:(List (Int×Int)×Int)×Rs):(sF s q lv p).1.1=p.1.1.length+1:=by unfold sF;grind
theorem Zk9 (lv:Int) (st:List (Int×Int)) (qs:List Bool) (a:Int) (x:Rs) (k:Nat):(gU lv st qs a x k).1.1=k:=by
 induction k with
 |zero=>rfl
 |succ k ih=>rw[gU,Zkb,ih]
theorem T3 {f:Int} {x:Rs} :∀(k:Nat),(jo f x k).2.2=0->x.2=0/\aH x.1=lX f (jo f x k).1++aH (jo f x k).2.1
 |0,h=>⟨h,rfl⟩
 |k+1,h=>by rw[jo] at h⊢;obtain⟨a1,a2,_⟩:=ZV h;obtain⟨b1,g,_⟩:=ZV a1;obtain⟨c1,c2⟩:=T3 k b1;rw[c2,g,a2];unfold lX;grind
theorem UR {x:Rs} :∀(k:Nat),(eU x k).2.2=0->x.2=0/\aH x.1=mJ (eU x k).1++aH (eU x k).2.1
 |0,h=>⟨h,rfl⟩
 |k+1,h=>by
  rw[eU] at h⊢;obtain⟨a1,a2,a3⟩:=ZV h;obtain⟨c1,c2⟩:=UR k a1;rw[c2,a2];unfold mJ;have hb:(decide ((bK (eU x k).2.1 (eU x k).2.2 1).1=1)).toNat=(bK (eU x k).2.1 (eU x k).2.2 1).1:=by by_cases h1:(bK (eU x k).2.1 (eU x k).2.2 1).1=1;exact aI;grind
  grind
theorem Zeh (f:Int) (g:Int×Int) (l:List (Int×Int)):lX f (g::l)=bj (g.1-f-1).toNat++(bj (g.2-g.1).toNat++lX f l):=by unfold lX;grind
theorem VL {f:Int} {l:List (Int×Int)} (p:∀g∈l,f+1<=g.1/\g.1-f-1<=1099511627776/\g.1<=g.2/\g.2-g.1<=1099511627777) (r:ax):∀k,k<=l.length->jo f (bs (lX f l++r),0) k=(l.take k,(bs (lX f (l.drop k)++r),0))
 |0,_=>by rfl
 |k+1,h=>by obtain⟨h1,q,t,u⟩:=p _ (dr (show k<l.length by omega));rw[jo,VL p r k O,kw (show k<l.length by omega),Zeh,ey,ey];rw[Ys _ _ O O];rw[Ys _ _ O O,dD (show k<l.length by omega)];grind
theorem WH {l:List Bool} (r:ax):∀k,k<=l.length->eU (bs (mJ l++r),0) k=(l.take k,(bs (mJ (l.drop k)++r),0))
 |0,_=>by rfl
 |k+1,h=>by rw[eU,WH r k O,kw (show k<l.length by omega)];rw[show mJ (l[k]::l.drop (k+1))=bj l[k].toNat++mJ (l.drop (k+1)) from rfl,ey];rw[Ys _ _ (by cases l[k]<;>decide) (by cases l[k]<;>decide),dD (show k<l.length by omega)];cases l[k]<;>rfl
def kU (a:Int):List Nat->List (Int×Int)
 |[]=>[]
 |z::zs=>(if z=0 then(0,0) else(a,(z:Int)))::kU (a+z) zs
theorem Gr:∀(zs:List Nat) (a:Int),(kU a zs)=zs.length
 |[],_=>rfl
 |z::zs,a=>by rw[kU,f',Gr zs,f']
theorem Kt (z:Nat):∀(zs:List Nat) (a:Int),kU a (zs++[z])=kU a zs++[if z=0 then(0,0) else(a+zs.sum,(z:Int))]
 |[],a=>by simp[kU]
 |y::zs,a=>by rw[ju,kU,Kt z zs,kU,ju];grind
theorem Kc (lv:Int) (s:Int×Int) (q:Bool) (z:Nat):∀(st:List (Int×Int)) (qs:List Bool) (zs:List Nat),st=zs.length->qs.length=zs.length->lw lv (st++[s]) (qs++[q]) (zs++[z])=lw lv st qs zs++(if eG s q lv=true then bj z else[])
 |[],[],[],_,_=>by simp[lw]
 |s'::st,q'::qs,z'::zs,h1,h2=>by rw[ju,ju,ju,lw,lw,Kc lv s q z st qs zs aI aI,ey]
 |[],_,_::_,h1,_=>aI
 |_::_,_,[],h1,_=>aI
 |_,[],_::_,_,h2=>aI
 |_,_::_,[],_,h2=>aI
theorem Zgp {s:Int×Int} {q:Bool} {lv:Int} {p:(List (Int×Int)×Int)×Rs} (h:(sF s q lv p).2.2=0):
  p.2.2=0/\∃z:Nat,(sF s q lv p).1=(p.1.1++[if z=0 then(0,0) else(p.1.2,(z:Int))],p.1.2+z)/\aH p.2.1=(if eG s q lv=true then bj z else[])++aH (sF s q lv p).2.1/\(eG s q lv=false->z=0)/\z<=16384:=by unfold sF at h⊢;by_cases g:eG s q lv=false;exact aI;rw[az g] at h⊢;by_cases h0:(bK p.2.1 p.2.2 16384).1=0;rw[aP h0] at h⊢;obtain⟨a1,a2,a3⟩:=ZV h;grind;rw[az h0] at h⊢;obtain⟨a1,a2,a3⟩:=ZV h;grind
theorem U4 {lv:Int} {st:List (Int×Int)} {qs:List Bool} {a:Int} {x:Rs} :∀(k:Nat),k<=st.length->k<=qs.length->(gU lv st qs a x k).2.2=0->
  x.2=0/\∃zs:List Nat,zs=k/\(gU lv st qs a x k).1=(kU a zs,a+zs.sum)/\aH x.1=lw lv (st.take k) (qs.take k) zs++aH (gU lv st qs a x k).2.1/\(∀i,i<k->eG (st.getD i (0,0)) (qs.getD i false) lv=false->zs.getD i 0=0)/\∀z∈zs,z<=16384
 |0,_,_,h=>⟨h,[],rfl,by simp[gU,kU],by rfl,O,by simp⟩
 |k+1,h1,h2,h=>by rw[gU] at h⊢;obtain⟨a1,z,a2,a3,a4,a5⟩:=Zgp h;obtain⟨b1,zs,p,b3,u,q,y⟩:=U4 k O O a1;refine⟨b1,zs++[z],aI,?_,?_,?_,?_⟩;rw[a2,b3,Kt,List.sum_append,List.sum_singleton,xb,Int.add_assoc];rw[dD (show k<st by omega),dD (show k<qs by omega),Kc _ _ _ _ _ _ _ aI aI];grind;intro i hi g;by_cases l:i<k;have:=q i l g;rw[qA,List.getElem?_append_left O,<-qA];exact this;have:i=k:=O;subst this;have t:=a4 g;rw[t,qA,pR O,p,fv];rfl;grind
theorem VY {lv:Int} {st:List (Int×Int)} {qs:List Bool} {a:Int} {zs:List Nat} (D:qs=st.length) (F:zs=st.length) (h0:∀i,i<st.length->eG (st.getD i (0,0)) (qs.getD i false) lv=false->zs.getD i 0=0) (t:∀z∈zs,z<=16384) (r:ax):
  ∀k,k<=st.length->gU lv st qs a (bs (lw lv st qs zs++r),0) k=((kU a (zs.take k),a+(zs.take k).sum),(bs (lw lv (st.drop k) (qs.drop k) (zs.drop k)++r),0))
 |0,_=>by simp[gU,kU]
 |k+1,h=>by rw[gU,VY D F h0 t r k O];have l:st.getD k (0,0)=st[k]'O:=aI;have p:qs.getD k false=qs[k]'O:=aI;have u:zs.getD k 0=zs[k]'O:=aI;have y:=h0 k O;have G:=t _ (dr (show k<zs.length by omega));rw[dD (show k<zs.length by omega),Kt,List.sum_append,List.sum_singleton,xb];rw[kw (show k<st.length by omega),kw (show k<qs.length by omega),kw (show k<zs.length by omega),lw];rw[l,p,u] at y;rw[l,p];generalize st[k]'O=s at*;generalize qs[k]'O=q at*;generalize zs[k]'O=z at*;unfold sF;by_cases B:eG s q lv=false;exact aI;have E:eG s q lv=true:=(by cases hb:eG s q lv<;>simp_all);rw[az B,aP E,ey];simp only;rw[Ys _ _ O O];simp only;by_cases g:z=0;rw[aP g,g];simp;rw[az g,az g,Int.add_assoc]
structure Ha where
 n:Nat
 f:Int
 t:Int
 lv:Nat
 sp:Nat
 gaps:List (Int×Int)
 x:Rs
def nk (text:aS):Ha:=
 let k:=bK text 0 64;let a1:=bK k.2.1 k.2.2 1099511627776;let a2:=bK a1.2.1 a1.2.2 1099511627777;let a3:=bK a2.2.1 a2.2.2 2;let a4:=bK a3.2.1 a3.2.2 1099511627776;let a5:=bK a4.2.1 a4.2.2 16;let g:=jo (a1.1-1) a5.2 a5.1
 ⟨k.1,a1.1-1,a1.1-1+a2.1,a3.1,a4.1,g.1,g.2⟩
def FN (st:List (Int×Int)) (A:Ha):Bool:=
 decide (A.x.2=0)&&decide (A.n=st)&&decide (A.f<1099511627776)&&decide (A.f<A.t)&&decide (A.t<=1099511627776)&&(decide (A.lv=1)==decide (0<A.sp))&&mZ A.f A.t A.gaps
def rK (st:List (Int×Int)) (text:aS) (len:Int):Option Hd:=
 let A:=nk text;if FN st A=false then none else
 let q:=eU A.x st;let z:=bK q.2.1 q.2.2 16384;let r:=gU A.lv st q.1 (2+len+z.1) z.2 st;if iP r.2.1 r.2.2=0/\r.1.2<=16384 then some ⟨A.f,A.t,A.lv,A.sp,A.gaps,q.1,2+len,z.1,r.1.1⟩ else none
theorem ZjD (h:(nk text).x.2=0):aH text=xF (nk text).n (nk text).f (nk text).t (nk text).lv (nk text).sp (nk text).gaps++aH (nk text).x.1/\-1<=(nk text).f/\(nk text).n<=64/\(nk text).lv<=2/\(nk text).sp<=1099511627776:=by unfold nk at h⊢;simp only at h⊢;obtain⟨g,M⟩:=T3 _ h;obtain⟨q,G,_⟩:=ZV g;obtain⟨p,F,_⟩:=ZV q;obtain⟨l,E,_⟩:=ZV p;obtain⟨k,D,_⟩:=ZV l;obtain⟨h1,B,_⟩:=ZV k;obtain⟨h0,e0,_⟩:=ZV h1;have Q:=Yt text 0 (most:=64) O;generalize z:bK text 0 64=a0 at*;generalize S:bK a0.2.1 a0.2.2 1099511627776=a1 at*;generalize I:bK a1.2.1 a1.2.2 1099511627777=a2 at*;have R:=Yt a2.2.1 a2.2.2 (most:=2) O;generalize a6:bK a2.2.1 a2.2.2 2=a3 at*;have l4:=Yt a3.2.1 a3.2.2 (most:=1099511627776) O;generalize u:bK a3.2.1 a3.2.2 1099511627776=a4 at*;generalize y:bK a4.2.1 a4.2.2 16=a5 at*;refine⟨?_,O,O,O,O⟩;unfold xF;rw[VM,show((a1.1:Int)-1+1).toNat=a1.1 from by exact O,show((a1.1:Int)-1+a2.1-(a1.1-1)).toNat=a2.1 from by exact O];grind
theorem ZkV {f t:Int} :∀ {l:List (Int×Int)} {a:Int},sy f t a l=true->∀g∈l,f+1<=g.1/\g.1<g.2/\g.2<=t+1
 |[],_,_,g,k=>aI
 |x::l,a,h,g,k=>by unfold sy at h;simp only[gm,fE] at h;rcases jx.1 k with rfl|k;exact O;exact ZkV h.2 g k
theorem Bg {l:List (Int×Int)} (h:mZ f t l=true):(∀g∈l,f+1<=g.1/\g.1<g.2/\g.2<=t+1)/\l.length<=16:=by unfold mZ at h;rw[gm,fE] at h;exact⟨ZkV h.1,h.2⟩
theorem Znl {n:Nat} {lv sp:Nat} {k:List (Int×Int)} (u:n<=64) (p: -1<=f) (an:f<1099511627776) (F:f<t) (y:t<=1099511627776) (B:lv<=2) (z:sp<=1099511627776) (l:mZ f t k=true) (r:ax):
  nk (bs (xF n f t lv sp k++r))=⟨n,f,t,lv,sp,k,(bs r,0)⟩:=by obtain⟨E,D⟩:=Bg l;unfold nk xF;simp only[ey];rw[Ys n _ O O];rw[Ys _ _ O O];rw[Ys _ _ O O];rw[Ys _ _ O O];rw[Ys _ _ O O];rw[Ys _ _ O O];rw[show(((f+1).toNat:Int))-1=f from by exact O,show f+((t-f).toNat:Int)=t from by exact O];rw[VL (λg q=>aI) r k aW,pm,wY];rfl
theorem G4 {A:Ha} :FN st A=true↔A.x.2=0/\A.n=st/\A.f<1099511627776/\A.f<A.t/\A.t<=1099511627776/\(A.lv=1↔0<A.sp)/\mZ A.f A.t A.gaps=true:=by unfold FN;grind
theorem TQ :iP s e=0↔e=0/\aH s=[]:=by
 unfold iP;constructor;intro h;split at h;exact O;refine⟨h,?_⟩;have:s.size=0:=O;exact gx this;rintro⟨h1,g⟩;have:s.size=0:=by show(aH s).length=0;rw[g];rfl
 grind
def Iu (st:List (Int×Int)) (h:Hd) (len:Int) (zs:List Nat):Prop:=
 -1<=h.f/\h.f<1099511627776/\h.f<h.t/\h.t<=1099511627776/\h.lv<=2/\h.sp<=1099511627776/\(h.lv=1↔0<h.sp)/\mZ h.f h.t h.gaps=true/\st.length<=64/\h.quiet=st.length/\zs=st.length/\
  (∀i,i<st.length->eG (st.getD i (0,0)) (h.quiet.getD i false) h.lv=false->zs.getD i 0=0)/\2+len+h.sn+zs.sum<=16384/\h.off=2+len/\h.strs=kU (2+len+h.sn) zs
theorem ZpR {h:Hd} (hp:rK st text len=some h):∃zs,Iu st h len zs/\aH text=YV st h.f h.t h.lv h.sp h.gaps h.quiet h.sn zs:=by
 unfold rK at hp;simp only at hp;split at hp;exact aI;rename_i bY;have RK:FN st (nk text)=true:=aI;obtain⟨h0,h1,h2,h3,h4,h5,h6⟩:=G4.1 RK;obtain⟨b1,b2,b3,b4,b5⟩:=ZjD h0;generalize hA:nk text=A at*;split at hp;.rename_i hc;injection hp with hp;obtain⟨cF,dV⟩:=hc;obtain⟨he,hs⟩:=TQ.1 cF;generalize hq:eU A.x st.length=q at*;generalize hz:bK q.2.1 q.2.2 16384=z at*;have nn:q.1=st.length:=(by rw[<-hq];exact WI _ _);obtain⟨c1,zs,c2,c3,c4,c5,c6⟩:=U4 (lv:=A.lv) (st:=st) (qs:=q.1) (a:=2+len+z.1) (x:=z.2) st aW O he;have d:=ZV (s:=q.2.1) (e:=q.2.2) (most:=16384) aI;rw[hz] at d;have e:=UR (x:=A.x) st aI;rw[hq] at e;rw[c3] at dV hp;subst hp;refine⟨zs,⟨b2,h2,h3,h4,b4,b5,h5,h6,O,nn,c2,c5,dV,rfl,rfl⟩,?_⟩;unfold YV;grind
 grind
theorem Zqb :∀z∈zs,z<=zs.sum:=by
 induction zs with
 |nil=>exact aI
 |cons y zs ih=>exact aI
theorem Zjy {h:Hd} (a2:0<=len) (S:Iu st h len zs):rK st (bs (YV st h.f h.t h.lv h.sp h.gaps h.quiet h.sn zs)) len=some h:=by obtain⟨f,t,lv,sp,a1,qs,off,sn,strs⟩:=h;obtain⟨h1,k,p,q,G,I,M,u,Q,g,y,D,B,F,E⟩:=S;simp only at h1 k p q G I M u Q g y D B F E⊢;subst F E;unfold rK YV;rw[Znl (n:=st.length) Q h1 k p q G I u];simp only;rw[az (by rw[G4.2 ⟨rfl,rfl,k,p,q,M,u⟩];decide)];rw[<-g,WH (l:=qs) _ qs aW,pm,wY];rw[show mJ []=[] from rfl,pX,Ys sn _ O O];have R:=VY (lv:=(lv:Int)) (st:=st) (qs:=qs) (a:=2+len+sn) (zs:=zs) g y D (λz a0=>by have:=Zqb z a0;omega) [] st aW;rw[fu] at R;rw[g,R];rw[dU O,wY];rw[aP ⟨TQ.2 ⟨rfl,by rfl⟩,B⟩]
