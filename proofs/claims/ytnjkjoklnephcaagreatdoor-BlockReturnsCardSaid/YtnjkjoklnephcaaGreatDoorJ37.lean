import Derived.Test.YtnjkjoklnephcaaGreatDoorJ29
import Derived.Test.YtnjkjoklnephcaaGreatDoorJ30
set_option linter.all false
set_option maxRecDepth 100000
set_option maxHeartbeats 0
theorem rZ{P:Prop}(h:P:=by rw[<-hD];rfl):P:=h
theorem Fq{P:Prop}(h:P:=by rw[YB];exact f5):P:=h
theorem Fk{P:Prop}(h:P:=by rw[h0];exact Yr _):P:=h
theorem PK{P:Prop}(h:P:=by rw[bT];have:=ZG (g.1-f-1).toNat;have:=ZG (g.2-g.1).toNat;omega):P:=h
namespace Wv
open Go.Proofs.Y
section
variable{a b:ci}{data s snap x:ax}{f t:Int}{gs st:List (Int×Int)}{i lv n sp:Nat}{qs:List Bool}{vs:bd}{xs:List ax}
structure ev where
 f:Int
 t:Int
 vs:List ByteArray
 ch:List (List d')
 gaps:List (Int×Int)
abbrev hO (st:List (Int×Int)) (i:Nat):Int×Int:=st.getD i (0,0)
abbrev jN (vs:bd) (i:Nat):aS:=vs.getD i ⟨#[]⟩
abbrev gi (ch:List (List d')) (i:Nat):List d':=ch.getD i []
def Bz (gs:List (Int×Int)) (s:Int×Int) (v:aS) (l:List d'):Bool:=
 !decide (s.1=0)||gs.all λg=>decide (tg v l g.1=bs (List.replicate s.2.toNat 120))&&l.all λx=> !(decide (g.1<x.1)&&decide (x.1<g.2))
def wK (st:List (Int×Int)) (c:ev) (i:Nat):Bool:=eK (hO st i) c.f c.t (jN c.vs i) (gi c.ch i)&&Bz c.gaps (hO st i) (jN c.vs i) (gi c.ch i)
def BG (st:List (Int×Int)) (c:ev):Bool:=decide (-1<=c.f)&&decide (c.f<c.t)&&decide (c.t<=1099511627776)&&gr Z3 st c.vs&&decide (c.ch=st.length)&&mZ c.f c.t c.gaps
def mF (ch:List (List d')) (k:Nat):Nat:=((ch.take k).map List.length).sum
def iN (st:List (Int×Int)) (c:ev):Bool:=BG st c&&((List.range st).all (wK st c)&&decide (mF c.ch st.length<=4096))
theorem Yh {c:ev} :BG st c=true↔-1<=c.f/\c.f<c.t/\c.t<=1099511627776/\gr Z3 st c.vs=true/\c.ch=st.length/\mZ c.f c.t c.gaps=true:=by unfold BG;grind
theorem XQ {c:ev} :iN st c=true↔BG st c=true/\(∀i,i<st.length->wK st c i=true)/\mF c.ch st.length<=4096:=by unfold iN;grind
theorem Yr (s:Int×Int):eG s false ((0:Nat):Int)=true:=by rfl
def hT (lv:Int):List (Int×Int)->List Bool->List ax->ax
 |s::st,q::qs,x::xs=>(if eG s q lv then x else[])++hT lv st qs xs
 |_,_,_=>[]
def eu (lv:Int):List (Int×Int)->List Bool->List ax->List Nat
 |s::st,q::qs,x::xs=>(if eG s q lv then x.length else 0)::eu lv st qs xs
 |_,_,_=>[]
theorem y' (lv:Int):∀(st:List (Int×Int)) (qs:List Bool) (xs:List ax),qs=st.length->xs.length=st.length->(eu lv st qs xs).length=st
 |[],_,_,_,_=>by rfl
 |s::st,q::qs,x::xs,h1,h2=>by rw[eu,f',y' lv st qs xs aI aI,f']
 |_::_,[],_,h1,_=>aI
 |_::_,_::_,[],_,h2=>aI
theorem Hh (lv:Int):∀(st:List (Int×Int)) (qs:List Bool) (xs:List ax),qs=st.length->xs.length=st.length->(hT lv st qs xs).length=(eu lv st qs xs).sum
 |[],_,_,_,_=>by rfl
 |s::st,q::qs,x::xs,h1,h2=>by rw[eu,hT,bT,Hh lv st qs xs aI aI,List.sum_cons];grind
 |_::_,[],_,h1,_=>by rfl
 |_::_,_::_,[],_,h2=>by rfl
theorem DC (lv:Int):∀(st:List (Int×Int)) (qs:List Bool) (xs:List ax),qs=st.length->xs.length=st.length->∀i,i<st.length->(eu lv st qs xs).getD i 0=if eG (hO st i) (qs.getD i false) lv then(xs.getD i []).length else 0
 |[],_,_,_,_,i,h=>aI
 |s::st,q::qs,x::xs,h1,h2,i,h=>by
  rw[eu];match i,h with
  |0,_=>rfl
  |i+1,h=>have:=DC lv st qs xs aI aI i aI;simpa using this
 |_::_,[],_,h1,_,_,_=>aI
 |_::_,_::_,[],_,h2,_,_=>aI
theorem Zle (lv:Int):∀(st:List (Int×Int)) (qs:List Bool) (xs:List ax),qs=st.length->xs.length=st.length->∀i,i<st.length->eG (hO st i) (qs.getD i false) lv=true->
  ((hT lv st qs xs).drop ((eu lv st qs xs).take i).sum).take (xs.getD i []).length=xs.getD i []
 |[],_,_,_,_,i,h,_=>aI
 |s::st,q::qs,x::xs,h1,h2,i,h,hh=>by
  rw[eu,hT];match i,h,hh with
  |0,_,hh=>have g:eG s q lv=true:=aI;simp[g]
  |i+1,h,hh=>have:=Zle lv st qs xs aI aI i aI aI;rw[List.take_succ_cons,List.sum_cons];have e:(if eG s q lv=true then x.length else 0)=(if eG s q lv=true then x else[]).length:=aI;rw[e,<-rX,Cc];simpa using this
 |_::_,[],_,h1,_,_,_,_=>aI
 |_::_,_::_,[],_,h2,_,_,_=>by rfl
theorem Dk:∀(zs:List Nat) (a:Int) (i:Nat),i<zs.length->(kU a zs).getD i (0,0)=if zs.getD i 0=0 then(0,0) else(a+(zs.take i).sum,(zs.getD i 0:Int))
 |[],_,i,h=>by rfl
 |z::zs,a,0,_=>by simp[kU]
 |z::zs,a,i+1,h=>by rw[kU];have:=Dk zs (a+z) i aI;grind
def nG (st:List (Int×Int)) (f t:Int) (lv sp:Nat) (gs:List (Int×Int)) (qs:List Bool) (snap:ax) (xs:List ax):ax×Nat:=
 match Zp 5 (YV st f t lv sp gs qs snap (eu lv st qs xs)) with
 |none=>([],9)
 |some x=>if 16384<2+x.length+(snap++hT lv st qs xs).length then([],9) else(UInt8.ofNat (x.length/256)::UInt8.ofNat x.length::(x++(snap++hT lv st qs xs)),0)
def lH (st:List (Int×Int)) (c:ev) (i:Nat):ax×Nat:=ma (hO st i) c.f c.t (jN c.vs i) (gi c.ch i)
def dN (c:ev):List Bool:=c.ch.map λl=>decide (l.length=0)
def fh (st:List (Int×Int)) (c:ev):List ax:=(List.range st).map λi=>(lH st c i).1
def jg (st:List (Int×Int)) (c:ev):ax×Nat:=
 if iN st c=false then([],1)
 else if(ej Z3 st c.vs).2≠0 then([],9)
 else if ∃i,i<st.length/\(lH st c i).2≠0 then([],9)
 else nG st c.f c.t 0 0 c.gaps (dN c) (ej Z3 st c.vs).1 (fh st c)
def gH (data:ax) (p:Int×Int):Option ax:=
 if p.2=0 then some []
 else if p.1<0\/p.2<0\/(data.length:Int)<p.1\/(data.length:Int)-p.1<p.2 then none
 else some ((data.drop p.1.toNat).take p.2.toNat)
def eA (data:ax):Nat:=(data.getD 0 0).toNat*256+(data.getD 1 0).toNat
def zE (st:List (Int×Int)) (n:Nat) (s:ax):Option Hd:=
 match ZJ s with
 |none=>none
 |some (k,c,m)=>if k=5/\m=n then rK st (bs c) m else none
def gR (st:List (Int×Int)) (data:ax):Option Hd:=
 if data.length<2 then none
 else if data.length<2+eA data then none
 else zE st (eA data) ((data.drop 2).take (eA data))
def ik (st:List (Int×Int)) (data:ax) (h:Hd):Option bd:=
 match gH data (h.off,h.sn) with
 |none=>none
 |some s=>if(km Z3 st s).2=0 then some (km Z3 st s).1 else none
def eY (st:List (Int×Int)) (data:ax) (h:Hd) (i:Nat):List d'×Nat:=
 if h.quiet.getD i false=true then([],0)
 else if eG (hO st i) false h.lv=false then([],14)
 else if h.lv=0 then
  match ik st data h with
  |none=>([],12)
  |some v=>match gH data (h.strs.getD i (0,0)) with
   |none=>([],12)
   |some s=>if(iQ (hO st i) h.f h.t (jN v i) s).2≠0\/(iQ (hO st i) h.f h.t (jN v i) s).1=[] then([],12) else((iQ (hO st i) h.f h.t (jN v i) s).1,0)
 else match gH data (h.strs.getD i (0,0)) with
  |none=>([],12)
  |some s=>if(Io (hO st i) h.f h.t h.sp s).2≠0 then([],12) else((Io (hO st i) h.f h.t h.sp s).1,0)
def vB (h:Hd):Int:=h.strs.foldl (λe p=>max e (p.1+p.2)) (h.off+h.sn)
def lK (st:List (Int×Int)) (data:ax):Option (Hd×ev):=
 match gR st data with
 |none=>none
 |some h=>match ik st data h with
  |none=>none
  |some v=>
   if vB h≠(data.length:Int) then none
   else if ∃i,i<st.length/\(eY st data h i).2≠0/\(eY st data h i).2≠14 then none
   else if h.lv=0/\iN st ⟨h.f,h.t,v,(List.range st).map (λi=>(eY st data h i).1),h.gaps⟩=false then none
   else some (h,⟨h.f,h.t,v,(List.range st).map (λi=>(eY st data h i).1),h.gaps⟩)
def mV (st:List (Int×Int)) (data:ax):Option ev×Nat:=
 if ee st=false then(none,1)
 else match gR st data with
  |none=>(none,12)
  |some h=>if h.lv≠0 then(none,14) else match lK st data with
   |none=>(none,12)
   |some x=>(some x.2,0)
theorem Ug (h:nG st f t lv sp gs qs snap xs=(data,0)):
  ∃x,Zp 5 (YV st f t lv sp gs qs snap (eu lv st qs xs))=some x/\data=UInt8.ofNat (x.length/256)::UInt8.ofNat x.length::(x++(snap++hT lv st qs xs))/\2+x.length+(snap++hT lv st qs xs).length<=16384:=by
 unfold nG at h;match hw:Zp 5 (YV st f t lv sp gs qs snap (eu lv st qs xs)) with
 |none=>rw[hw] at h;simp at h
 |some x=>split at h;exact aI;grind
theorem ZkW (h:n<65536) (r:ax):eA (UInt8.ofNat (n/256)::UInt8.ofNat n::r)=n:=by unfold eA;simp only[List.getD_cons_zero,EB];rw[UInt8.toNat_ofNat',UInt8.toNat_ofNat'];omega
def qk (f t:Int) (lv sp:Nat) (gs:List (Int×Int)) (qs:List Bool) (n sn:Nat) (zs:List Nat):Hd:=⟨f,t,lv,sp,gs,qs,2+n,sn,kU (2+n+sn) zs⟩
theorem Zmy (I:Zp 5 (YV st f t lv sp gs qs snap (eu lv st qs xs))=some x)
  (hd:data=UInt8.ofNat (x.length/256)::UInt8.ofNat x.length::(x++(snap++hT lv st qs xs))) (E:2+x.length+(snap++hT lv st qs xs).length<=16384)
  (z: -1<=f) (a0:f<t) (G:t<=1099511627776) (R:lv<=2) (Q:sp<=1099511627776) (S:lv=1↔0<sp) (B:mZ f t gs=true) (F:st.length<=64) (g:qs=st.length) (k:xs=st.length):
  gR st data=some (qk f t lv sp gs qs x snap (eu lv st qs xs)):=by
 have M:=y' lv st qs xs g k;have q:=Hh lv st qs xs g k;rw[bT] at E;have y:eA data=x:=(by rw[hd];exact ZkW O _);have l:data.length=2+(x.length+(snap.length+(hT lv st qs xs).length)):=aI;have u:(data.drop 2).take (eA data)=x:=aI;unfold gR;rw[az O,az O,u];unfold zE;have p:=JE aZ I [];rw[fu] at p;rw[p];simp only;rw[aP ⟨trivial,y.symm⟩]
 have:=Zjy (st:=st) (len:=(x.length:Int)) (h:=qk f t lv sp gs qs x snap (eu lv st qs xs)) (zs:=eu lv st qs xs) O
  ⟨z,by show f<_;omega,a0,G,R,Q,S,B,F,g,M,λi hi D=>by rw[DC lv st qs xs g k i hi,az (by rw[show eG (hO st i) (qs.getD i false) (lv:Int)=false from D];decide)],by show(2:Int)+x.length+snap.length+_<=_;rw[<-q];omega,rfl,rfl⟩;exact this
theorem Znp (a b c:ax):gH (a++(b++c)) ((a.length:Int),(b.length:Int))=some b:=by unfold gH;by_cases h:(b.length:Int)=0;exact mM;rw[az O,az aI];simp
theorem K7:∀(zs:List Nat) (a:Int),0<=a->(kU a zs).foldl (λe p=>max e (p.1+p.2)) a=a+zs.sum
 |[],a,_=>by simp[kU]
 |z::zs,a,h=>by rw[kU,List.foldl_cons,List.sum_cons,xb];have e:max a ((if z=0 then((0:Int),(0:Int)) else(a,(z:Int))).1+(if z=0 then((0:Int),(0:Int)) else(a,(z:Int))).2)=a+z:=aI;rw[e,K7 zs (a+z) O];omega
theorem ZjF {g:ax} (hd:data=a::b::(x++(snap++g))):gH data (2+(x.length:Int),(snap.length:Int))=some snap:=by have:=Znp (a::b::x) snap g;grind
theorem Znq (hd:data=a::b::(x++(snap++hT lv st qs xs))) (g:qs=st.length) (k:xs=st.length) (hi:i<st) (p:eG (hO st i) (qs.getD i false) lv=true):gH data ((kU (2+x.length+snap.length) (eu lv st qs xs)).getD i (0,0))=some (xs.getD i []):=by have B:=y' (lv:Int) st qs xs g k;have l:=DC (lv:Int) st qs xs g k i hi;rw[aP p] at l;rw[Dk _ _ _ O,l];by_cases h0:(xs.getD i []).length=0;rw[aP h0,gx h0];rfl;rw[az h0];have t:=Zle (lv:Int) st qs xs g k i hi p;generalize y:hT (lv:Int) st qs xs=T at*;generalize z:((eu (lv:Int) st qs xs).take i).sum=Z at*;have u:Z+(xs.getD i []).length<=T:=aI;have q:data.length=2+(x.length+(snap.length+T.length)):=aI;unfold gH;rw[az O,az O];rw[show(2+(x.length:Int)+snap.length+Z).toNat=2+x.length+snap.length+Z from by rfl,ek];rw[<-rX,show data.drop (2+x.length+snap.length)=T from by exact aI,t]
theorem Zlf (lv:Int):∀(st:List (Int×Int)) (qs:List Bool) (xs:List ax) (zs:List Nat) (r:ax),qs=st.length->xs.length=st.length->zs.length=st.length->r.length=zs.sum->
  (∀i,i<st.length->eG (hO st i) (qs.getD i false) lv=true->xs.getD i []=(r.drop (zs.take i).sum).take (zs.getD i 0))->(∀i,i<st.length->eG (hO st i) (qs.getD i false) lv=false->zs.getD i 0=0)->hT lv st qs xs=r
 |[],_,_,zs,r,_,_,h3,h4,_,_=>by have:zs=[]:=gx h3;subst this;rw[gx h4];simp[hT]
 |s::st,q::qs,x::xs,z::zs,r,h1,h2,h3,h4,h5,h6=>by
  rw[hT];rw[List.sum_cons] at h4;have k:=h5 0 (by simp);have l:=h6 0 (by simp);simp only[hO,List.getD_cons_zero,po,List.sum_nil,Al] at k l
  have ih:=Zlf lv st qs xs zs (r.drop z) aI aI aI aI
   (λi hi g=>by have:=h5 (i+1) aI aI;simp only[EB,List.take_succ_cons,List.sum_cons] at this;rw[this,rX])
   (λi hi g=>by have:=h6 (i+1) fp (by simpa [hO] using g);simpa using this);rw[ih];cases g:eG s q lv;have:=l g;subst this;simp;rw[aP rfl,k g,sT]
 |_::_,[],_,_,_,h1,_,_,_,_,_=>by simp at h1
 |_::_,_::_,[],_,_,_,h2,_,_,_,_=>by simp at h2
 |_::_,_::_,_::_,[],_,_,_,h3,_,_,_=>by simp at h3
theorem JO {α:Type} (f:Nat->α) (d:α) (h:i<n):((List.range n).map f).getD i d=f i:=aI
theorem Zj9 {α:Type} (d:α) (l:List α):(List.range l).map (λi=>l.getD i d)=l:=by apply xa (by simp);grind
theorem QT (h:gr Z3 st vs=true):ee st=true/\st.length<=64/\vs=st.length:=by unfold gr at h;rw[gm] at h;exact⟨h.1,(Be.1 h.1).2,Bf h.2⟩
theorem YL {c:ev} (h:jg st c=(data,0)):
  iN st c=true/\(ej Z3 st c.vs).2=0/\(∀i,i<st.length->(lH st c i).2=0)/\nG st c.f c.t 0 0 c.gaps (dN c) (ej Z3 st c.vs).1 (fh st c)=(data,0):=by unfold jg at h;split at h;exact aI;split at h;exact aI;split at h;exact aI;grind
theorem YB (c:ev):(dN c)=c.ch.length:=by unfold dN;grind
theorem YY (st:List (Int×Int)) (c:ev):(fh st c)=st.length:=by unfold fh;grind
theorem G8 (c:ev) (h:i<c.ch):(dN c).getD i false=decide ((gi c.ch i).length=0):=by unfold dN;grind
theorem hd_E {c:ev} (h:jg st c=(data,0)):
  ∃x,data=UInt8.ofNat (x.length/256)::UInt8.ofNat x.length::(x++((ej Z3 st c.vs).1++hT (0:Nat) st (dN c) (fh st c)))/\data.length<=16384/\eA data=x.length/\
   gR st data=some (qk c.f c.t 0 0 c.gaps (dN c) x.length (ej Z3 st c.vs).1 (eu (0:Nat) st (dN c) (fh st c))):=by obtain⟨y,D,E,hb⟩:=YL h;obtain⟨u,_⟩:=XQ.1 y;obtain⟨f1,k,l,p,f5,q⟩:=Yh.1 u;obtain⟨_,z,F⟩:=QT p;obtain⟨x,w1,g,B⟩:=Ug hb;refine⟨x,g,aI,by rw[g];exact ZkW O _,?_⟩;exact Zmy w1 g B f1 k l O O O q z Fq (YY st c)
theorem MV {c:ev} (h:jg st c=(data,0)) (hd:data=UInt8.ofNat (x.length/256)::UInt8.ofNat x.length::(x++((ej Z3 st c.vs).1++hT (0:Nat) st (dN c) (fh st c)))):
  ik st data (qk c.f c.t 0 0 c.gaps (dN c) x (ej Z3 st c.vs).1 (eu (0:Nat) st (dN c) (fh st c)))=some c.vs:=by obtain⟨p,k,q,hb⟩:=YL h;have g:ej Z3 st c.vs=((ej Z3 st c.vs).1,0):=Prod.ext rfl k;have l:=Zr7 g;unfold ik qk;rw[ZjF hd];grind
theorem Zrb {c:ev} (h:jg st c=(data,0)) (hd:data=UInt8.ofNat (x.length/256)::UInt8.ofNat x.length::(x++((ej Z3 st c.vs).1++hT (0:Nat) st (dN c) (fh st c)))) (hi:i<st) (z:gi c.ch i≠[]):gH data ((qk c.f c.t 0 0 c.gaps (dN c) x (ej Z3 st c.vs).1 (eu (0:Nat) st (dN c) (fh st c))).strs.getD i (0,0))=some (lH st c i).1:=by
 obtain⟨k,B,D,hb⟩:=YL h;obtain⟨g,_⟩:=XQ.1 k;obtain⟨f1,p,q,u,f5,y⟩:=Yh.1 g;have l:(dN c).getD i false=false:=by rw[G8 c O];grind
 have:=Znq (lv:=0) hd Fq (YY st c) hi (by rw[l];rfl);rw[show(qk c.f c.t 0 0 c.gaps (dN c) x (ej Z3 st c.vs).1 (eu (0:Nat) st (dN c) (fh st c))).strs=kU (2+x.length+(ej Z3 st c.vs).1.length) (eu (0:Nat) st (dN c) (fh st c)) from rfl];rw[this];congr 1;exact JO _ _ hi
theorem MZ {c:ev} (h:jg st c=(data,0)) (hd:data=UInt8.ofNat (x.length/256)::UInt8.ofNat x.length::(x++((ej Z3 st c.vs).1++hT (0:Nat) st (dN c) (fh st c)))) (hi:i<st):eY st data (qk c.f c.t 0 0 c.gaps (dN c) x (ej Z3 st c.vs).1 (eu (0:Nat) st (dN c) (fh st c))) i=(gi c.ch i,0):=by obtain⟨B,a2,E,hb⟩:=YL h;obtain⟨y,_⟩:=XQ.1 B;obtain⟨f1,I,M,Q,R,S⟩:=Yh.1 y;have z:=G8 c (i:=i) O;have p:=MV h hd;have k:=Zrb h hd hi;obtain⟨D,hD⟩:=ay (qk c.f c.t 0 0 c.gaps (dN c) x (ej Z3 st c.vs).1 (eu (0:Nat) st (dN c) (fh st c)));have F:D.f=c.f:=rZ;have G:D.t=c.t:=rZ;have g:D.lv=0:=rZ;have q:D.quiet=dN c:=rZ;rw[hD] at p k⊢;clear hD;unfold eY;rw[q,z];by_cases h0:gi c.ch i=[];exact aI;have a1:(gi c.ch i).length≠0:=λh=>h0 (gx h);rw[az aI,az (by rw[g,Yr];decide),aP g,p];simp only;rw[k h0];simp only;have u:=E i hi;have a0:=Zr5 (s:=hO st i) (f:=c.f) (t:=c.t) (b:=jN c.vs i) (l:=gi c.ch i) (d:=(lH st c i).1) (Prod.ext rfl u);grind
theorem ZqJ {sn:Nat} {zs:List Nat} :vB (qk f t lv sp gs qs n sn zs)=2+n+sn+zs.sum:=by unfold vB qk;simp only;rw[K7 _ _ O]
theorem Zqs {c:ev} (h:jg st c=(data,0)):∃hd,lK st data=some (hd,c)/\gR st data=some hd/\hd.lv=0:=by
 obtain⟨l,E,F,hb⟩:=YL h;obtain⟨u,_⟩:=XQ.1 l;obtain⟨f1,y,z,B,f5,D⟩:=Yh.1 u;obtain⟨x,g,G,I,p⟩:=hd_E h;refine⟨_,?_,p,rfl⟩
 have q:(List.range st).map (λi=>(eY st data (qk c.f c.t 0 0 c.gaps (dN c) x (ej Z3 st c.vs).1 (eu (0:Nat) st (dN c) (fh st c))) i).1)=c.ch:=by
  have:c.ch=(List.range st).map (λi=>gi c.ch i):=(by rw[<-f5];exact(Zj9 [] c.ch).symm);conv=>rhs;rw[this]
  apply List.map_congr_left;intro i hi;rw[MZ h g (List.mem_range.1 hi)]
 unfold lK;rw[p];simp only;rw[MV h g];simp only;rw[az (by rw[ZqJ,g];have:=Hh (0:Nat) st (dN c) (fh st c) Fq (YY st c);grind)];rw[az (by rintro⟨i,hi,h1,_⟩;rw[MZ h g hi] at h1;exact h1 rfl)];rw[q];rw[az (by rintro⟨_,k⟩;rw[show(⟨(qk c.f c.t 0 0 c.gaps (dN c) x (ej Z3 st c.vs).1 (eu (0:Nat) st (dN c) (fh st c))).f,(qk c.f c.t 0 0 c.gaps (dN c) x (ej Z3 st c.vs).1 (eu (0:Nat) st (dN c) (fh st c))).t,c.vs,c.ch,(qk c.f c.t 0 0 c.gaps (dN c) x (ej Z3 st c.vs).1 (eu (0:Nat) st (dN c) (fh st c))).gaps⟩:ev)=c from rfl,l] at k;cases k)];rfl
theorem ZqE {c:ev} (h:jg st c=(data,0)):mV st data=(some c,0):=by obtain⟨p,_⟩:=YL h;obtain⟨l,_⟩:=XQ.1 p;obtain⟨_,_,_,g,_⟩:=Yh.1 l;obtain⟨hd,h1,k,q⟩:=Zqs h;unfold mV;rw[az (by rw[(QT g).1];decide),k];grind
theorem Mp {h:Hd} (g:gR st data=some h):
  ∃x zs,2+x.length<=data.length/\x=(data.drop 2).take x.length/\eA data=x.length/\Zp 5 (YV st h.f h.t h.lv h.sp h.gaps h.quiet h.sn zs)=some x/\Iu st h x.length zs:=by
 unfold gR at g;split at g;exact aI;split at g;exact aI;unfold zE at g;match hf:ZJ ((data.drop 2).take (eA data)) with
 |none=>rw[hf] at g;cases g
 |some (k,c,n)=>rw[hf] at g;simp only at g;split at g;obtain⟨w1,q,u⟩:=XZ hf;obtain⟨zs,p,l⟩:=ZpR g;rw[Zk] at l;grind;grind
theorem Gq {hd:Hd} {c:ev} (h:lK st data=some (hd,c)):
  gR st data=some hd/\∃v,ik st data hd=some v/\vB hd=(data.length:Int)/\(∀i,i<st.length->(eY st data hd i).2=0\/(eY st data hd i).2=14)/\(hd.lv=0->iN st c=true)/\c=⟨hd.f,hd.t,v,(List.range st).map (λi=>(eY st data hd i).1),hd.gaps⟩:=by
 unfold lK at h;match h1:gR st data with
 |none=>rw[h1] at h;cases h
 |some g=>
  rw[h1] at h;simp only at h;match h2:ik st data g with
  |none=>rw[h2] at h;cases h
  |some v=>rw[h2] at h;simp only at h;split at h;exact aI;split at h;exact aI;grind
theorem KW {p:Int×Int} (h:gH data p=some s):(s.length:Int)=p.2/\s=(data.drop p.1.toNat).take p.2.toNat:=by unfold gH at h;split at h;exact mM;grind
theorem Vh {hd:Hd} {v:bd} (h0:hd.lv=0) (l:ik st data hd=some v) (h:(eY st data hd i).2=0\/(eY st data hd i).2=14):
  (hd.quiet.getD i false=true/\(eY st data hd i).1=[])\/(hd.quiet.getD i false=false/\(eY st data hd i).1≠[]/\∃s,gH data (hd.strs.getD i (0,0))=some s/\iQ (hO st i) hd.f hd.t (jN v i) s=((eY st data hd i).1,0)):=by
 have g:eG (hO st i) false (hd.lv:Int)=true:=Fk;unfold eY at h⊢;cases k:hd.quiet.getD i false with
 |true=>exact aI
 |false=>exact aI
theorem VN {α:Type} (d:α) {a b:List α} (h:a=b.length) (g:∀i,i<a.length->a.getD i d=b.getD i d):a=b:=by apply xa h;grind
theorem Wd:∀ {data:ax},2<=data.length->∃a b r,data=a::b::r
 |a::b::r,_=>⟨a,b,r,rfl⟩
 |[],h=>aI
 |[_],h=>aI
theorem Zif (B:2+x.length<=data) (p:x=(data.drop 2).take x) (q:eA data=x) (z:s=(data.drop (2+x.length)).take n):
  UInt8.ofNat (x.length/256)::UInt8.ofNat x.length::(x++(s++data.drop (2+x.length+n)))=data:=by obtain⟨a,b,r,rfl⟩:=Wd (show 2<=data.length by omega);have t:a.toNat*256+b.toNat=x:=q;have y:=a.toNat_lt;have hb:=b.toNat_lt;rw[show UInt8.ofNat (x.length/256)=a from by apply UInt8.toNat_inj.1;exact E5];rw[show UInt8.ofNat x.length=b from by apply UInt8.toNat_inj.1;exact E5];congr 2;have g:(a::b::r).drop 2=r:=rfl;rw[g] at p;have k:s=(r.drop x).take n:=aI;have l:(a::b::r).drop (2+x.length+n)=(r.drop x).drop n:=(by rw[EA,<-rX,g,rX]);rw[l,k,sT];have u:=sT x r;grind
theorem ZoA {c:ev} (h:mV st data=(some c,0)):jg st c=(data,0)/\iN st c=true:=by
 unfold mV at h;split at h;exact aI
 match h1:gR st data with
 |none=>rw[h1] at h;simp at h
 |some hd=>
  rw[h1] at h;simp only at h;split at h;exact aI;rename_i h0;have my:hd.lv=0:=O;match h2:lK st data with
  |none=>rw[h2] at h;simp at h
  |some (g,c')=>
   rw[h2] at h;simp only at h;injection h with h _;injection h with h;subst h;obtain⟨w1,v,w2,w3,w4,w5,w6⟩:=Gq h2;rw[h1] at w1;injection w1 with w1;subst w1;have Pd:=w5 my;obtain⟨x,zs,x1,x2,x3,x4,x5⟩:=Mp h1;obtain⟨k1,k2,k3,k4,k5,k6,k7,k8,k9,k10,Bq,Br,k13,k14,k15⟩:=x5;have kQ:hd.sp=0:=O;obtain⟨hf,pB,pj⟩:=XQ.1 Pd;have eF:c'.ch=st.length:=(Yh.1 hf).2.2.2.2.1;have Po:∀i,i<st.length->gi c'.ch i=(eY st data hd i).1:=aI;have fo:c'.vs=v:=aI;have Ww:c'.f=hd.f:=aI;have jw:c'.t=hd.t:=aI;have qd:c'.gaps=hd.gaps:=aI;have xJ:=λi (hi:i<st.length)=>Vh my w2 (w4 i hi)
   -- the values
   obtain⟨s,s1,s2⟩:∃s,gH data (hd.off,(hd.sn:Int))=some s/\km Z3 st s=(v,0):=by unfold ik at w2;grind
   obtain⟨s3,s4⟩:=KW s1;obtain⟨s5,_⟩:=HN s2
   -- the quiet signals
   have B5:dN c'=hd.quiet:=by refine VN false (by rw[YB,eF,k10]) (λi hi=> ?_);rw[YB,eF] at hi;rw[G8 c' O,Po i hi];rcases xJ i hi with ⟨a,b⟩|⟨a,b,_⟩;rw[a,b];rfl;rw[a];exact cG (λh=>b (gx h))
   -- the streams
   have eI:∀i,i<st.length->(lH st c' i).2=0/\(eG (hO st i) (hd.quiet.getD i false) 0=true->gH data (hd.strs.getD i (0,0))=some (lH st c' i).1):=by intro i hi;have wz:=pB i hi;unfold wK at wz;rw[gm] at wz;unfold lH;rcases xJ i hi with ⟨a,b⟩|⟨a,b,t,t1,t2⟩;rw[Po i hi,b] at wz⊢;have he:ma (hO st i) c'.f c'.t (jN c'.vs i) []=([],0):=(by unfold ma;rw[wz.1,az aZ,aP rfl]);rw[he];refine⟨rfl,λhh=> ?_⟩;rw[a] at hh;cases hh;obtain⟨t3,_⟩:=Zl9 t2;rw[Po i hi,Ww,jw,fo,t3];exact⟨rfl,λ_=>t1⟩
   have cQ:∀i,i<st.length->(hd.strs.getD i (0,0)).2=(zs.getD i 0:Int)/\(zs.getD i 0≠0->(hd.strs.getD i (0,0)).1=2+x.length+hd.sn+(zs.take i).sum):=by
    intro i hi;rw[k15,Dk _ _ _ O];split;.rename_i hz;rw[hz];exact⟨rfl,λh=>absurd rfl h⟩
    exact⟨rfl,λ_=>rfl⟩
   have Bm:∀i,i<st.length->(fh st c').getD i []=(lH st c' i).1:=λi hi=>JO _ _ hi;have jO:eu (0:Nat) st (dN c') (fh st c')=zs:=by refine VN 0 (by rw[y' _ _ _ _ (by rw[YB,eF]) (YY st c'),Bq]) (λi hi=> ?_);rw[y' _ _ _ _ (by rw[YB,eF]) (YY st c')] at hi;rw[DC _ _ _ _ (by rw[YB,eF]) (YY st c') i hi,B5,Bm i hi];cases hh:eG (hO st i) (hd.quiet.getD i false) ((0:Nat):Int);rw[az aZ];exact(Br i hi (by rw[my];exact hh)).symm;rw[aP rfl];have:=(KW ((eI i hi).2 hh)).1;rw[(cQ i hi).1] at this;omega
   have Ae:(data.length:Int)=2+x.length+hd.sn+zs.sum:=by rw[<-w3];unfold vB;rw[k14,k15,K7 _ _ O]
   have fB:hT (0:Nat) st (dN c') (fh st c')=data.drop (2+x.length+hd.sn):=by rw[B5];refine Zlf _ st _ _ zs _ k10 (YY st c') Bq Fu (λi hi hh=> ?_) (λi hi hh=>Br i hi (by rw[my];exact hh));rw[Bm i hi];obtain⟨r1,r2⟩:=KW ((eI i hi).2 hh);obtain⟨p1,p2⟩:=cQ i hi;rw[p1] at r1 r2;by_cases hz:zs.getD i 0=0;rw[hz] at r1⊢;rw[po];exact gx O;rw[p2 hz] at r2;have e:(2+(x.length:Int)+hd.sn+(zs.take i).sum).toNat=2+x.length+hd.sn+(zs.take i).sum:=O;rw[r2,rX,e,ek]
   have mC:s.length=hd.sn:=O;refine⟨?_,Pd⟩;unfold jg;rw[az (by rw[Pd];decide),fo,s5,az (λh=>h rfl),az (by rintro⟨i,hi,hn⟩;exact hn (eI i hi).1)];unfold nG;rw[jO,B5,Ww,jw,qd,mC];rw[my,kQ] at x4;rw[x4];simp only;rw[<-B5,fB];rw[az (by simp only[bT,jt];omega)];refine Prod.ext ?_ rfl;refine Zif x1 x2 x3 ?_;rw[s4,k14];simp only;rw[ek,show(2+(x.length:Int)).toNat=2+x.length from by exact O]
structure BldOk (st:List (Int×Int)) (f t:Int) (lv sp:Nat) (gs:List (Int×Int)) (qs:List Bool) (xs:List (List UInt8)):Prop where
 f1: -1<=f
 ft:f<t
 t1:t<=1099511627776
 l2:lv<=2
 s1:sp<=1099511627776
 ls:lv=1↔0<sp
 gf:mZ f t gs=true
 n4:st.length<=64
 q:qs.length=st.length
 x:xs.length=st.length
theorem ZG (n:Nat):(bj n).length<=9:=by rw[lT];have:=Ye n;omega
theorem Dv {α:Type} (f:α->ax) (m:Nat) (h:∀x,(f x)<=m):∀l:List α,(l.flatMap f)<=m*l.length
 |[]=>by simp
 |x::l=>by rw[sS,bT,f',Nat.mul_add];have:=Dv f m h l;grind
theorem VQ:∀(st:List (Int×Int)) (qs:List Bool) (zs:List Nat),lw 2 st qs zs=[]
 |s::st,q::qs,z::zs=>by rw[lw,VQ st qs zs,fu,az (by unfold eG;grind)]
 |[],_,_=>by rfl
 |_::_,[],_=>by rfl
 |_::_,_::_,[]=>by rfl
theorem W_:∀(st:List (Int×Int)) (qs:List Bool) (xs:List ax),hT 2 st qs xs=[]
 |s::st,q::qs,x::xs=>by rw[hT,W_ st qs xs,fu,az (by unfold eG;grind)]
 |[],_,_=>by rfl
 |_::_,[],_=>by rfl
 |_::_,_::_,[]=>by rfl
theorem ZcU (k:BldOk st f t 2 0 gs qs xs) (D:ej Z3 st vs=(snap,0)):(nG st f t 2 0 gs qs snap xs).2=0:=by
 have Q:=(Bg k.gf).2;have S:=k.q;have R:=k.n4;have B:(YV st f t 2 0 gs qs snap (eu (2:Nat) st qs xs)).length<=2000:=by unfold YV xF lX mJ;have e:=VQ st qs (eu (2:Nat) st qs xs);rw[show(((2:Nat):Int))=2 from rfl] at e⊢;rw[e];simp only[bT,vQ];have F:=ZG st;have a1:=ZG (f+1).toNat;have a2:=ZG (t-f).toNat;have a3:=ZG 2;have a4:=ZG 0;have a5:=ZG gs;have a6:=ZG snap;have G:=Dv (λg:Int×Int=>bj (g.1-f-1).toNat++bj (g.2-g.1).toNat) 18 (λg=>PK) gs;have I:=Dv (λq:Bool=>bj q.toNat) 9 (λq=>ZG _) qs;omega
 have M:snap.length<=7000:=by
  obtain⟨p,E⟩:=Hb D;rcases E with ⟨_,rfl⟩|⟨_,l⟩;simp;unfold gr at p;rw[gm] at p;have a9:=(KD p.2 0).2;unfold Zp at l;match hl:lx (ZD st vs) with
  |none=>rw[hl] at l;cases l
  |some u=>rw[hl] at l;injection l with l;subst l;rw[QV];have h1:(ZN (ZD st vs) u)<=(ZD st vs).length:=Fo;have z:=ZG (ZN (ZD st vs) u);omega
 unfold nG;have hi:=YF (k:=5) (c:=YV st f t 2 0 gs qs snap (eu (2:Nat) st qs xs));rw[cT O] at hi;match l:Zp 5 (YV st f t 2 0 gs qs snap (eu (2:Nat) st qs xs)) with
 |none=>rw[l] at hi;cases hi
 |some x=>
  simp only;have y:=W_ st qs xs;rw[show(((2:Nat):Int))=2 from rfl] at l⊢;rw[y,fu]
  have b0:x.length<=2100:=by
   unfold Zp at l;match hl:lx (YV st f t 2 0 gs qs snap (eu 2 st qs xs)) with
   |none=>rw[hl] at l;cases l
   |some u=>rw[hl] at l;injection l with l;subst l;rw[QV];have h1:(ZN (YV st f t 2 0 gs qs snap (eu 2 st qs xs)) u).length<=(YV st f t 2 0 gs qs snap (eu 2 st qs xs)).length:=Jp;have z:=ZG (ZN (YV st f t 2 0 gs qs snap (eu 2 st qs xs)) u).length;rw[show(((2:Nat):Int))=2 from rfl] at B;omega
  rw[az O]
end
def kK:List d':=[(0,bs [49]),(5,bs [48])]
def nK:ev:=⟨-1,9,[bs [120]],[kK],[]⟩
theorem ZoL:eK (0,1) (-1) 9 (bs [120]) kK=true:=by rfl
theorem ZhP:(ke (hP (-1) kK)).1.length<=1000:=by
 have t:=Kz ZoL;have h0:(lp (hP (-1) kK)).length<=1000:=by unfold lp ZS;have h1:=Qj ((Z9 (hP (-1) kK)).map Int.toNat) (λv k=>by obtain⟨g,q,rfl⟩:=iV.1 k;have:=XD t g q;omega);have l:((Z9 (hP (-1) kK)).map Int.toNat).length=2:=rfl;have p:=lT 0;have u:=Ye 0;grind
 generalize hP (-1) kK=L at*;unfold ke;have h1:=(Mk (lp L) (om L)).1;have l:=(Mk (lp L) (oL L)).1;have p:=(Mk (jS (lp L) (oL L)) (om L)).1;grind
theorem ZoK:∃d,ma (0,1) (-1) 9 (bs [120]) kK=(d,0)/\d.length<=4096:=by
 have u:=ZhP;have y:(nm (0,1) (kK.map (·.2))).1.length<=1000:=Zlu;obtain⟨T,l⟩:=ay ((ke (hP (-1) kK)).1);obtain⟨V,p⟩:=ay ((nm (0,1) (kK.map (·.2))).1);rw[l] at u;rw[p] at y;obtain⟨w1,h1⟩:=Gw (k:=1) (c:=T) O;obtain⟨q,g⟩:=Gw (k:=2) (c:=V) O;have B:=Gd h1;have l2:=Gd g;have t:tx (0,1) (-1) kK=[(1,T),(2,V)]:=by unfold tx;rw[az aZ,l,p];rfl
 have z:ZZ [(1,T),(2,V)]=some (w1++(q++[])):=by simp only[ZZ,h1,g];rfl
 refine⟨w1++(q++[]),?_,?_⟩;unfold ma;rw[az aZ,az (by unfold kK;simp),t];unfold rc;grind;grind
theorem ZoM:gr Z3 [(0,1)] [bs [120]]=true:=by rfl
theorem ZkI:∃d,ej Z3 [(0,1)] [bs [120]]=(d,0)/\d.length<=200:=by have g:=ZoM;have p:=(KD (by unfold gr at g;rw[gm] at g;exact g.2) 0).2;unfold ej;by_cases h0:ZD [(0,1)] [bs [120]]=[];exact aI;obtain⟨w,l⟩:=Gw (k:=4) (c:=ZD [(0,1)] [bs [120]]) aI;have:=Gd l;grind
theorem ZkH:iN [(0,1)] nK=true:=by rfl
theorem ZoI:∃d,jg [(0,1)] nK=(d,0):=by
 obtain⟨s,l,ls⟩:=ZkI;obtain⟨d,hd,B⟩:=ZoK;have g:lH [(0,1)] nK 0=(d,0):=hd;have q:fh [(0,1)] nK=[d]:=by show[(lH [(0,1)] nK 0).1]=[d];rw[g]
 unfold jg;rw[az (by rw[ZkH];decide),show ej Z3 [(0,1)] nK.vs=(s,0) from l,az (λh=>h rfl),az aI,q];unfold nG;obtain⟨H,hH⟩:=ay (YV [(0,1)] nK.f nK.t 0 0 nK.gaps (dN nK) s (eu ((0:Nat):Int) [(0,1)] (dN nK) [d]));have y:H.length<=200:=by rw[<-hH];show(YV [(0,1)] (-1) 9 0 0 [] [false] s.length [d.length]).length<=200;unfold YV xF;have a1:=ZG 1;have a2:=ZG ((-1:Int)+1).toNat;have a3:=ZG ((9:Int)- -1).toNat;have a4:=ZG 0;have a5:=ZG s;have a6:=ZG d.length;have u:=ZG (0+1);simp only[bT,f',vQ,lX,mJ,lw,List.flatMap_nil,sS,Bool.toNat_false,Yr,if_true];omega
 obtain⟨w,p⟩:=Gw (k:=5) (c:=H) O;have D:=Gd p;have z:(hT ((0:Nat):Int) [(0,1)] (dN nK) [d]).length=d.length:=by show((if eG (0,1) false ((0:Nat):Int) then d else[])++[]).length=_;rw[Yr];simp
 grind
variable{data s:ax}{i k:Nat}{p:Int×Int}{st:List (Int×Int)}{v:bd}
structure co where
 s:List UInt8
 fail:Int
 code:Nat
 calls:Int
 parts:List (Int×Int)
def pN (n:Nat) (p:Int×Int):Bool:=decide (0<=p.1)&&decide (0<=p.2)&&decide (p.1<=(n:Int))&&decide (p.2<=(n:Int)-p.1)
def tH (s:ax) (p:Int×Int):ax:=(s.drop p.1.toNat).take p.2.toNat
def gI (D:co) (p:Int×Int):(ax×Nat)×co:=
 if D.calls+1=D.fail then(([],D.code), { D with calls:=D.calls+1 })
 else if pN D.s p=false then(([],2), { D with calls:=D.calls+1 })
 else((tH D.s p,0), { D with calls:=D.calls+1,parts:=D.parts++[p] })
def dk (D:co) (p:Int×Int):(ax×Nat)×co:=
 if p.2=0 then(([],0),D)
 else if(gI D p).1.2=2 then(([],12),(gI D p).2)
 else if(gI D p).1.2≠0 then(([],(gI D p).1.2),(gI D p).2)
 else gI D p
def tA (st:List (Int×Int)) (n:Nat) (s:ax):Option Hd:=
 match ZJ s with
 |none=>none
 |some (k,c,m)=>if k=5/\m=s/\m=n then rK st (bs c) n else none
def nS (st:List (Int×Int)) (D:co):(Option Hd×Nat)×co:=
 if ee st=false then((none,1),D)
 else if(dk D (0,2)).1.2≠0 then((none,(dk D (0,2)).1.2),(dk D (0,2)).2)
 else if(dk D (0,2)).1.1.length≠2 then((none,12),(dk D (0,2)).2)
 else if(dk (dk D (0,2)).2 (2,(eA (dk D (0,2)).1.1:Int))).1.2≠0 then((none,(dk (dk D (0,2)).2 (2,(eA (dk D (0,2)).1.1:Int))).1.2),(dk (dk D (0,2)).2 (2,(eA (dk D (0,2)).1.1:Int))).2)
 else match tA st (eA (dk D (0,2)).1.1) (dk (dk D (0,2)).2 (2,(eA (dk D (0,2)).1.1:Int))).1.1 with
  |none=>((none,12),(dk (dk D (0,2)).2 (2,(eA (dk D (0,2)).1.1:Int))).2)
  |some h=>((some h,0),(dk (dk D (0,2)).2 (2,(eA (dk D (0,2)).1.1:Int))).2)
def ic (st:List (Int×Int)) (h:Hd):Bool:=ee st&&decide (h.quiet=st.length)&&decide (h.strs=st.length)
def gV (st:List (Int×Int)) (D:co) (h:Hd):(bd×Nat)×co:=
 if ic st h=false then(([],1),D)
 else if(dk D (h.off,(h.sn:Int))).1.2≠0 then(([],(dk D (h.off,(h.sn:Int))).1.2),(dk D (h.off,(h.sn:Int))).2)
 else if(km Z3 st (dk D (h.off,(h.sn:Int))).1.1).2≠0 then(([],12),(dk D (h.off,(h.sn:Int))).2)
 else(((km Z3 st (dk D (h.off,(h.sn:Int))).1.1).1,0),(dk D (h.off,(h.sn:Int))).2)
def zM (s:Int×Int) (h:Hd) (v:aS) (d:ax):List d'×Nat:=
 if h.lv=0 then(if(iQ s h.f h.t v d).2≠0\/(iQ s h.f h.t v d).1=[] then([],12) else((iQ s h.f h.t v d).1,0))
 else if(Io s h.f h.t h.sp d).2≠0 then([],12) else((Io s h.f h.t h.sp d).1,0)
def us (st:List (Int×Int)) (D:co) (h:Hd) (i:Nat) (v:aS):(List d'×Nat)×co:=
 if(dk D (h.strs.getD i (0,0))).1.2≠0 then(([],(dk D (h.strs.getD i (0,0))).1.2),(dk D (h.strs.getD i (0,0))).2)
 else(zM (hO st i) h v (dk D (h.strs.getD i (0,0))).1.1,(dk D (h.strs.getD i (0,0))).2)
def jh (st:List (Int×Int)) (D:co) (h:Hd) (i:Int):(List d'×Nat)×co:=
 if ic st h=false then(([],1),D)
 else if i<0\/(st.length:Int)<=i then(([],2),D)
 else if h.quiet.getD i.toNat false=true then(([],0),D)
 else if eG (hO st i.toNat) false h.lv=false then(([],14),D)
 else if h.lv=0 then
  (if(gV st D h).1.2≠0 then(([],(gV st D h).1.2),(gV st D h).2) else us st (gV st D h).2 h i.toNat (jN (gV st D h).1.1 i.toNat))
 else us st D h i.toNat ⟨#[]⟩
abbrev mz (s:ax):co:=⟨s,0,0,0,[]⟩
def qn (D:co):Prop:=0<=D.calls/\D.fail=0
theorem ZpW {D:co} (h:qn D) (p:Int×Int):qn (gI D p).2/\(gI D p).2.s=D.s/\(gI D p).1=if pN D.s p=false then([],2) else(tH D.s p,0):=by obtain⟨h1,g⟩:=h;unfold gI;rw[az O];split;exact⟨⟨aI,g⟩,rfl,rfl⟩;exact⟨⟨aI,g⟩,rfl,rfl⟩
theorem Dx (s:ax) (p:Int×Int) (h:p.2≠0):gH s p=if pN s p=false then none else some (tH s p):=by unfold gH pN tH;grind
theorem zj {D:co} (h:qn D) (p:Int×Int):qn (dk D p).2/\(dk D p).2.s=D.s/\(dk D p).1=match gH D.s p with
  |none=>([],12)
  |some s=>(s,0):=by obtain⟨a1,a2,a3⟩:=ZpW h p;unfold dk;by_cases h0:p.2=0;rw[aP h0];exact⟨h,rfl,by unfold gH;grind⟩;rw[az h0,Dx _ _ h0];grind
theorem ZkX {D:co} (h:qn D) (st:List (Int×Int)) (G:ee st=true):qn (nS st D).2/\(nS st D).2.s=D.s/\(nS st D).1=match gR st D.s with
  |none=>(none,12)
  |some g=>(some g,0):=by
 obtain⟨a1,a2,a3⟩:=zj h (0,2);unfold nS;rw[az aI];have E:gH D.s (0,2)=if D.s.length<2 then none else some (D.s.take 2):=by unfold gH;grind
 rw[E] at a3;unfold gR;by_cases l:D.s.length<2;exact aI;rw[az l] at a3⊢
 have z:eA (D.s.take 2)=eA D.s:=by
  match D.s,l with
  |[],l=>simp at l
  |[_],l=>simp at l
  |x::y::r,_=>rfl
 obtain⟨b1,q,b3⟩:=zj a1 (2,(eA D.s:Int));rw[a2] at q b3;rw[a3,az (λh=>h rfl),az aI];simp only;rw[z,b3];have F:gH D.s (2,(eA D.s:Int))=if D.s.length<2+eA D.s then none else some ((D.s.drop 2).take (eA D.s)):=by unfold gH;by_cases h0:(eA D.s:Int)=0;exact mM;grind
 rw[F];by_cases u:D.s.length<2+eA D.s;exact aI;rw[az u,az u];simp only;rw[az (λh=>h rfl)]
 have B:tA st (eA D.s) ((D.s.drop 2).take (eA D.s))=zE st (eA D.s) ((D.s.drop 2).take (eA D.s)):=by
  have p:((D.s.drop 2).take (eA D.s)).length=eA D.s:=(by rw[eC,jt];omega);unfold tA zE;rw[p];match ZJ ((D.s.drop 2).take (eA D.s)) with
  |none=>rfl
  |some (k,c,n)=>simp only;by_cases t:k=5/\n=eA D.s;obtain⟨k1,k2⟩:=t;rw[aP ⟨k1,k2,k2⟩,aP ⟨k1,k2⟩,k2];rw[az (λh=>t ⟨h.1,h.2.1⟩),az t]
 rw[B];match zE st (eA D.s) ((D.s.drop 2).take (eA D.s)) with
 |none=>exact⟨b1,q,rfl⟩
 |some g=>exact⟨b1,q,rfl⟩
theorem MB {D:co} (h:qn D) {g:Hd} (k:ic st g=true):qn (gV st D g).2/\(gV st D g).2.s=D.s/\(gV st D g).1=match ik st D.s g with
  |none=>([],12)
  |some v=>(v,0):=by obtain⟨a1,a2,a3⟩:=zj h (g.off,(g.sn:Int));unfold gV ik;grind
theorem HC {D:co} (h:qn D) {g:Hd} (q:ic st g=true) (hi:i<st):qn (jh st D g i).2/\(jh st D g i).2.s=D.s/\(jh st D g i).1=eY st D.s g i:=by
 unfold jh eY;rw[az aI,az O,ek];by_cases p:g.quiet.getD i false=true;exact aI;rw[az p,az p];by_cases l:eG (hO st i) false g.lv=false;exact aI;rw[az l,az l];by_cases h0:g.lv=0
 .rw[aP h0,aP h0];obtain⟨a1,a2,a3⟩:=MB h q;rw[a3];match ik st D.s g with
  |none=>simp only;rw[aP aZ];exact⟨a1,a2,rfl⟩
  |some v=>
   simp only;rw[az (λh=>h rfl)];obtain⟨b1,k,b3⟩:=zj a1 (g.strs.getD i (0,0));rw[a2] at k b3;unfold us;rw[b3];match gH D.s (g.strs.getD i (0,0)) with
   |none=>simp only;rw[aP aZ];exact⟨b1,k,rfl⟩
   |some s=>simp only;rw[az (λh=>h rfl)];refine⟨b1,k,?_⟩;unfold zM;rw[aP h0]
 rw[az h0,az h0];obtain⟨b1,k,b3⟩:=zj h (g.strs.getD i (0,0));unfold us;rw[b3];match gH D.s (g.strs.getD i (0,0)) with
 |none=>exact⟨b1,k,rfl⟩
 |some s=>rw[az (λh=>h rfl)];refine⟨b1,k,?_⟩;unfold zM;rw[az h0]
def qV (st:List (Int×Int)) (data:ax) (h:Hd) (k:Nat):List (List d'):=(List.range k).map λi=>(eY st data h i).1
theorem GZ (st:List (Int×Int)) (data:ax) (h:Hd) (k:Nat):(qV st data h k)=k:=by unfold qV;grind
theorem ZhY (st:List (Int×Int)) (data:ax) (h:Hd) (k:Nat):qV st data h (k+1)=qV st data h k++[(eY st data h k).1]:=by unfold qV;rw[vU,jv];rfl
theorem Zkr (h:gR st data=none):lK st data=none:=by unfold lK;rw[h]
theorem Zoe {h:Hd} (h1:gR st data=some h) (g:ik st data h=none):lK st data=none:=by unfold lK;grind
theorem Zod {h:Hd} (h1:gR st data=some h) (g:ik st data h=some v) (k:vB h≠(data.length:Int)):lK st data=none:=by unfold lK;grind
theorem Zqt {h:Hd} (h1:gR st data=some h) (g:ik st data h=some v) (l:vB h=(data.length:Int)) (hi:i<st) (p:(eY st data h i).2≠0/\(eY st data h i).2≠14):lK st data=none:=by unfold lK;rw[h1];simp only;rw[g];simp only;rw[az (λk=>k l),aP ⟨i,hi,p⟩]
theorem Zoc {h:Hd} (h1:gR st data=some h) (h0:h.lv=0) (g:ik st data h=some v) (k:vB h=(data.length:Int)) (l:∀i,i<st.length->(eY st data h i).2=0):
  lK st data=if iN st ⟨h.f,h.t,v,qV st data h st.length,h.gaps⟩=true then some (h,⟨h.f,h.t,v,qV st data h st.length,h.gaps⟩) else none:=by unfold lK qV;grind
theorem Vi {h:Hd} (h0:h.lv=0):(eY st data h i).2=0\/(eY st data h i).2=12:=by have g:eG (hO st i) false (h.lv:Int)=true:=Fk;unfold eY;grind
theorem Zo7 {h:Hd} (g:ik st data h=some v):∃s,km Z3 st s=(v,0):=by unfold ik at g;grind
theorem Kl {h:Hd} (p:ik st data h=some v):v=st.length/\∀x∈v,x.size<=128:=by obtain⟨s,l⟩:=Zo7 p;have g:=(HN l).2;obtain⟨q1,q2,q3⟩:=QT g;refine⟨q3,λx q=> ?_⟩;obtain⟨m,k,rfl⟩:=List.getElem_of_mem q;unfold gr at g;rw[gm] at g;have:=Gn (C9 Z3 g.2 m O k);exact this
theorem Zi1 {h:Hd} (h0:h.lv=0) (l:ik st data h=some v) (k:(eY st data h i).2=0):(eY st data h i).1.length<=4096/\∀c∈(eY st data h i).1,c.2.size<=128:=by rcases Vh h0 l (.inl k) with ⟨_,e⟩|⟨_,_,s,_,e⟩;exact aI;have g:=(Zl9 e).2;exact⟨(Xr.1 g).2.2.2.1,Zgf g⟩
theorem P_:∀(zs:List Nat) (a m:Int),0<=a->a+zs.sum<=m->∀p∈kU a zs,0<=p.1/\p.1<=m/\0<=p.2/\p.2<=m
 |[],a,m,_,_,p,g=>by cases g
 |z::zs,a,m,h1,h2,p,g=>by rw[List.sum_cons,xb] at h2;rcases jx.1 g with e|e;exact aI;exact P_ zs (a+z) m O O p e
theorem C8 {h:Hd} (B:gR st data=some h):0<=h.off/\h.off<=16384/\h.sn<=16384/\(∀p∈h.strs,0<=p.1/\p.1<=16384/\0<=p.2/\p.2<=16384)/\h.quiet=st.length/\h.strs=st.length/\st.length<=64/\(h.lv=0->h.sp=0)/\-1<=h.f/\h.f<h.t/\h.t<=1099511627776/\h.gaps.length<=16/\mZ h.f h.t h.gaps=true:=by obtain⟨x,zs,_,_,_,_,h1,G,u,y,I,M,Q,k,z,D,l,E,q,F,g⟩:=Mp B;refine⟨O,O,O,?_,D,by rw[g,Gr,l],z,O,h1,u,y,(Bg k).2,k⟩;rw[g];exact P_ zs _ 16384 O q
theorem Zpk {h:Hd} (g:gR st data=some h) (l:ee st=true):ic st h=true:=by obtain⟨_,_,_,_,h1,k,_⟩:=C8 g;unfold ic;grind
def tu (h:Hd) (k:Nat):Int:=(h.strs.take k).foldl (λe p=>max e (p.1+p.2)) (h.off+h.sn)
theorem TP {h:Hd} (g:k<h.strs):tu h (k+1)=max (tu h k) (h.strs[k].1+h.strs[k].2):=by unfold tu;rw[dD g,rn];rfl
theorem ZiA {h:Hd} (g:k=h.strs):tu h k=vB h:=by unfold tu vB;grind
theorem i_ {h:Hd} (h1:0<=h.off) (g:h.off<=16384) (l:h.sn<=16384) (q:∀p∈h.strs,0<=p.1/\p.1<=16384/\0<=p.2/\p.2<=16384):∀k,k<=h.strs.length->0<=tu h k/\tu h k<=32768
 |0,_=>by unfold tu;grind
 |k+1,hk=>by rw[TP O];have:=i_ h1 g l q k O;grind
theorem KV {D:co} (h:gH D.s p=some s) (g:p.2=0\/D.calls+1≠D.fail):
  dk D p=((s,0),if p.2=0 then D else { D with calls:=D.calls+1,parts:=D.parts++[p] }):=by
 by_cases h0:p.2=0;unfold gH at h;unfold dk;grind;rw[Dx _ _ h0] at h;cases hi:pN D.s p;exact aI;have e:gI D p=((s,0), { D with calls:=D.calls+1,parts:=D.parts++[p] }):=by unfold gI;grind
 unfold dk;grind
theorem E_ {D:co} (h:gH D.s p=some s) (h0:p.2≠0) (g:D.calls+1≠D.fail):dk D p=((s,0), { D with calls:=D.calls+1,parts:=D.parts++[p] }):=by rw[KV h (.inr g),az h0]
theorem Gt {D:co} (h0:p.2≠0) (g:D.calls+1=D.fail) (k:D.code≠0/\D.code≠2):dk D p=(([],D.code), { D with calls:=D.calls+1 }):=by have e:gI D p=(([],D.code), { D with calls:=D.calls+1 }):=(by unfold gI;grind);unfold dk;grind
theorem Lz (s:ax) (m:Nat) (p:Int×Int):gH (s.take m) p=none\/gH (s.take m) p=gH s p:=by
 by_cases h0:p.2=0;unfold gH;grind;rw[Dx _ _ h0,Dx _ _ h0];cases hi:pN (s.take m) p;exact aI;right;unfold pN at hi;simp only[gm,fE,eC] at hi;have g:pN s p=true:=by unfold pN;grind
 rw[g,az aZ,az aZ];unfold tH;rw[List.drop_take,List.take_take,Nat.min_eq_left O]
theorem Wj (st:List (Int×Int)) (s:ax) (m:Nat) (h:Hd):ik st (s.take m) h=none\/ik st (s.take m) h=ik st s h:=by unfold ik;rcases Lz s m (h.off,(h.sn:Int)) with e|e;exact aI;grind
theorem ZlU (st:List (Int×Int)) (s:ax) (m:Nat) (h:Hd) (i:Nat):eY st (s.take m) h i=([],12)\/eY st (s.take m) h i=eY st s h i:=by
 unfold eY;by_cases k:h.quiet.getD i false=true;exact aI;rw[az k,az k];by_cases g:eG (hO st i) false h.lv=false;exact aI;rw[az g,az g];by_cases h0:h.lv=0
 .rw[aP h0,aP h0];rcases Wj st s m h with e|e;exact aI;rw[e];match ik st s h with
  |none=>left;rfl
  |some v=>simp only;rcases Lz s m (h.strs.getD i (0,0)) with e|e;exact aI;grind
 rw[az h0,az h0];rcases Lz s m (h.strs.getD i (0,0)) with e|e;left;rw[e];grind
theorem ZjE {h:Hd} (hp:gR st data=some h):0<eA data/\gH data (0,2)=some (data.take 2)/\gH data (2,(eA data:Int))=some ((data.drop 2).take (eA data))/\eA (data.take 2)=eA data/\(data.take 2).length=2/\tA st (eA data) ((data.drop 2).take (eA data))=some h:=by
 have hp':=hp;unfold gR at hp;split at hp;exact aI;rename_i h2;split at hp;exact aI;rename_i h3;have hlen:((data.drop 2).take (eA data)).length=eA data:=aI;have cQ:0<eA data:=by obtain⟨x,zs,x1,x2,x3,x4,x5⟩:=Mp hp';have:=Gx x4;grind
 refine⟨cQ,?_,?_,?_,aI,?_⟩;unfold gH;grind;unfold gH;grind;obtain⟨a,b,r,rfl⟩:=Wd (show 2<=data.length by omega);rfl;unfold tA;unfold zE at hp;grind
theorem Zpj {h:Hd} {D:co} (t:ee st=true) (l:gR st data=some h) (hd:D.s=data) (p:D.calls=0) (q:D.code≠0/\D.code≠2\/D.fail<=0):
  nS st D=if D.fail=1 then((none,D.code), { D with calls:=1 }) else if D.fail=2 then((none,D.code), { D with calls:=2,parts:=D.parts++[(0,2)] })
   else((some h,0), { D with calls:=2,parts:=D.parts++[(0,2)]++[(2,(eA data:Int))] }):=by obtain⟨a1,a2,a3,a4,a5,a6⟩:=ZjE l;subst hd;unfold nS;rw[az aI];by_cases f1:D.fail=1;have g:D.code≠0/\D.code≠2:=O;rw[Gt aZ O g,aP f1];grind;rw[E_ a2 aZ O,az f1];simp only;rw[az (λh=>h rfl),az O,a4];by_cases k:D.fail=2;have g:D.code≠0/\D.code≠2:=O;rw[Gt (D:= { D with calls:=D.calls+1,parts:=D.parts++[(0,2)] }) O aI g,aP k];grind;rw[E_ (D:= { D with calls:=D.calls+1,parts:=D.parts++[(0,2)] }) a3 O aI,az k];grind
def oT (D:co) (p:Int×Int):co:=if p.2=0 then D else { D with calls:=D.calls+1,parts:=D.parts++[p] }
theorem MT (D:co) (p:Int×Int):(oT D p).s=D.s/\(oT D p).fail=D.fail/\(oT D p).code=D.code/\(oT D p).calls=D.calls+(if p.2=0 then 0 else 1):=by unfold oT;grind
theorem Zqn {h:Hd} {D:co} (t:ic st h=true) (l:ik st D.s h=some v) (u:D.code≠0/\D.code≠2\/D.fail<=D.calls):
  gV st D h=if h.sn≠0/\D.calls+1=D.fail then(([],D.code), { D with calls:=D.calls+1 }) else((v,0),oT D (h.off,(h.sn:Int))):=by
 obtain⟨s,k,p⟩:∃s,gH D.s (h.off,(h.sn:Int))=some s/\km Z3 st s=(v,0):=by unfold ik at l;grind
 unfold gV;rw[az aI];by_cases g:h.sn≠0/\D.calls+1=D.fail;have q:D.code≠0/\D.code≠2:=O;rw[aP g,Gt O g.2 q];grind;rw[az g,KV k O];rw[az (λh=>h rfl),p];rfl
theorem ZoR {h:Hd} {D:co} {v:aS} (k:gH D.s (h.strs.getD i (0,0))=some s) (p:D.code≠0/\D.code≠2\/D.fail<=D.calls):
  us st D h i v=if(h.strs.getD i (0,0)).2≠0/\D.calls+1=D.fail then(([],D.code), { D with calls:=D.calls+1 }) else(zM (hO st i) h v s,oT D (h.strs.getD i (0,0))):=by unfold us;by_cases g:(h.strs.getD i (0,0)).2≠0/\D.calls+1=D.fail;have l:D.code≠0/\D.code≠2:=O;rw[aP g,Gt g.1 g.2 l];grind;rw[az g,KV k O];rfl
def Eb (D:co):co:= { D with calls:=D.calls+1 }
theorem ZoS {h:Hd} {D:co} {l:List d'} (t:ic st h=true) (hi:i<st) (h0:h.lv=0) (g:eY st D.s h i=(l,0)) (p:D.code≠0/\D.code≠2\/D.fail<=D.calls):
  jh st D h i=if h.quiet.getD i false=true then((l,0),D)
   else if h.sn≠0/\D.calls+1=D.fail then(([],D.code),Eb D)
   else if(h.strs.getD i (0,0)).2≠0/\(oT D (h.off,(h.sn:Int))).calls+1=D.fail then(([],D.code),Eb (oT D (h.off,(h.sn:Int))))
   else((l,0),oT (oT D (h.off,(h.sn:Int))) (h.strs.getD i (0,0))):=by
 have y:eG (hO st i) false (h.lv:Int)=true:=Fk;unfold eY at g;unfold jh;rw[az aI,az O,ek];by_cases k:h.quiet.getD i false=true;exact aI;rw[az k,az aI,aP h0] at g;rw[az k,az k,az aI,aP h0];match hv:ik st D.s h with
 |none=>rw[hv] at g;simp at g
 |some v=>
  rw[hv] at g;simp only at g;match hs:gH D.s (h.strs.getD i (0,0)) with
  |none=>rw[hs] at g;simp at g
  |some s=>
   rw[hs] at g;simp only at g;rw[Zqn t hv p];by_cases c1:h.sn≠0/\D.calls+1=D.fail;have u:D.code≠0/\D.code≠2:=O;rw[aP c1,aP c1];simp only;rw[aP u.1];rfl;rw[az c1,az c1];simp only;rw[az (λh=>h rfl)];obtain⟨n1,n2,n3,n4⟩:=MT D (h.off,(h.sn:Int));have q:(oT D (h.off,(h.sn:Int))).code≠0/\(oT D (h.off,(h.sn:Int))).code≠2\/(oT D (h.off,(h.sn:Int))).fail<=(oT D (h.off,(h.sn:Int))).calls:=by rw[n2,n3,n4];rcases p with h|h;exact .inl h;exact .inr (by split<;>omega)
   rw[ZoR (s:=s) (by rw[n1];exact hs) q,n2,n3];by_cases c2:(h.strs.getD i (0,0)).2≠0/\(oT D (h.off,(h.sn:Int))).calls+1=D.fail;rw[aP c2,aP c2];unfold Eb;rw[n2,n3];rw[az c2,az c2];have e:zM (hO st i) h (jN v i) s=(l,0):=(by unfold zM;rw[aP h0];exact g);rw[e]
structure BkAt (st:List (Int×Int)) (c:ev) (data:List UInt8) (h:Hd):Prop where
 f:h.f=c.f
 t:h.t=c.t
 lv:h.lv=0
 sp:h.sp=0
 gaps:h.gaps=c.gaps
 quiet:h.quiet=dN c
 off:h.off=2+(eA data:Int)
 strs:h.strs.length=st.length
 hd:gR st data=some h
 va:ik st data h=some c.vs
 ch:∀i,i<st.length->eY st data h i=(gi c.ch i,0)
 len:(data.length:Int)=h.off+h.sn+((List.range st.length).map λi=>(h.strs.getD i (0,0)).2).sum
 z:∀i,i<st.length->((h.strs.getD i (0,0)).2=0↔gi c.ch i=[])/\0<=(h.strs.getD i (0,0)).2
 at_:∀i,i<st.length->gi c.ch i≠[]->(h.strs.getD i (0,0)).1=h.off+h.sn+((List.range i).map λj=>(h.strs.getD j (0,0)).2).sum
theorem Zgt (zs:List Nat) (a:Int):∀k,k<=zs.length->((List.range k).map λi=>((kU a zs).getD i (0,0)).2).sum=(((zs.take k).sum:Nat):Int)
 |0,_=>by simp
 |k+1,h=>by rw[vU,jv,List.sum_append,Zgt zs a k O,dD (show k<zs.length by omega),List.sum_append,List.map_singleton,List.sum_singleton,List.sum_singleton,Dk _ _ _ O];grind
theorem Hc {c:ev} (h:(lH st c i).2=0):(lH st c i).1=[]↔gi c.ch i=[]:=by have e:ma (hO st i) c.f c.t (jN c.vs i) (gi c.ch i)=((lH st c i).1,0):=Prod.ext rfl h;obtain⟨l,k⟩:=LQ e;rcases k with ⟨a,b⟩|⟨a,b,_⟩;exact aI;exact⟨λg=>absurd g (WO b),λg=>absurd g a⟩
theorem ZqF {c:ev} (h:jg st c=(data,0)):∃hd,BkAt st c data hd/\ic st hd=true:=by
 obtain⟨hv,hs,hx,hb⟩:=YL h;obtain⟨hf,_⟩:=XQ.1 hv;obtain⟨f1,f2,f3,f4,f5,f6⟩:=Yh.1 hf;obtain⟨ty,n4,_⟩:=QT f4;obtain⟨x,w2,w3,w4,w5⟩:=hd_E h;have nn:(dN c)=st.length:=Fq;have dd:=YY st c;have qE:=y' (0:Nat) st (dN c) (fh st c) nn dd;have fB:=Hh (0:Nat) st (dN c) (fh st c) nn dd;have hzg:∀i,i<st.length->(eu (0:Nat) st (dN c) (fh st c)).getD i 0=(lH st c i).1.length:=by intro i hi;rw[DC _ _ _ _ nn dd i hi];have e:(fh st c).getD i []=(lH st c i).1:=JO _ _ hi;rw[e,G8 c O];by_cases h0:gi c.ch i=[];rw[(Hc (hx i hi)).2 h0];simp;have hl:(gi c.ch i).length≠0:=λh=>h0 (gx h);rw[cG hl,Yr,aP rfl]
 have hV:=MV h w2;have hC:=λi (hi:i<st.length)=>MZ h w2 hi;have fV:(data.length:Int)=2+x.length+(ej Z3 st c.vs).1.length+(eu (0:Nat) st (dN c) (fh st c)).sum:=by rw[<-fB,w2];simp only[f',bT];omega
 obtain⟨D,hD⟩:=ay (qk c.f c.t 0 0 c.gaps (dN c) x (ej Z3 st c.vs).1 (eu (0:Nat) st (dN c) (fh st c)));have d1:D.f=c.f:=rZ;have d2:D.t=c.t:=rZ;have d3:D.lv=0:=rZ;have d4:D.sp=0:=rZ;have d5:D.gaps=c.gaps:=rZ;have d6:D.quiet=dN c:=rZ;have d7:D.off=2+(x.length:Int):=rZ;have d8:D.sn=(ej Z3 st c.vs).1:=rZ;have d9:D.strs=kU (2+x.length+(ej Z3 st c.vs).1.length) (eu (0:Nat) st (dN c) (fh st c)):=rZ;rw[hD] at hV w5;have hC':∀i,i<st.length->eY st data D i=(gi c.ch i,0):=(by intro i hi;rw[<-hD];exact hC i hi);clear hD hC;generalize eu ((0:Nat):Int) st (dN c) (fh st c)=zs at*;have tG:=λ(k:Nat) (hk:k<=st)=>Zgt zs (2+x.length+(ej Z3 st c.vs).1.length) k (by rw[qE];exact hk);have ew:=λ(k:Nat) (hk:k<st)=>Dk zs (2+x.length+(ej Z3 st c.vs).1.length) k (by rw[qE];exact hk);rw[<-d9] at tG ew
 have fl:∀i,i<st.length->(D.strs.getD i (0,0)).2=(zs.getD i 0:Int):=by
  intro i hi;rw[ew i hi];split;.rename_i h0;rw[h0];rfl
  rfl
 refine⟨D,⟨d1,d2,d3,d4,d5,d6,by rw[w4];exact d7,by rw[d9,Gr,qE],w5,hV,hC',?_,?_,?_⟩,?_⟩;rw[tG _ aW,dU O,d7,d8];exact fV;intro i hi;rw[fl i hi,hzg i hi];refine⟨⟨λh0=> ?_,λh0=> ?_⟩,O⟩;exact(Hc (hx i hi)).1 (gx O);rw[(Hc (hx i hi)).2 h0];rfl
 .intro i hi h0;have hz:zs.getD i 0≠0:=by rw[hzg i hi];intro h1;exact h0 ((Hc (hx i hi)).1 (gx h1))
  rw[tG i O,ew i hi,az hz,d7,d8]
 unfold ic;rw[ty,d6,nn,d9,Gr,qE];simp
