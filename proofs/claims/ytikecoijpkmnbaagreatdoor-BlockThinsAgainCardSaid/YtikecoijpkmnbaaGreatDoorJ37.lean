import Derived.Test.YtikecoijpkmnbaaGreatDoorJ29
import Derived.Test.YtikecoijpkmnbaaGreatDoorJ30
set_option linter.all false
set_option maxRecDepth 100000
set_option maxHeartbeats 0
theorem rU{P:Prop}(h:P:=by rw[<-hD];rfl):P:=h
theorem Fk{P:Prop}(h:P:=by rw[QM];exact f5):P:=h
theorem Px{P:Prop}(h:P:=by rw[Vab];have:=ZF (g.1-f-1).toNat;have:=ZF (g.2-g.1).toNat;omega):P:=h
namespace Wv
open Go.Proofs.Y
section
variable{a b:cj}{data snap x:ax}{f t:Int}{gs st:List (Int×Int)}{i lv n sp:Nat}{qs:List Bool}{vs:a'}{xs:List ax}
structure eS where
 f:Int
 t:Int
 vs:List ByteArray
 ch:List (List dO)
 gaps:List (Int×Int)
abbrev jI (st:List (Int×Int)) (i:Nat):Int×Int:=st.getD i (0,0)
abbrev jU (vs:a') (i:Nat):aT:=vs.getD i ⟨#[]⟩
abbrev fG (ch:List (List dO)) (i:Nat):List dO:=ch.getD i []
def Br (gs:List (Int×Int)) (s:Int×Int) (v:aT) (l:List dO):Bool:=
 !decide (s.1=0)||gs.all λg=>decide (ti v l g.1=bs (List.replicate s.2.toNat 120))&&l.all λx=> !(decide (g.1<x.1)&&decide (x.1<g.2))
def yc (st:List (Int×Int)) (c:eS) (i:Nat):Bool:=eE (jI st i) c.f c.t (jU c.vs i) (fG c.ch i)&&Br c.gaps (jI st i) (jU c.vs i) (fG c.ch i)
def By (st:List (Int×Int)) (c:eS):Bool:=decide (-1<=c.f)&&decide (c.f<c.t)&&decide (c.t<=1099511627776)&&hQ Z3 st c.vs&&decide (c.ch=st.length)&&mQ c.f c.t c.gaps
def mv (ch:List (List dO)) (k:Nat):Nat:=((ch.take k).map List.length).sum
def jh (st:List (Int×Int)) (c:eS):Bool:=By st c&&((List.range st).all (yc st c)&&decide (mv c.ch st.length<=4096))
theorem Yi {c:eS} :By st c=true↔-1<=c.f/\c.f<c.t/\c.t<=1099511627776/\hQ Z3 st c.vs=true/\c.ch=st.length/\mQ c.f c.t c.gaps=true:=by unfold By;grind
theorem XM {c:eS} :jh st c=true↔By st c=true/\(∀i,i<st.length->yc st c i=true)/\mv c.ch st.length<=4096:=by unfold jh;grind
theorem Ys (s:Int×Int):hasS s false ((0:Nat):Int)=true:=by rfl
def iT (lv:Int):List (Int×Int)->List Bool->List ax->ax
 |s::st,q::qs,x::xs=>(if hasS s q lv then x else[])++iT lv st qs xs
 |_,_,_=>[]
def zsT (lv:Int):List (Int×Int)->List Bool->List ax->List Nat
 |s::st,q::qs,x::xs=>(if hasS s q lv then x.length else 0)::zsT lv st qs xs
 |_,_,_=>[]
theorem Du (lv:Int):∀(st:List (Int×Int)) (qs:List Bool) (xs:List ax),qs=st.length->xs.length=st.length->(zsT lv st qs xs).length=st
 |[],_,_,_,_=>by rfl
 |s::st,q::qs,x::xs,h1,h2=>by rw[zsT,gd,Du lv st qs xs aO aO,gd]
 |_::_,[],_,h1,_=>aO
 |_::_,_::_,[],_,h2=>aO
theorem GZ (lv:Int):∀(st:List (Int×Int)) (qs:List Bool) (xs:List ax),qs=st.length->xs.length=st.length->(iT lv st qs xs).length=(zsT lv st qs xs).sum
 |[],_,_,_,_=>by rfl
 |s::st,q::qs,x::xs,h1,h2=>by rw[zsT,iT,Vab,GZ lv st qs xs aO aO,List.sum_cons];grind
 |_::_,[],_,h1,_=>by rfl
 |_::_,_::_,[],_,h2=>by rfl
theorem Ht (lv:Int):∀(st:List (Int×Int)) (qs:List Bool) (xs:List ax),qs=st.length->xs.length=st.length->∀i,i<st.length->(zsT lv st qs xs).getD i 0=if hasS (jI st i) (qs.getD i false) lv then(xs.getD i []).length else 0
 |[],_,_,_,_,i,h=>aO
 |s::st,q::qs,x::xs,h1,h2,i,h=>by
  rw[zsT];match i,h with
  |0,_=>rfl
  |i+1,h=>have:=Ht lv st qs xs aO aO i aO;simpa using this
 |_::_,[],_,h1,_,_,_=>aO
 |_::_,_::_,[],_,h2,_,_=>aO
theorem T_ (lv:Int):∀(st:List (Int×Int)) (qs:List Bool) (xs:List ax),qs=st.length->xs.length=st.length->∀i,i<st.length->hasS (jI st i) (qs.getD i false) lv=true->
  ((iT lv st qs xs).drop ((zsT lv st qs xs).take i).sum).take (xs.getD i []).length=xs.getD i []
 |[],_,_,_,_,i,h,_=>aO
 |s::st,q::qs,x::xs,h1,h2,i,h,hh=>by
  rw[zsT,iT];match i,h,hh with
  |0,_,hh=>have g:hasS s q lv=true:=aO;simp[g]
  |i+1,h,hh=>have:=T_ lv st qs xs aO aO i aO aO;rw[List.take_succ_cons,List.sum_cons];have e:(if hasS s q lv=true then x.length else 0)=(if hasS s q lv=true then x else[]).length:=aO;rw[e,<-vM,B7];simpa using this
 |_::_,[],_,h1,_,_,_,_=>aO
 |_::_,_::_,[],_,h2,_,_,_=>by rfl
theorem Z2w:∀(zs:List Nat) (a:Int) (i:Nat),i<zs.length->(kW a zs).getD i (0,0)=if zs.getD i 0=0 then(0,0) else(a+(zs.take i).sum,(zs.getD i 0:Int))
 |[],_,i,h=>by rfl
 |z::zs,a,0,_=>by simp[kW]
 |z::zs,a,i+1,h=>by rw[kW];have:=Z2w zs (a+z) i aO;grind
def oj (st:List (Int×Int)) (f t:Int) (lv sp:Nat) (gs:List (Int×Int)) (qs:List Bool) (snap:ax) (xs:List ax):ax×Nat:=
 match Zo 5 (YR st f t lv sp gs qs snap (zsT lv st qs xs)) with
 |none=>([],9)
 |some x=>if 16384<2+x.length+(snap++iT lv st qs xs).length then([],9) else(UInt8.ofNat (x.length/256)::UInt8.ofNat x.length::(x++(snap++iT lv st qs xs)),0)
def strE (st:List (Int×Int)) (c:eS) (i:Nat):ax×Nat:=mX (jI st i) c.f c.t (jU c.vs i) (fG c.ch i)
def dW (c:eS):List Bool:=c.ch.map λl=>decide (l.length=0)
def fm (st:List (Int×Int)) (c:eS):List ax:=(List.range st).map λi=>(strE st c i).1
def ka (st:List (Int×Int)) (c:eS):ax×Nat:=
 if jh st c=false then([],1)
 else if(ei Z3 st c.vs).2≠0 then([],9)
 else if ∃i,i<st.length/\(strE st c i).2≠0 then([],9)
 else oj st c.f c.t 0 0 c.gaps (dW c) (ei Z3 st c.vs).1 (fm st c)
def hM (data:ax) (p:Int×Int):Option ax:=
 if p.2=0 then some []
 else if p.1<0\/p.2<0\/(data.length:Int)<p.1\/(data.length:Int)-p.1<p.2 then none
 else some ((data.drop p.1.toNat).take p.2.toNat)
def ew (data:ax):Nat:=(data.getD 0 0).toNat*256+(data.getD 1 0).toNat
def zy (st:List (Int×Int)) (n:Nat) (s:ax):Option Hd:=
 match ZI s with
 |none=>none
 |some (k,c,m)=>if k=5/\m=n then rL st (bs c) m else none
def iR (st:List (Int×Int)) (data:ax):Option Hd:=
 if data.length<2 then none
 else if data.length<2+ew data then none
 else zy st (ew data) ((data.drop 2).take (ew data))
def hP (st:List (Int×Int)) (data:ax) (h:Hd):Option a':=
 match hM data (h.off,h.sn) with
 |none=>none
 |some s=>if(kD Z3 st s).2=0 then some (kD Z3 st s).1 else none
def eM (st:List (Int×Int)) (data:ax) (h:Hd) (i:Nat):List dO×Nat:=
 if h.quiet.getD i false=true then([],0)
 else if hasS (jI st i) false h.lv=false then([],14)
 else if h.lv=0 then
  match hP st data h with
  |none=>([],12)
  |some v=>match hM data (h.strs.getD i (0,0)) with
   |none=>([],12)
   |some s=>if(sgD (jI st i) h.f h.t (jU v i) s).2≠0\/(sgD (jI st i) h.f h.t (jU v i) s).1=[] then([],12) else((sgD (jI st i) h.f h.t (jU v i) s).1,0)
 else match hM data (h.strs.getD i (0,0)) with
  |none=>([],12)
  |some s=>if(Ih (jI st i) h.f h.t h.sp s).2≠0 then([],12) else((Ih (jI st i) h.f h.t h.sp s).1,0)
def wv (h:Hd):Int:=h.strs.foldl (λe p=>max e (p.1+p.2)) (h.off+h.sn)
def nV (st:List (Int×Int)) (data:ax):Option (Hd×eS):=
 match iR st data with
 |none=>none
 |some h=>match hP st data h with
  |none=>none
  |some v=>
   if wv h≠(data.length:Int) then none
   else if ∃i,i<st.length/\(eM st data h i).2≠0/\(eM st data h i).2≠14 then none
   else if h.lv=0/\jh st ⟨h.f,h.t,v,(List.range st).map (λi=>(eM st data h i).1),h.gaps⟩=false then none
   else some (h,⟨h.f,h.t,v,(List.range st).map (λi=>(eM st data h i).1),h.gaps⟩)
def HJ (st:List (Int×Int)) (data:ax):Option eS×Nat:=
 if fN st=false then(none,1)
 else match iR st data with
  |none=>(none,12)
  |some h=>if h.lv≠0 then(none,14) else match nV st data with
   |none=>(none,12)
   |some x=>(some x.2,0)
theorem TW (h:oj st f t lv sp gs qs snap xs=(data,0)):
  ∃x,Zo 5 (YR st f t lv sp gs qs snap (zsT lv st qs xs))=some x/\data=UInt8.ofNat (x.length/256)::UInt8.ofNat x.length::(x++(snap++iT lv st qs xs))/\2+x.length+(snap++iT lv st qs xs).length<=16384:=by
 unfold oj at h;match hw:Zo 5 (YR st f t lv sp gs qs snap (zsT lv st qs xs)) with
 |none=>rw[hw] at h;simp at h
 |some x=>split at h;exact aO;grind
theorem Oc (h:n<65536) (r:ax):ew (UInt8.ofNat (n/256)::UInt8.ofNat n::r)=n:=by unfold ew;simp only[List.getD_cons_zero,IB];rw[UInt8.toNat_ofNat',UInt8.toNat_ofNat'];omega
def qh (f t:Int) (lv sp:Nat) (gs:List (Int×Int)) (qs:List Bool) (n sn:Nat) (zs:List Nat):Hd:=⟨f,t,lv,sp,gs,qs,2+n,sn,kW (2+n+sn) zs⟩
theorem Zms (I:Zo 5 (YR st f t lv sp gs qs snap (zsT lv st qs xs))=some x)
  (hd:data=UInt8.ofNat (x.length/256)::UInt8.ofNat x.length::(x++(snap++iT lv st qs xs))) (E:2+x.length+(snap++iT lv st qs xs).length<=16384)
  (z: -1<=f) (a0:f<t) (G:t<=1099511627776) (R:lv<=2) (Q:sp<=1099511627776) (S:lv=1↔0<sp) (B:mQ f t gs=true) (F:st.length<=64) (g:qs=st.length) (k:xs=st.length):
  iR st data=some (qh f t lv sp gs qs x snap (zsT lv st qs xs)):=by
 have M:=Du lv st qs xs g k;have u:=GZ lv st qs xs g k;rw[Vab] at E;have y:ew data=x:=(by rw[hd];exact Oc O _);have l:data.length=2+(x.length+(snap.length+(iT lv st qs xs).length)):=aO;have q:(data.drop 2).take (ew data)=x:=aO;unfold iR;rw[Vae O,Vae O,q];unfold zy;have p:=JB aY I [];rw[fg] at p;rw[p];simp only;rw[Vag ⟨trivial,y.symm⟩]
 have:=Zjo (st:=st) (len:=(x.length:Int)) (h:=qh f t lv sp gs qs x snap (zsT lv st qs xs)) (zs:=zsT lv st qs xs) O
  ⟨z,by show f<_;omega,a0,G,R,Q,S,B,F,g,M,λi hi D=>by rw[Ht lv st qs xs g k i hi,Vae (by rw[show hasS (jI st i) (qs.getD i false) (lv:Int)=false from D];decide)],by show(2:Int)+x.length+snap.length+_<=_;rw[<-u];omega,rfl,rfl⟩;exact this
theorem Znj (a b c:ax):hM (a++(b++c)) ((a.length:Int),(b.length:Int))=some b:=by unfold hM;by_cases h:(b.length:Int)=0;exact nk;rw[Vae O,Vae aO];simp
theorem Vh:∀(zs:List Nat) (a:Int),0<=a->(kW a zs).foldl (λe p=>max e (p.1+p.2)) a=a+zs.sum
 |[],a,_=>by simp[kW]
 |z::zs,a,h=>by rw[kW,List.foldl_cons,List.sum_cons,xb];have e:max a ((if z=0 then((0:Int),(0:Int)) else(a,(z:Int))).1+(if z=0 then((0:Int),(0:Int)) else(a,(z:Int))).2)=a+z:=aO;rw[e,Vh zs (a+z) O];omega
theorem Zjx {g:ax} (hd:data=a::b::(x++(snap++g))):hM data (2+(x.length:Int),(snap.length:Int))=some snap:=by have:=Znj (a::b::x) snap g;grind
theorem Znk (hd:data=a::b::(x++(snap++iT lv st qs xs))) (g:qs=st.length) (k:xs=st.length) (hi:i<st) (p:hasS (jI st i) (qs.getD i false) lv=true):hM data ((kW (2+x.length+snap.length) (zsT lv st qs xs)).getD i (0,0))=some (xs.getD i []):=by have B:=Du (lv:Int) st qs xs g k;have l:=Ht (lv:Int) st qs xs g k i hi;rw[Vag p] at l;rw[Z2w _ _ _ O,l];by_cases h0:(xs.getD i []).length=0;rw[Vag h0,ia h0];rfl;rw[Vae h0];have t:=T_ (lv:Int) st qs xs g k i hi p;generalize y:iT (lv:Int) st qs xs=T at*;generalize z:((zsT (lv:Int) st qs xs).take i).sum=Z at*;have u:Z+(xs.getD i []).length<=T:=aO;have q:data.length=2+(x.length+(snap.length+T.length)):=aO;unfold hM;rw[Vae O,Vae O];rw[show(2+(x.length:Int)+snap.length+Z).toNat=2+x.length+snap.length+Z from by rfl,ep];rw[<-vM,show data.drop (2+x.length+snap.length)=T from by exact aO,t]
theorem Tf {α:Type} (f:Nat->α) (d:α) (h:i<n):((List.range n).map f).getD i d=f i:=aO
theorem ZiX {α:Type} (d:α) (l:List α):(List.range l).map (λi=>l.getD i d)=l:=by apply Vco (by simp);grind
theorem yX (h:hQ Z3 st vs=true):fN st=true/\st.length<=64/\vs=st.length:=by unfold hQ at h;rw[gm] at h;exact⟨h.1,(Dg.1 h.1).2,A8 h.2⟩
theorem Yr {c:eS} (h:ka st c=(data,0)):
  jh st c=true/\(ei Z3 st c.vs).2=0/\(∀i,i<st.length->(strE st c i).2=0)/\oj st c.f c.t 0 0 c.gaps (dW c) (ei Z3 st c.vs).1 (fm st c)=(data,0):=by unfold ka at h;split at h;exact aO;split at h;exact aO;split at h;exact aO;grind
theorem QM (c:eS):(dW c)=c.ch.length:=by unfold dW;grind
theorem QU (st:List (Int×Int)) (c:eS):(fm st c)=st.length:=by unfold fm;grind
theorem Ll (c:eS) (h:i<c.ch):(dW c).getD i false=decide ((fG c.ch i).length=0):=by unfold dW;grind
theorem PL {c:eS} (h:ka st c=(data,0)):
  ∃x,data=UInt8.ofNat (x.length/256)::UInt8.ofNat x.length::(x++((ei Z3 st c.vs).1++iT (0:Nat) st (dW c) (fm st c)))/\data.length<=16384/\ew data=x.length/\
   iR st data=some (qh c.f c.t 0 0 c.gaps (dW c) x.length (ei Z3 st c.vs).1 (zsT (0:Nat) st (dW c) (fm st c))):=by obtain⟨y,D,E,hb⟩:=Yr h;obtain⟨u,_⟩:=XM.1 y;obtain⟨f1,k,l,p,f5,q⟩:=Yi.1 u;obtain⟨_,z,F⟩:=yX p;obtain⟨x,w1,g,B⟩:=TW hb;refine⟨x,g,aO,by rw[g];exact Oc O _,?_⟩;exact Zms w1 g B f1 k l O O O q z Fk (QU st c)
theorem MK {c:eS} (h:ka st c=(data,0)) (hd:data=UInt8.ofNat (x.length/256)::UInt8.ofNat x.length::(x++((ei Z3 st c.vs).1++iT (0:Nat) st (dW c) (fm st c)))):
  hP st data (qh c.f c.t 0 0 c.gaps (dW c) x (ei Z3 st c.vs).1 (zsT (0:Nat) st (dW c) (fm st c)))=some c.vs:=by obtain⟨p,k,q,hb⟩:=Yr h;have g:ei Z3 st c.vs=((ei Z3 st c.vs).1,0):=Prod.ext rfl k;have l:=ZqZ g;unfold hP qh;rw[Zjx hd];grind
theorem Zr3 {c:eS} (h:ka st c=(data,0)) (hd:data=UInt8.ofNat (x.length/256)::UInt8.ofNat x.length::(x++((ei Z3 st c.vs).1++iT (0:Nat) st (dW c) (fm st c)))) (hi:i<st) (z:fG c.ch i≠[]):hM data ((qh c.f c.t 0 0 c.gaps (dW c) x (ei Z3 st c.vs).1 (zsT (0:Nat) st (dW c) (fm st c))).strs.getD i (0,0))=some (strE st c i).1:=by
 obtain⟨k,B,D,hb⟩:=Yr h;obtain⟨g,_⟩:=XM.1 k;obtain⟨f1,p,q,u,f5,y⟩:=Yi.1 g;have l:(dW c).getD i false=false:=by rw[Ll c O];grind
 have:=Znk (lv:=0) hd Fk (QU st c) hi (by rw[l];rfl);rw[show(qh c.f c.t 0 0 c.gaps (dW c) x (ei Z3 st c.vs).1 (zsT (0:Nat) st (dW c) (fm st c))).strs=kW (2+x.length+(ei Z3 st c.vs).1.length) (zsT (0:Nat) st (dW c) (fm st c)) from rfl];rw[this];congr 1;exact Tf _ _ hi
theorem MP {c:eS} (h:ka st c=(data,0)) (hd:data=UInt8.ofNat (x.length/256)::UInt8.ofNat x.length::(x++((ei Z3 st c.vs).1++iT (0:Nat) st (dW c) (fm st c)))) (hi:i<st):eM st data (qh c.f c.t 0 0 c.gaps (dW c) x (ei Z3 st c.vs).1 (zsT (0:Nat) st (dW c) (fm st c))) i=(fG c.ch i,0):=by obtain⟨B,a2,E,hb⟩:=Yr h;obtain⟨y,_⟩:=XM.1 B;obtain⟨f1,I,M,Q,R,S⟩:=Yi.1 y;have z:=Ll c (i:=i) O;have p:=MK h hd;have k:=Zr3 h hd hi;obtain⟨D,hD⟩:=ay (qh c.f c.t 0 0 c.gaps (dW c) x (ei Z3 st c.vs).1 (zsT (0:Nat) st (dW c) (fm st c)));have F:D.f=c.f:=rU;have G:D.t=c.t:=rU;have g:D.lv=0:=rU;have q:D.quiet=dW c:=rU;rw[hD] at p k⊢;clear hD;unfold eM;rw[q,z];by_cases h0:fG c.ch i=[];exact aO;have a1:(fG c.ch i).length≠0:=λh=>h0 (ia h);rw[Vae aO,Vae (by rw[g,Ys];decide),Vag g,p];simp only;rw[k h0];simp only;have u:=E i hi;have a0:=ZqX (s:=jI st i) (f:=c.f) (t:=c.t) (b:=jU c.vs i) (l:=fG c.ch i) (d:=(strE st c i).1) (Prod.ext rfl u);grind
theorem ZqB {sn:Nat} {zs:List Nat} :wv (qh f t lv sp gs qs n sn zs)=2+n+sn+zs.sum:=by unfold wv qh;simp only;rw[Vh _ _ O]
theorem Zr8 {c:eS} (h:ka st c=(data,0)):∃hd,nV st data=some (hd,c)/\iR st data=some hd/\hd.lv=0:=by
 obtain⟨l,E,F,hb⟩:=Yr h;obtain⟨u,_⟩:=XM.1 l;obtain⟨f1,y,z,B,f5,D⟩:=Yi.1 u;obtain⟨x,g,G,I,p⟩:=PL h;refine⟨_,?_,p,rfl⟩
 have q:(List.range st).map (λi=>(eM st data (qh c.f c.t 0 0 c.gaps (dW c) x (ei Z3 st c.vs).1 (zsT (0:Nat) st (dW c) (fm st c))) i).1)=c.ch:=by
  have:c.ch=(List.range st).map (λi=>fG c.ch i):=(by rw[<-f5];exact(ZiX [] c.ch).symm);conv=>rhs;rw[this]
  apply List.map_congr_left;intro i hi;rw[MP h g (List.mem_range.1 hi)]
 unfold nV;rw[p];simp only;rw[MK h g];simp only;rw[Vae (by rw[ZqB,g];have:=GZ (0:Nat) st (dW c) (fm st c) Fk (QU st c);grind)];rw[Vae (by rintro⟨i,hi,h1,_⟩;rw[MP h g hi] at h1;exact h1 rfl)];rw[q];rw[Vae (by rintro⟨_,k⟩;rw[show(⟨(qh c.f c.t 0 0 c.gaps (dW c) x (ei Z3 st c.vs).1 (zsT (0:Nat) st (dW c) (fm st c))).f,(qh c.f c.t 0 0 c.gaps (dW c) x (ei Z3 st c.vs).1 (zsT (0:Nat) st (dW c) (fm st c))).t,c.vs,c.ch,(qh c.f c.t 0 0 c.gaps (dW c) x (ei Z3 st c.vs).1 (zsT (0:Nat) st (dW c) (fm st c))).gaps⟩:eS)=c from rfl,l] at k;cases k)];rfl
theorem ZkR {h:Hd} (g:iR st data=some h):
  ∃x zs,2+x.length<=data.length/\x=(data.drop 2).take x.length/\ew data=x.length/\Zo 5 (YR st h.f h.t h.lv h.sp h.gaps h.quiet h.sn zs)=some x/\Is st h x.length zs:=by
 unfold iR at g;split at g;exact aO;split at g;exact aO;unfold zy at g;match hf:ZI ((data.drop 2).take (ew data)) with
 |none=>rw[hf] at g;cases g
 |some (k,c,n)=>rw[hf] at g;simp only at g;split at g;obtain⟨w1,q,u⟩:=XU hf;obtain⟨zs,p,l⟩:=ZpH g;rw[Zm] at l;grind;grind
theorem Ac {hd:Hd} {c:eS} (h:nV st data=some (hd,c)):
  iR st data=some hd/\∃v,hP st data hd=some v/\wv hd=(data.length:Int)/\(∀i,i<st.length->(eM st data hd i).2=0\/(eM st data hd i).2=14)/\(hd.lv=0->jh st c=true)/\c=⟨hd.f,hd.t,v,(List.range st).map (λi=>(eM st data hd i).1),hd.gaps⟩:=by
 unfold nV at h;match h1:iR st data with
 |none=>rw[h1] at h;cases h
 |some g=>
  rw[h1] at h;simp only at h;match h2:hP st data g with
  |none=>rw[h2] at h;cases h
  |some v=>rw[h2] at h;simp only at h;split at h;exact aO;split at h;exact aO;grind
theorem ZhP {hd:Hd} {v:a'} (h0:hd.lv=0) (l:hP st data hd=some v) (h:(eM st data hd i).2=0\/(eM st data hd i).2=14):
  (hd.quiet.getD i false=true/\(eM st data hd i).1=[])\/(hd.quiet.getD i false=false/\(eM st data hd i).1≠[]/\∃s,hM data (hd.strs.getD i (0,0))=some s/\sgD (jI st i) hd.f hd.t (jU v i) s=((eM st data hd i).1,0)):=by
 have g:hasS (jI st i) false (hd.lv:Int)=true:=(by rw[h0];exact Ys _);unfold eM at h⊢;cases k:hd.quiet.getD i false with
 |true=>exact aO
 |false=>exact aO
def thX (st:List (Int×Int)) (h:Hd) (c:eS) (level step:Int) (i:Nat):ax×Nat:=
 if hasS (jI st i) (h.quiet.getD i false) level=false then([],0)
 else kE (jI st i) h.f h.t step (if h.lv=0 then vx h.f h.t step (jU c.vs i) (fG c.ch i) else(fG c.ch i).filter (λx=>decide (x.1 % step=0)))
def WP (st:List (Int×Int)) (h:Hd) (c:eS) (level step:Int):List ax:=(List.range st).map λi=>(thX st h c level step i).1
def jq (st:List (Int×Int)) (data:ax) (level step:Int):ax×Nat:=
 if fN st=false\/¬(level=1/\1<=step/\step<=1099511627776)/\¬(level=2/\step=0) then([],1)
 else match nV st data with
  |none=>([],12)
  |some (h,c)=>
   if h.lv=2\/h.lv=1/\step % h.sp≠0 then([],10)
   else if level=1/\4096<Ed h.t step-Ed h.f step then([],9)
   else if(ei Z3 st c.vs).2≠0 then([],9)
   else if ∃i,i<st.length/\(thX st h c level step i).2≠0 then([],9)
   else oj st h.f h.t level.toNat step.toNat h.gaps h.quiet (ei Z3 st c.vs).1 (WP st h c level step)
structure NE (st:List (Int×Int)) (f t:Int) (lv sp:Nat) (gs:List (Int×Int)) (qs:List Bool) (xs:List (List UInt8)):Prop where
 f1: -1<=f
 ft:f<t
 t1:t<=1099511627776
 l2:lv<=2
 s1:sp<=1099511627776
 ls:lv=1↔0<sp
 gf:mQ f t gs=true
 n4:st.length<=64
 q:qs.length=st.length
 x:xs.length=st.length
theorem ZsA (h:oj st f t lv sp gs qs snap xs=(data,0)) (k:NE st f t lv sp gs qs xs)
  (F:ei Z3 st vs=(snap,0)) (y:lv≠0) (L:Nat->List dO)
  (B:∀i,i<st.length->∀gP:Option ax,(hasS (jI st i) (qs.getD i false) lv=true->gP=some (xs.getD i []))->
   (qs.getD i false=true/\L i=[])\/(qs.getD i false=false/\hasS (jI st i) false lv=false/\L i=[])\/(qs.getD i false=false/\hasS (jI st i) false lv=true/\∃s,gP=some s/\Ih (jI st i) f t sp s=(L i,0))):
  ∃n,iR st data=some (qh f t lv sp gs qs n snap (zsT lv st qs xs))/\nV st data=some (qh f t lv sp gs qs n snap (zsT lv st qs xs),⟨f,t,vs,(List.range st).map L,gs⟩):=by
 obtain⟨x,w1,l,M⟩:=TW h;have u:=Zms w1 l M k.f1 k.ft k.t1 k.l2 k.s1 k.ls k.gf k.n4 k.q k.x;refine⟨x.length,u,?_⟩;have G:hP st data (qh f t lv sp gs qs x snap (zsT lv st qs xs))=some vs:=by unfold hP qh;simp only;rw[Zjx l];simp only;rw[ZqZ F];rfl
 have I:∀i,i<st.length->(eM st data (qh f t lv sp gs qs x snap (zsT lv st qs xs)) i).1=L i/\((eM st data (qh f t lv sp gs qs x snap (zsT lv st qs xs)) i).2=0\/(eM st data (qh f t lv sp gs qs x snap (zsT lv st qs xs)) i).2=14):=by intro i hi;have E:=B i hi (hM data ((kW (2+x.length+snap.length) (zsT lv st qs xs)).getD i (0,0))) (λD=>Znk l k.q k.x hi D);unfold eM;rw[show(qh f t lv sp gs qs x snap (zsT lv st qs xs)).quiet=qs from rfl,show(qh f t lv sp gs qs x snap (zsT lv st qs xs)).lv=lv from rfl];rcases E with ⟨h1,g⟩|⟨h1,g,p⟩|⟨h1,g,s,p,z⟩;exact aO;exact aO;rw[Vae (by rw[h1];decide),Vae (by rw[g];decide),Vae y];rw[show(qh f t lv sp gs qs x snap (zsT lv st qs xs)).strs=kW (2+x.length+snap.length) (zsT lv st qs xs) from rfl,p];simp only;rw[show(qh f t lv sp gs qs x snap (zsT lv st qs xs)).f=f from rfl,show(qh f t lv sp gs qs x snap (zsT lv st qs xs)).t=t from rfl,show(qh f t lv sp gs qs x snap (zsT lv st qs xs)).sp=sp from rfl,z];rw[Vae (λh=>h rfl)];exact⟨rfl,.inl rfl⟩
 unfold nV;rw[u];simp only;rw[G];simp only;rw[Vae (by rw[ZqB,l];have:=GZ (lv:Int) st qs xs k.q k.x;simp only[gd,Vab];omega)];rw[Vae (by rintro⟨i,hi,h1,g⟩;rcases(I i hi).2 with h|h;exact h1 h;exact g h)];rw[Vae (λh=>y h.1)];congr 3;apply List.map_congr_left;grind
theorem ZF (n:Nat):(bi n).length<=9:=by rw[Yq6];have:=Yf n;omega
theorem Do {α:Type} (f:α->ax) (m:Nat) (h:∀x,(f x)<=m):∀l:List α,(l.flatMap f)<=m*l.length
 |[]=>by simp
 |x::l=>by rw[sW,Vab,gd,Nat.mul_add];have:=Do f m h l;grind
theorem Vu:∀(st:List (Int×Int)) (qs:List Bool) (zs:List Nat),lenT 2 st qs zs=[]
 |s::st,q::qs,z::zs=>by rw[lenT,Vu st qs zs,fg,Vae (by unfold hasS;grind)]
 |[],_,_=>by rfl
 |_::_,[],_=>by rfl
 |_::_,_::_,[]=>by rfl
theorem A_:∀(st:List (Int×Int)) (qs:List Bool) (xs:List ax),iT 2 st qs xs=[]
 |s::st,q::qs,x::xs=>by rw[iT,A_ st qs xs,fg,Vae (by unfold hasS;grind)]
 |[],_,_=>by rfl
 |_::_,[],_=>by rfl
 |_::_,_::_,[]=>by rfl
theorem ZcK (k:NE st f t 2 0 gs qs xs) (D:ei Z3 st vs=(snap,0)):(oj st f t 2 0 gs qs snap xs).2=0:=by
 have Q:=(A' k.gf).2;have S:=k.q;have R:=k.n4;have B:(YR st f t 2 0 gs qs snap (zsT (2:Nat) st qs xs)).length<=2000:=by unfold YR xC lX mD;have e:=Vu st qs (zsT (2:Nat) st qs xs);rw[show(((2:Nat):Int))=2 from rfl] at e⊢;rw[e];simp only[Vab,xa];have F:=ZF st;have a1:=ZF (f+1).toNat;have a2:=ZF (t-f).toNat;have a3:=ZF 2;have a4:=ZF 0;have a5:=ZF gs;have a6:=ZF snap;have G:=Do (λg:Int×Int=>bi (g.1-f-1).toNat++bi (g.2-g.1).toNat) 18 (λg=>Px) gs;have I:=Do (λq:Bool=>bi q.toNat) 9 (λq=>ZF _) qs;omega
 have M:snap.length<=7000:=by
  obtain⟨p,E⟩:=GT D;rcases E with ⟨_,rfl⟩|⟨_,l⟩;simp;unfold hQ at p;rw[gm] at p;have a9:=(Kv p.2 0).2;unfold Zo at l;match hl:lx (ZJ st vs) with
  |none=>rw[hl] at l;cases l
  |some u=>rw[hl] at l;injection l with l;subst l;rw[QT];have h1:(ZM (ZJ st vs) u)<=(ZJ st vs).length:=Fi;have z:=ZF (ZM (ZJ st vs) u);omega
 unfold oj;have hi:=X7 (k:=5) (c:=YR st f t 2 0 gs qs snap (zsT (2:Nat) st qs xs));rw[dd O] at hi;match l:Zo 5 (YR st f t 2 0 gs qs snap (zsT (2:Nat) st qs xs)) with
 |none=>rw[l] at hi;cases hi
 |some x=>
  simp only;have y:=A_ st qs xs;rw[show(((2:Nat):Int))=2 from rfl] at l⊢;rw[y,fg]
  have b0:x.length<=2100:=by
   unfold Zo at l;match hl:lx (YR st f t 2 0 gs qs snap (zsT 2 st qs xs)) with
   |none=>rw[hl] at l;cases l
   |some u=>rw[hl] at l;injection l with l;subst l;rw[QT];have h1:(ZM (YR st f t 2 0 gs qs snap (zsT 2 st qs xs)) u).length<=(YR st f t 2 0 gs qs snap (zsT 2 st qs xs)).length:=Jm;have z:=ZF (ZM (YR st f t 2 0 gs qs snap (zsT 2 st qs xs)) u).length;rw[show(((2:Nat):Int))=2 from rfl] at B;omega
  rw[Vae O]
end
def kO:List dO:=[(0,bs [49]),(5,bs [48])]
def nC:eS:=⟨-1,9,[bs [120]],[kO],[]⟩
theorem ZoC:eE (0,1) (-1) 9 (bs [120]) kO=true:=by rfl
theorem ZhF:(ke (gY (-1) kO)).1.length<=1000:=by
 have t:=Kr ZoC;have h0:(lp (gY (-1) kO)).length<=1000:=by unfold lp ZS;have h1:=Qg ((Za (gY (-1) kO)).map Int.toNat) (λv k=>by obtain⟨g,q,rfl⟩:=Vbm.1 k;have:=Xz t g q;omega);have l:((Za (gY (-1) kO)).map Int.toNat).length=2:=rfl;have p:=Yq6 0;have u:=Yf 0;grind
 generalize gY (-1) kO=L at*;unfold ke;have h1:=(Mb (lp L) (om L)).1;have l:=(Mb (lp L) (oK L)).1;have p:=(Mb (jS (lp L) (oK L)) (om L)).1;grind
theorem ZoB:∃d,mX (0,1) (-1) 9 (bs [120]) kO=(d,0)/\d.length<=4096:=by
 have u:=ZhF;have y:(mZ (0,1) (kO.map (·.2))).1.length<=1000:=Zlo;obtain⟨T,l⟩:=ay ((ke (gY (-1) kO)).1);obtain⟨V,p⟩:=ay ((mZ (0,1) (kO.map (·.2))).1);rw[l] at u;rw[p] at y;obtain⟨w1,h1⟩:=Gd (k:=1) (c:=T) O;obtain⟨q,g⟩:=Gd (k:=2) (c:=V) O;have B:=F0 h1;have l2:=F0 g;have t:tA (0,1) (-1) kO=[(1,T),(2,V)]:=by unfold tA;rw[Vae aY,l,p];rfl
 have z:Y0 [(1,T),(2,V)]=some (w1++(q++[])):=by simp only[Y0,h1,g];rfl
 refine⟨w1++(q++[]),?_,?_⟩;unfold mX;rw[Vae aY,Vae (by unfold kO;simp),t];unfold rb;grind;grind
theorem ZoD:hQ Z3 [(0,1)] [bs [120]]=true:=by rfl
theorem S_:∃d,ei Z3 [(0,1)] [bs [120]]=(d,0)/\d.length<=200:=by have g:=ZoD;have p:=(Kv (by unfold hQ at g;rw[gm] at g;exact g.2) 0).2;unfold ei;by_cases h0:ZJ [(0,1)] [bs [120]]=[];exact aO;obtain⟨w,l⟩:=Gd (k:=4) (c:=ZJ [(0,1)] [bs [120]]) aO;have:=F0 l;grind
theorem R_:jh [(0,1)] nC=true:=by rfl
theorem Zoz:∃d,ka [(0,1)] nC=(d,0):=by
 obtain⟨s,l,ls⟩:=S_;obtain⟨d,hd,B⟩:=ZoB;have g:strE [(0,1)] nC 0=(d,0):=hd;have q:fm [(0,1)] nC=[d]:=by show[(strE [(0,1)] nC 0).1]=[d];rw[g]
 unfold ka;rw[Vae (by rw[R_];decide),show ei Z3 [(0,1)] nC.vs=(s,0) from l,Vae (λh=>h rfl),Vae aO,q];unfold oj;obtain⟨H,hH⟩:=ay (YR [(0,1)] nC.f nC.t 0 0 nC.gaps (dW nC) s (zsT ((0:Nat):Int) [(0,1)] (dW nC) [d]));have y:H.length<=200:=by rw[<-hH];show(YR [(0,1)] (-1) 9 0 0 [] [false] s.length [d.length]).length<=200;unfold YR xC;have a1:=ZF 1;have a2:=ZF ((-1:Int)+1).toNat;have a3:=ZF ((9:Int)- -1).toNat;have a4:=ZF 0;have a5:=ZF s;have a6:=ZF d.length;have u:=ZF (0+1);simp only[Vab,gd,xa,lX,mD,lenT,List.flatMap_nil,sW,Bool.toNat_false,Ys,if_true];omega
 obtain⟨w,p⟩:=Gd (k:=5) (c:=H) O;have D:=F0 p;have z:(iT ((0:Nat):Int) [(0,1)] (dW nC) [d]).length=d.length:=by show((if hasS (0,1) false ((0:Nat):Int) then d else[])++[]).length=_;rw[Ys];simp
 grind
variable{data:ax}{i k:Nat}{st:List (Int×Int)}{v:a'}
structure ca where
 s:List UInt8
 fail:Int
 code:Nat
 calls:Int
 parts:List (Int×Int)
def inT (n:Nat) (p:Int×Int):Bool:=decide (0<=p.1)&&decide (0<=p.2)&&decide (p.1<=(n:Int))&&decide (p.2<=(n:Int)-p.1)
def tI (s:ax) (p:Int×Int):ax:=(s.drop p.1.toNat).take p.2.toNat
def gy (D:ca) (p:Int×Int):(ax×Nat)×ca:=
 if D.calls+1=D.fail then(([],D.code), { D with calls:=D.calls+1 })
 else if inT D.s p=false then(([],2), { D with calls:=D.calls+1 })
 else((tI D.s p,0), { D with calls:=D.calls+1,parts:=D.parts++[p] })
def dr (D:ca) (p:Int×Int):(ax×Nat)×ca:=
 if p.2=0 then(([],0),D)
 else if(gy D p).1.2=2 then(([],12),(gy D p).2)
 else if(gy D p).1.2≠0 then(([],(gy D p).1.2),(gy D p).2)
 else gy D p
def tC (st:List (Int×Int)) (n:Nat) (s:ax):Option Hd:=
 match ZI s with
 |none=>none
 |some (k,c,m)=>if k=5/\m=s/\m=n then rL st (bs c) n else none
def nK (st:List (Int×Int)) (D:ca):(Option Hd×Nat)×ca:=
 if fN st=false then((none,1),D)
 else if(dr D (0,2)).1.2≠0 then((none,(dr D (0,2)).1.2),(dr D (0,2)).2)
 else if(dr D (0,2)).1.1.length≠2 then((none,12),(dr D (0,2)).2)
 else if(dr (dr D (0,2)).2 (2,(ew (dr D (0,2)).1.1:Int))).1.2≠0 then((none,(dr (dr D (0,2)).2 (2,(ew (dr D (0,2)).1.1:Int))).1.2),(dr (dr D (0,2)).2 (2,(ew (dr D (0,2)).1.1:Int))).2)
 else match tC st (ew (dr D (0,2)).1.1) (dr (dr D (0,2)).2 (2,(ew (dr D (0,2)).1.1:Int))).1.1 with
  |none=>((none,12),(dr (dr D (0,2)).2 (2,(ew (dr D (0,2)).1.1:Int))).2)
  |some h=>((some h,0),(dr (dr D (0,2)).2 (2,(ew (dr D (0,2)).1.1:Int))).2)
def gV (st:List (Int×Int)) (h:Hd):Bool:=fN st&&decide (h.quiet=st.length)&&decide (h.strs=st.length)
def gE (st:List (Int×Int)) (D:ca) (h:Hd):(a'×Nat)×ca:=
 if gV st h=false then(([],1),D)
 else if(dr D (h.off,(h.sn:Int))).1.2≠0 then(([],(dr D (h.off,(h.sn:Int))).1.2),(dr D (h.off,(h.sn:Int))).2)
 else if(kD Z3 st (dr D (h.off,(h.sn:Int))).1.1).2≠0 then(([],12),(dr D (h.off,(h.sn:Int))).2)
 else(((kD Z3 st (dr D (h.off,(h.sn:Int))).1.1).1,0),(dr D (h.off,(h.sn:Int))).2)
def zJ (s:Int×Int) (h:Hd) (v:aT) (d:ax):List dO×Nat:=
 if h.lv=0 then(if(sgD s h.f h.t v d).2≠0\/(sgD s h.f h.t v d).1=[] then([],12) else((sgD s h.f h.t v d).1,0))
 else if(Ih s h.f h.t h.sp d).2≠0 then([],12) else((Ih s h.f h.t h.sp d).1,0)
def um (st:List (Int×Int)) (D:ca) (h:Hd) (i:Nat) (v:aT):(List dO×Nat)×ca:=
 if(dr D (h.strs.getD i (0,0))).1.2≠0 then(([],(dr D (h.strs.getD i (0,0))).1.2),(dr D (h.strs.getD i (0,0))).2)
 else(zJ (jI st i) h v (dr D (h.strs.getD i (0,0))).1.1,(dr D (h.strs.getD i (0,0))).2)
def iN (st:List (Int×Int)) (D:ca) (h:Hd) (i:Int):(List dO×Nat)×ca:=
 if gV st h=false then(([],1),D)
 else if i<0\/(st.length:Int)<=i then(([],2),D)
 else if h.quiet.getD i.toNat false=true then(([],0),D)
 else if hasS (jI st i.toNat) false h.lv=false then(([],14),D)
 else if h.lv=0 then
  (if(gE st D h).1.2≠0 then(([],(gE st D h).1.2),(gE st D h).2) else um st (gE st D h).2 h i.toNat (jU (gE st D h).1.1 i.toNat))
 else um st D h i.toNat ⟨#[]⟩
abbrev fK (s:ax):ca:=⟨s,0,0,0,[]⟩
def qn (D:ca):Prop:=0<=D.calls/\D.fail=0
theorem ZpL {D:ca} (h:qn D) (p:Int×Int):qn (gy D p).2/\(gy D p).2.s=D.s/\(gy D p).1=if inT D.s p=false then([],2) else(tI D.s p,0):=by obtain⟨h1,g⟩:=h;unfold gy;rw[Vae O];split;exact⟨⟨aO,g⟩,rfl,rfl⟩;exact⟨⟨aO,g⟩,rfl,rfl⟩
theorem Dq (s:ax) (p:Int×Int) (h:p.2≠0):hM s p=if inT s p=false then none else some (tI s p):=by unfold hM inT tI;grind
theorem zg {D:ca} (h:qn D) (p:Int×Int):qn (dr D p).2/\(dr D p).2.s=D.s/\(dr D p).1=match hM D.s p with
  |none=>([],12)
  |some s=>(s,0):=by obtain⟨a1,a2,a3⟩:=ZpL h p;unfold dr;by_cases h0:p.2=0;rw[Vag h0];exact⟨h,rfl,by unfold hM;grind⟩;rw[Vae h0,Dq _ _ h0];grind
theorem Mh {D:ca} (h:qn D) (st:List (Int×Int)) (G:fN st=true):qn (nK st D).2/\(nK st D).2.s=D.s/\(nK st D).1=match iR st D.s with
  |none=>(none,12)
  |some g=>(some g,0):=by
 obtain⟨a1,a2,a3⟩:=zg h (0,2);unfold nK;rw[Vae aO];have E:hM D.s (0,2)=if D.s.length<2 then none else some (D.s.take 2):=by unfold hM;grind
 rw[E] at a3;unfold iR;by_cases l:D.s.length<2;exact aO;rw[Vae l] at a3⊢
 have z:ew (D.s.take 2)=ew D.s:=by
  match D.s,l with
  |[],l=>simp at l
  |[_],l=>simp at l
  |x::y::r,_=>rfl
 obtain⟨b1,q,b3⟩:=zg a1 (2,(ew D.s:Int));rw[a2] at q b3;rw[a3,Vae (λh=>h rfl),Vae aO];simp only;rw[z,b3];have F:hM D.s (2,(ew D.s:Int))=if D.s.length<2+ew D.s then none else some ((D.s.drop 2).take (ew D.s)):=by unfold hM;by_cases h0:(ew D.s:Int)=0;exact nk;grind
 rw[F];by_cases u:D.s.length<2+ew D.s;exact aO;rw[Vae u,Vae u];simp only;rw[Vae (λh=>h rfl)]
 have B:tC st (ew D.s) ((D.s.drop 2).take (ew D.s))=zy st (ew D.s) ((D.s.drop 2).take (ew D.s)):=by
  have p:((D.s.drop 2).take (ew D.s)).length=ew D.s:=(by rw[ek,iW];omega);unfold tC zy;rw[p];match ZI ((D.s.drop 2).take (ew D.s)) with
  |none=>rfl
  |some (k,c,n)=>simp only;by_cases t:k=5/\n=ew D.s;obtain⟨k1,k2⟩:=t;rw[Vag ⟨k1,k2,k2⟩,Vag ⟨k1,k2⟩,k2];rw[Vae (λh=>t ⟨h.1,h.2.1⟩),Vae t]
 rw[B];match zy st (ew D.s) ((D.s.drop 2).take (ew D.s)) with
 |none=>exact⟨b1,q,rfl⟩
 |some g=>exact⟨b1,q,rfl⟩
theorem Mr {D:ca} (h:qn D) {g:Hd} (k:gV st g=true):qn (gE st D g).2/\(gE st D g).2.s=D.s/\(gE st D g).1=match hP st D.s g with
  |none=>([],12)
  |some v=>(v,0):=by obtain⟨a1,a2,a3⟩:=zg h (g.off,(g.sn:Int));unfold gE hP;grind
theorem Z9y {D:ca} (h:qn D) {g:Hd} (q:gV st g=true) (hi:i<st):qn (iN st D g i).2/\(iN st D g i).2.s=D.s/\(iN st D g i).1=eM st D.s g i:=by
 unfold iN eM;rw[Vae aO,Vae O,ep];by_cases p:g.quiet.getD i false=true;exact aO;rw[Vae p,Vae p];by_cases l:hasS (jI st i) false g.lv=false;exact aO;rw[Vae l,Vae l];by_cases h0:g.lv=0
 .rw[Vag h0,Vag h0];obtain⟨a1,a2,a3⟩:=Mr h q;rw[a3];match hP st D.s g with
  |none=>simp only;rw[Vag aY];exact⟨a1,a2,rfl⟩
  |some v=>
   simp only;rw[Vae (λh=>h rfl)];obtain⟨b1,k,b3⟩:=zg a1 (g.strs.getD i (0,0));rw[a2] at k b3;unfold um;rw[b3];match hM D.s (g.strs.getD i (0,0)) with
   |none=>simp only;rw[Vag aY];exact⟨b1,k,rfl⟩
   |some s=>simp only;rw[Vae (λh=>h rfl)];refine⟨b1,k,?_⟩;unfold zJ;rw[Vag h0]
 rw[Vae h0,Vae h0];obtain⟨b1,k,b3⟩:=zg h (g.strs.getD i (0,0));unfold um;rw[b3];match hM D.s (g.strs.getD i (0,0)) with
 |none=>exact⟨b1,k,rfl⟩
 |some s=>rw[Vae (λh=>h rfl)];refine⟨b1,k,?_⟩;unfold zJ;rw[Vae h0]
def qT (st:List (Int×Int)) (data:ax) (h:Hd) (k:Nat):List (List dO):=(List.range k).map λi=>(eM st data h i).1
theorem GK (st:List (Int×Int)) (data:ax) (h:Hd) (k:Nat):(qT st data h k)=k:=by unfold qT;grind
theorem ZhO (st:List (Int×Int)) (data:ax) (h:Hd) (k:Nat):qT st data h (k+1)=qT st data h k++[(eM st data h k).1]:=by unfold qT;rw[vK,jy];rfl
theorem ZhQ {h:Hd} (h0:h.lv=0):(eM st data h i).2=0\/(eM st data h i).2=12:=by have g:hasS (jI st i) false (h.lv:Int)=true:=(by rw[h0];exact Ys _);unfold eM;grind
theorem Zo1 {h:Hd} (g:hP st data h=some v):∃s,kD Z3 st s=(v,0):=by unfold hP at g;grind
theorem Kc {h:Hd} (p:hP st data h=some v):v=st.length/\∀x∈v,x.size<=128:=by obtain⟨s,l⟩:=Zo1 p;have g:=(Mu l).2;obtain⟨q1,q2,q3⟩:=yX g;refine⟨q3,λx q=> ?_⟩;obtain⟨m,k,rfl⟩:=List.getElem_of_mem q;unfold hQ at g;rw[gm] at g;have:=Gc (Dh Z3 g.2 m O k);exact this
theorem ZhT {h:Hd} (h0:h.lv=0) (l:hP st data h=some v) (k:(eM st data h i).2=0):(eM st data h i).1.length<=4096/\∀c∈(eM st data h i).1,c.2.size<=128:=by rcases ZhP h0 l (.inl k) with ⟨_,e⟩|⟨_,_,s,_,e⟩;exact aO;have g:=(ZpV e).2;exact⟨(Xn.1 g).2.2.2.1,Zg8 g⟩
theorem p_:∀(zs:List Nat) (a m:Int),0<=a->a+zs.sum<=m->∀p∈kW a zs,0<=p.1/\p.1<=m/\0<=p.2/\p.2<=m
 |[],a,m,_,_,p,g=>by cases g
 |z::zs,a,m,h1,h2,p,g=>by rw[List.sum_cons,xb] at h2;rcases jA.1 g with e|e;exact aO;exact p_ zs (a+z) m O O p e
theorem C0 {h:Hd} (B:iR st data=some h):0<=h.off/\h.off<=16384/\h.sn<=16384/\(∀p∈h.strs,0<=p.1/\p.1<=16384/\0<=p.2/\p.2<=16384)/\h.quiet=st.length/\h.strs=st.length/\st.length<=64/\(h.lv=0->h.sp=0)/\-1<=h.f/\h.f<h.t/\h.t<=1099511627776/\h.gaps.length<=16/\mQ h.f h.t h.gaps=true:=by obtain⟨x,zs,_,_,_,_,h1,G,u,y,I,M,Q,k,z,D,l,E,q,F,g⟩:=ZkR B;refine⟨O,O,O,?_,D,by rw[g,Gz,l],z,O,h1,u,y,(A' k).2,k⟩;rw[g];exact p_ zs _ 16384 O q
theorem Zpa {h:Hd} (g:iR st data=some h) (l:fN st=true):gV st h=true:=by obtain⟨_,_,_,_,h1,k,_⟩:=C0 g;unfold gV;grind
def tx (h:Hd) (k:Nat):Int:=(h.strs.take k).foldl (λe p=>max e (p.1+p.2)) (h.off+h.sn)
theorem T9 {h:Hd} (g:k<h.strs):tx h (k+1)=max (tx h k) (h.strs[k].1+h.strs[k].2):=by unfold tx;rw[dK g,rk];rfl
theorem Zir {h:Hd} (g:k=h.strs):tx h k=wv h:=by unfold tx wv;grind
theorem WJ {h:Hd} (h1:0<=h.off) (g:h.off<=16384) (l:h.sn<=16384) (q:∀p∈h.strs,0<=p.1/\p.1<=16384/\0<=p.2/\p.2<=16384):∀k,k<=h.strs.length->0<=tx h k/\tx h k<=32768
 |0,_=>by unfold tx;grind
 |k+1,hk=>by rw[T9 O];have:=WJ h1 g l q k O;grind
structure BkAt (st:List (Int×Int)) (c:eS) (data:List UInt8) (h:Hd):Prop where
 f:h.f=c.f
 t:h.t=c.t
 lv:h.lv=0
 sp:h.sp=0
 gaps:h.gaps=c.gaps
 quiet:h.quiet=dW c
 off:h.off=2+(ew data:Int)
 strs:h.strs.length=st.length
 hd:iR st data=some h
 va:hP st data h=some c.vs
 ch:∀i,i<st.length->eM st data h i=(fG c.ch i,0)
 len:(data.length:Int)=h.off+h.sn+((List.range st.length).map λi=>(h.strs.getD i (0,0)).2).sum
 z:∀i,i<st.length->((h.strs.getD i (0,0)).2=0↔fG c.ch i=[])/\0<=(h.strs.getD i (0,0)).2
 at_:∀i,i<st.length->fG c.ch i≠[]->(h.strs.getD i (0,0)).1=h.off+h.sn+((List.range i).map λj=>(h.strs.getD j (0,0)).2).sum
theorem J_ (zs:List Nat) (a:Int):∀k,k<=zs.length->((List.range k).map λi=>((kW a zs).getD i (0,0)).2).sum=(((zs.take k).sum:Nat):Int)
 |0,_=>by simp
 |k+1,h=>by rw[vK,jy,List.sum_append,J_ zs a k O,dK (show k<zs.length by omega),List.sum_append,List.map_singleton,List.sum_singleton,List.sum_singleton,Z2w _ _ _ O];grind
theorem GU {c:eS} (h:(strE st c i).2=0):(strE st c i).1=[]↔fG c.ch i=[]:=by have e:mX (jI st i) c.f c.t (jU c.vs i) (fG c.ch i)=((strE st c i).1,0):=Prod.ext rfl h;obtain⟨l,k⟩:=Lw e;rcases k with ⟨a,b⟩|⟨a,b,_⟩;exact aO;exact⟨λg=>absurd g (VU b),λg=>absurd g a⟩
theorem Zov {c:eS} (h:ka st c=(data,0)):∃hd,BkAt st c data hd/\gV st hd=true:=by
 obtain⟨hv,hs,hx,hb⟩:=Yr h;obtain⟨hf,_⟩:=XM.1 hv;obtain⟨f1,f2,f3,f4,f5,f6⟩:=Yi.1 hf;obtain⟨ty,n4,_⟩:=yX f4;obtain⟨x,w2,w3,w4,w5⟩:=PL h;have nn:(dW c)=st.length:=Fk;have df:=QU st c;have qz:=Du (0:Nat) st (dW c) (fm st c) nn df;have fP:=GZ (0:Nat) st (dW c) (fm st c) nn df;have hzg:∀i,i<st.length->(zsT (0:Nat) st (dW c) (fm st c)).getD i 0=(strE st c i).1.length:=by intro i hi;rw[Ht _ _ _ _ nn df i hi];have e:(fm st c).getD i []=(strE st c i).1:=Tf _ _ hi;rw[e,Ll c O];by_cases h0:fG c.ch i=[];rw[(GU (hx i hi)).2 h0];simp;have hl:(fG c.ch i).length≠0:=λh=>h0 (ia h);rw[Vai hl,Ys,Vag rfl]
 have hV:=MK h w2;have hC:=λi (hi:i<st.length)=>MP h w2 hi;have fV:(data.length:Int)=2+x.length+(ei Z3 st c.vs).1.length+(zsT (0:Nat) st (dW c) (fm st c)).sum:=by rw[<-fP,w2];simp only[gd,Vab];omega
 obtain⟨D,hD⟩:=ay (qh c.f c.t 0 0 c.gaps (dW c) x (ei Z3 st c.vs).1 (zsT (0:Nat) st (dW c) (fm st c)));have d1:D.f=c.f:=rU;have d2:D.t=c.t:=rU;have d3:D.lv=0:=rU;have d4:D.sp=0:=rU;have d5:D.gaps=c.gaps:=rU;have d6:D.quiet=dW c:=rU;have d7:D.off=2+(x.length:Int):=rU;have d8:D.sn=(ei Z3 st c.vs).1:=rU;have d9:D.strs=kW (2+x.length+(ei Z3 st c.vs).1.length) (zsT (0:Nat) st (dW c) (fm st c)):=rU;rw[hD] at hV w5;have hC':∀i,i<st.length->eM st data D i=(fG c.ch i,0):=(by intro i hi;rw[<-hD];exact hC i hi);clear hD hC;generalize zsT ((0:Nat):Int) st (dW c) (fm st c)=zs at*;have tD:=λ(k:Nat) (hk:k<=st)=>J_ zs (2+x.length+(ei Z3 st c.vs).1.length) k (by rw[qz];exact hk);have ez:=λ(k:Nat) (hk:k<st)=>Z2w zs (2+x.length+(ei Z3 st c.vs).1.length) k (by rw[qz];exact hk);rw[<-d9] at tD ez
 have fu:∀i,i<st.length->(D.strs.getD i (0,0)).2=(zs.getD i 0:Int):=by
  intro i hi;rw[ez i hi];split;.rename_i h0;rw[h0];rfl
  rfl
 refine⟨D,⟨d1,d2,d3,d4,d5,d6,by rw[w4];exact d7,by rw[d9,Gz,qz],w5,hV,hC',?_,?_,?_⟩,?_⟩;rw[tD _ aU,d' O,d7,d8];exact fV;intro i hi;rw[fu i hi,hzg i hi];refine⟨⟨λh0=> ?_,λh0=> ?_⟩,O⟩;exact(GU (hx i hi)).1 (ia O);rw[(GU (hx i hi)).2 h0];rfl
 .intro i hi h0;have hz:zs.getD i 0≠0:=by rw[hzg i hi];intro h1;exact h0 ((GU (hx i hi)).1 (ia h1))
  rw[tD i O,ez i hi,Vae hz,d7,d8]
 unfold gV;rw[ty,d6,nn,d9,Gz,qz];simp
