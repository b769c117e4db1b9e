import Derived.Test.YtikecoijpkmnbaaGreatDoorJ08
import Derived.SliceStrings
import Derived.Test.YtikecoijpkmnbaaGreatDoorJ03
set_option linter.all false
set_option maxRecDepth 100000
set_option maxHeartbeats 0
open Go.Proofs.Tryz (prog)
section
variable{P Q:Prop}
theorem E2(h:P:=by unfold maxLen at F;omega):P:=h
theorem PY(h:P:=by refine key (iv (q j).1) ?_ (by rw[u];exact G);rw[u];simpa using p):P:=h
theorem PO(h:P:=by obtain⟨_,u,_⟩:=z 0 (by omega);simpa [Addr.add] using World.cell?_spot u):P:=h
theorem PP(h:P:=by intro v h1 h2;obtain⟨_,a7⟩:=List.getElem?_eq_some_iff.1 h1;rw[a7];exact h2):P:=h
theorem I2(h:P:=by simp at h0;obtain⟨rfl,rfl,rfl⟩:=h0;exact⟨[],At.nil _ _,by simp,rfl,by omega⟩):P:=h
end
namespace Wv
variable{k:Nat}{l:a'}{w:Int}
def ZG (w:Int) (l:a'):Bool:=l.all (λv=>gH w (aH v))&&(decide (1<=w)&&decide (w<=128)&&decide (l.length<=4096))
theorem ZH :ZG w l=true↔(∀v∈l,gH w (aH v)=true)/\1<=w/\w<=128/\l.length<=4096:=by unfold ZG;grind
def Bv (l:a') (j:Nat):Option aT:=if(vp (aH (l.getD j default)) (aH (l.getD (j+1) default))).2=true then some (bs (vp (aH (l.getD j default)) (aH (l.getD (j+1) default))).1) else none
def gB (l:a') (k:Nat):a':=(List.range k).filterMap (Bv l)
def zu (l:a'):a':=gB l (l.length-1)
theorem Zds (l:a') (k:Nat):gB l (k+1)=gB l k++(Bv l k).toList:=by unfold gB;rw[vK,List.filterMap_append];grind
theorem WW :∀d∈gB l k,jM (aH d)=true:=by
 intro d hd;obtain⟨j,_,hj⟩:=List.mem_filterMap.1 hd;unfold Bv at hj;split at hj;.rename_i h;injection hj with hj;subst hj;exact(Ta (Prod.ext rfl h)).1
 grind
def Yx (F:aT->Nat) (p:aT×Nat) (d:aT):aT×Nat:=if p.2<F d then(d,F d) else p
def stepOf (g:a'):aT:=(g.foldl (Yx (λd=>g.count d)) (bs [],0)).1
def ZE (l:a'):aT:=if l=[]\/ZG ((l.getD 0 default).size:Int) l=false then bs [] else stepOf (zu l)
theorem ZhB (F:aT->Nat) (p:aT×Nat) (d:aT):p.2<=(Yx F p d).2/\F d<=(Yx F p d).2:=by unfold Yx;grind
theorem Zmj (F:aT->Nat) (g:a'):∀p,p.2<=(g.foldl (Yx F) p).2/\∀d∈g,F d<=(g.foldl (Yx F) p).2:=by
 induction g with
 |nil=>exact aO
 |cons a r ih=>intro p;obtain⟨h1,k⟩:=ZhB F p a;grind
theorem Xb (l:a') (x:aT):cT (l++[x])=DM (cT l) x:=by unfold cT;grind
theorem Ze0 (F:aT->Nat) (g:a') (p:aT×Nat):(cT g).foldl (Yx F) p=g.foldl (Yx F) p:=by
 rw[<-List.reverse_reverse g];induction g.reverse with
 |nil=>rfl
 |cons a r ih=>rw[List.reverse_cons,Xb,rk];unfold DM;by_cases h:a∈cT r.reverse;rw[Vag h,ih];have k:a∈r.reverse:=(YZ _ _).1 h;have:=(Zmj F r.reverse p).2 a k;generalize List.foldl (Yx F) p r.reverse=q at*;unfold Yx;grind;grind
theorem ZiB (F:aT->Nat) (g:a'):∀p,p.2=F p.1->(g.foldl (Yx F) p).2=F (g.foldl (Yx F) p).1:=by
 induction g with
 |nil=>exact aO
 |cons a r ih=>intro p h;apply ih;unfold Yx;grind
def wC (l:a') (st:aT) (j:Nat):Bool:=decide (qc (aH (l.getD j default)) (aH st)=(aH (l.getD (j+1) default),true))
def jL (l:a') (st:aT) (k:Nat):List Int:=((List.range k).filter (λj=> !wC l st j)).map (λ(j:Nat)=>(j:Int)+1)
def iD (l:a') (st:aT):List Int:=jL l st (l.length-1)
theorem Zit (l:a') (st:aT) (k:Nat):jL l st (k+1)=if wC l st k=true then jL l st k else jL l st k++[(k:Int)+1]:=by unfold jL;rw[vK,List.filter_append,jy];grind
theorem Lp (l:a') (st:aT) (k:Nat):(jL l st k)<=k:=by unfold jL;grind
theorem N0 {st:aT} :∀x∈jL l st k,1<=x/\x<=(k:Int):=by intro x g;obtain⟨j,p,rfl⟩:=Vbm.1 g;grind
theorem Zbf (l:a') (st:aT) (k:Nat):(jL l st k).Pairwise (· <·):=by unfold jL;rw[List.pairwise_map];exact(List.pairwise_lt_range.sublist List.filter_sublist).imp (λh=>O)
def gU (l:a') (x:List Int):a':=x.map (λi=>l.getD i.toNat default)
def ZL (l:a'):a':=l.map (λv=>bs (fw (aH v)))
def jl (w:Int):a'->Option a'
 |[]=>some []
 |s::r=>if(ext w (aH s)).2=0 then(jl w r).map (bs (ext w (aH s)).1::·) else none
def ly (last:aT):a'->a'
 |[]=>[]
 |v::r=>bs (jp (aH v) (aH last)).1::ly v r
def Yh (last:aT):a'->a'
 |[]=>[]
 |v::r=>bs (jp (aH v) (aH last)).1::Yh (bs (jp (aH v) (aH last)).1) r
theorem JZ (h:∀v∈l,gH w (aH v)=true):jl w (ZL l)=some l:=by
 induction l with
 |nil=>rfl
 |cons v r ih=>have k:=ZN.1 (h v fi);have g:=Ls k.1;rw[k.2] at g;show(if(ext w (aH (bs (fw (aH v))))).2=0 then(jl w (ZL r)).map (bs (ext w (aH (bs (fw (aH v))))).1::·) else none)=_;rw[Zm,g,Vag rfl,ih (λx p=>h x (gM _ p))];rfl
theorem Z1A {r:a'} (h:jl w l=some r):(∀v∈r,gH w (aH v)=true)/\r=l.length:=by
 induction l generalizing r with
 |nil=>injection h with h;grind
 |cons s t ih=>
  unfold jl at h;split at h
  .rename_i he;match hq:jl w t,h with
   |none,h=>cases h
   |some q,h=>injection h with h;subst h;refine⟨λv hv=> ?_,aO⟩;rcases jA.1 hv with rfl|hv;exact WM (Prod.ext rfl he);grind
  grind
theorem C6 (l:a'):∀last,(ly last l)=l.length:=by
 induction l with
 |nil=>intro _;rfl
 |cons v r ih=>simp[ly,ih]
theorem Zo3 {a b:ax} (l:gH w a=true) (hb:gH w b=true):gH w (jp a b).1=true/\jp (jp a b).1 b=(a,0):=by obtain⟨a1,a2⟩:=ZN.1 l;obtain⟨b1,p⟩:=ZN.1 hb;obtain⟨m,h1,g,q,k⟩:=ZiY a1 b1 O;rw[h1];exact⟨ZN.2 ⟨g,aO⟩,k⟩
theorem ZbA :∀ {last:aT},gH w (aH last)=true->(∀v∈l,gH w (aH v)=true)->(∀v∈ly last l,gH w (aH v)=true)/\Yh last (ly last l)=l:=by
 induction l with
 |nil=>intro last _ _;exact⟨λv g=>(by cases g),rfl⟩
 |cons v r ih=>intro last p h;have g:=h v fi;obtain⟨t,u⟩:=Zo3 g p;obtain⟨i1,q⟩:=ih (last:=v) g (λx k=>h x (gM _ k));refine⟨λx k=> ?_,?_⟩;rcases jA.1 k with rfl|k;exact t;grind;show bs (jp (aH (bs (jp (aH v) (aH last)).1)) (aH last)).1::Yh (bs (jp (aH (bs (jp (aH v) (aH last)).1)) (aH last)).1) (ly v r)=_;rw[Zm,u];simp only[Zc];rw[q]
theorem Zhh (h1:1<=w) (k:w<=128):gH w (mr w 48)=true:=by unfold mr;rw[Vae (by simp[nP,cd];omega)];refine ZN.2 ⟨Zp.2 ⟨λc g=> ?_,λh=> ?_,aO⟩,aO⟩;rw[List.eq_of_mem_replicate g];decide;have:=congrArg List.length h;grind
end Wv
namespace Wv
open Go Go.RowKit Go.Deep Go.ChangeShapes Go.WideShapes
variable{A:Wto}{cap fuel n:Nat}
theorem Gm {w:aq} {p:Addr} {v:aI} (h:w.cell? p=some v):p.block<w:=by rcases Nat.lt_or_ge p.block w.heap.size with h1|h1;exact O;have g:w.heap[p.block]? =none:=Array.getElem?_eq_none h1;simp[World.cell?,g] at h
section
variable {H:Type} {enc:TypeId×aI->H} {P:Program} {w:aq} {base:Nat} {spare:Nat->Bool} {held:Bool}
def mE (n:Int):Prop:= -9223372036854775808<=n/\n<=9223372036854775807
theorem Dw {n:Int} (h:(Lit.int .i64 n).wf=true):mE n:=bounds_i64 h
theorem Zgl {t e:TypeId} {x:DataW H×List MemPlace} (E:P.underlying t=some (.slice e)) (c0:P.cellsOf e=1) (M:P.underlying e=some .string)
  (h:DataW.trod enc P w base spare held fuel t [.slice A n cap]=some x):
  ∃l:a',At w A (l.map sv)/\(∀s∈l,s.size<=9223372036854775807)/\n=l/\n<=9223372036854775807:=by
 rcases open_slice1 E c0 h with ⟨h0,_⟩|⟨a,len,c,m,k,V,D,Pl,y,hb,S,F,a0,rfl,G⟩;exact I2;simp at y;obtain⟨rfl,rfl,rfl⟩:=y;have R:n<=m:=aO;have each:∀i,i<n->∃q:aT,q.size<=maxLen/\w.cell? (a.add i)=q:=by intro i hi;obtain⟨h1,z⟩:=G i O;obtain⟨q,r,_,a1⟩:=DataW.trod_string M z;grind
 obtain⟨q,p⟩:=choose_lt each;refine⟨(List.range n).map q,?_,?_,by simp,E2⟩;intro i hi;have Q:i<n:=aO;have u:=(p i Q).2;obtain⟨b,off,g⟩:=a;have I:g=none:=(by simpa [Addr.add] using World.cell?_spot (p 0 O).2);subst I;rw[add_plain] at u;refine⟨b,off,rfl,Gm u,?_⟩;simp only[uF,Ew,sv];exact u;intro c B;obtain⟨i,hi,rfl⟩:=Vbm.1 B;have:=(p i (List.mem_range.1 hi)).1;unfold maxLen at this;omega
def pv (l:List (Int×Int)):List aI:=l.flatMap λx=>[iv x.1,iv x.2]
theorem Q0 (l:List (Int×Int)):(pv l)=l.length*2:=by
 induction l with
 |nil=>rfl
 |cons c D ih=>rw[show pv (c::D)=[iv c.1,iv c.2]++pv D from rfl,Vab,ih,gd];exact fj
theorem Qm (l:List (Int×Int)) (x:Int×Int):pv (l++[x])=pv l++[iv x.1,iv x.2]:=by simp[pv]
theorem zf (D:List (Int×Int)):∀(i:Nat) (h:i<D),(pv D)[i*2]? =some (iv D[i].1)/\(pv D)[i*2+1]? =some (iv D[i].2):=by
 induction D with
 |nil=>exact aO
 |cons c D ih=>
  intro i h;have e:pv (c::D)=[iv c.1,iv c.2]++pv D:=rfl;match i,h with
  |0,_=>exact⟨rfl,rfl⟩
  |i+1,h=>have g:i<D:=aO;rw[e,pO aO,pO aO];have:=ih i g;rw[show(i+1)*2-[iv c.1,iv c.2].length=i*2 from by exact fj,show(i+1)*2+1-[iv c.1,iv c.2].length=i*2+1 from by exact fj];exact this
theorem Tl {t e i0:TypeId} {f0 f1:Field} {x:DataW H×List MemPlace} (b0:P.underlying t=some (.slice e)) (a9:P.underlying e=some (.struct #[f0,f1]))
  (a5:P.cellsOf e=2) (o:f0.offset=0/\f1.offset=1) (tt:f0.type=i0/\f1.type=i0) (c0:P.cellsOf i0=1) (S:P.underlying i0=some (.int .i64))
  (h:DataW.trod enc P w base spare held fuel t [.slice A n cap]=some x):
  ∃l:List (Int×Int),At w A (pv l)/\(∀c∈l,mE c.1/\mE c.2)/\n=l/\n<=9223372036854775807:=by
 obtain⟨b4,b5⟩:=o;obtain⟨t0,t1⟩:=tt;rcases open_slice b0 h with ⟨h0,_⟩|⟨a,len,c,m,k,D,Pl,E,hb,c5,F,c6,rfl,b1⟩;exact I2;simp at E;obtain⟨rfl,rfl,rfl⟩:=E;have b9:n<=m:=aO
 have each:∀i,i<n->∃q:Int×Int,(mE q.1/\mE q.2)/\w.cell? (a.add (i*2))=q.1/\w.cell? (a.add (i*2+1))=q.2:=by
  intro i hi;obtain⟨a3,h1,h2⟩:=b1 i O;rw[a5] at h1;obtain⟨_,g,B⟩:=World.cells?_some h1;obtain⟨xs,k',c4,b8,_,a6,Q⟩:=DataW.trod_struct a9 h2;match xs,a6,a3,g with
  |[c7,y1],_,[v0,v1],_=>have I:=Q 0 f0 rfl;have M:=Q 1 f1 rfl;simp[b4,t0,c0] at I;simp[b5,t1,c0] at M;obtain⟨a4,r0,_,b7⟩:=DataW.trod_int S I;obtain⟨a1,R,_,w1⟩:=DataW.trod_int S M;simp at r0 R;subst r0 R;have e0:=B 0 O;have a8:=B 1 O;rw[add_add] at e0 a8;exact⟨(a4,a1),⟨Dw b7,Dw w1⟩,aO,aO⟩
 have b2:Inhabited (Int×Int):=⟨(0,0)⟩;obtain⟨q,z⟩:=choose_lt each;refine⟨(List.range n).map q,?_,?_,by simp,E2⟩;intro i hi;rw[Q0] at hi;obtain⟨j,c3⟩:=ay (i/2);have a2:j<n:=(by simp at hi;omega);obtain⟨_,G,q1⟩:=z j a2;obtain⟨b,off,y⟩:=a;have b3:y=none:=PO;subst b3;rw[add_plain] at G q1;refine⟨b,off,rfl,Gm G,?_⟩;obtain⟨p,b6⟩:=zf ((List.range n).map q) j (by simpa using a2);have u:i=j*2\/i=j*2+1:=O;have key:∀v,(pv ((List.range n).map q))[i]? =some v->w.cell? ⟨b,off+i,none⟩=some v->w.cell? ⟨b,off+i,none⟩=some ((pv ((List.range n).map q))[i]'(by rw[Q0];exact hi)):=PP;rcases u with u|u;exact PY;refine key (iv (q j).2) ?_ (by rw[u];exact q1);rw[u];simpa using b6;grind
end
end Wv
namespace Wv
open Go.Lib (trailingZeros8)
variable{n:Nat}{s:aT}
def oo (s:aT):Option Nat:=
 if s.size=0 then none
 else if s.data.toList.getD (s.size-1) 0=0 then none
 else if 65536<8*s.size-1-trailingZeros8 (s.data.toList.getD (s.size-1) 0).toNat then none
 else some (8*s.size-1-trailingZeros8 (s.data.toList.getD (s.size-1) 0).toNat)
def zc (s:aT) (n:Nat):Prop:=n<8*s.size/\jG s n=true/\∀i,n<i->i<8*s.size->jG s i=false
theorem zc.unique {m:Nat} (h:zc s n) (k:zc s m):n=m:=by rcases Nat.lt_trichotomy n m with c|c|c;have:=h.2.2 m c k.1;rw[k.2.1] at this;cases this;exact O;have:=k.2.2 n c h.1;rw[h.2.1] at this;cases this
theorem VN:∀x:Fin 256,x.val≠0->trailingZeros8 x.val<8/\x.val.testBit (trailingZeros8 x.val)=true/\∀j:Fin 8,j.val<trailingZeros8 x.val->x.val.testBit j.val=false:=Aq
theorem a_ (s:aT) (h0:s.size≠0) (k:s.data.toList.getD (s.size-1) 0≠0):zc s (8*s.size-1-trailingZeros8 (s.data.toList.getD (s.size-1) 0).toNat):=by
 obtain⟨x,l⟩:=ay (s.data.toList.getD (s.size-1) 0);rw[l] at k⊢;have p:x.toNat≠0:=λh=>k (by have:=congrArg UInt8.ofNat h;simpa using this);obtain⟨h1,q,g⟩:=VN ⟨x.toNat,iq x⟩ p;simp only at h1 q g;have t:∀i,8*(s.size-1)<=i->i<8*s.size->jG s i=x.toNat.testBit (7-i % 8):=by intro i a b;rw[jG,show i/8=s.size-1 from by exact O,l]
 refine⟨O,?_,λi a b=> ?_⟩;exact aO;rw[t i O b];exact g ⟨7-i % 8,O⟩ aO
theorem MU (h:oo s=some n):n<=65536/\zc s n/\s.size<=8193:=by unfold oo at h;split at h;exact aO;rename_i h0;split at h;exact aO;rename_i h1;split at h;exact aO;rename_i h2;injection h with h;have:=a_ s h0 h1;rw[h] at this h2;refine⟨O,this,?_⟩;have h8:trailingZeros8 (s.data.toList.getD (s.size-1) 0).toNat<=8:=Go.Lib.trailingZeros8_le8 ⟨_,iq _⟩;omega
theorem Zpv (h:zc s n) (h0:s.size≠0) (g:s.data.toList.getD (s.size-1) 0≠0):oo s=if 65536<n then none else some n:=by have:=(a_ s h0 g).unique h;unfold oo;grind
theorem ZeL (h:s.size=0):oo s=none:=by unfold oo;grind
theorem ZeM (h:s.data.toList.getD (s.size-1) 0=0):oo s=none:=by unfold oo;grind
def rC (l:List Bool):aT:=⟨(ct (l++[true])).toArray⟩
theorem HO (l:List Bool):(rC l).size=l.length/8+1:=by show(ct (l++[true])).toArray.size=_;simp[pack_length];omega
theorem rbit_pack (l:List Bool) (i:Nat) (h:i<8*(ct l).length):jG ⟨(ct l).toArray⟩ i=l.getD i false:=by
 have h1:(ct l).toArray.toList.getD (i/8) 0=UInt8.ofNat (Y3 l (i/8)):=by simp only[List.getD,fb (show i/8<(ct l).length by omega),XE];rfl
 have g:(UInt8.ofNat (Y3 l (i/8))).toNat=Y3 l (i/8):=by have:=Xa l (i/8);simp[Nat.mod_eq_of_lt this]
 unfold jG;show((ct l).toArray.toList.getD (i/8) 0).toNat.testBit _=_;rw[h1,g];have p:Y3 l (i/8)/2 ^ (7-i % 8) % 2=bt l i:=by have e:∀k,bt l k<=1:=Zqx l;rw[Yy];have F:i % 8<8:=Nat.mod_lt _ O;have hi:i=8*(i/8)+i % 8:=(Nat.div_add_mod i 8).symm;generalize i/8=q at*;generalize i % 8=m at*;subst hi;have e0:=e (8*q);have t:=e (8*q+1);have u:=e (8*q+2);have y:=e (8*q+3);have z:=e (8*q+4);have B:=e (8*q+5);have D:=e (8*q+6);have E:=e (8*q+7);have:m=0\/m=1\/m=2\/m=3\/m=4\/m=5\/m=6\/m=7:=O;grind
 rw[Nat.testBit_eq_decide_div_mod_eq,p,bt];grind
theorem nrd_bstr (l:List Bool) (h:l.length<=65536):oo (rC l)=some l.length/\rbits (rC l) l.length=l:=by
 have u:=HO l;have q:(ct (l++[true]))=l.length/8+1:=(by rw[pack_length,Vab,pg];omega);have t:∀i,i<8*(l.length/8+1)->jG (rC l) i=(l++[true]).getD i false:=λi hi=>rbit_pack (l++[true]) i O;have g:zc (rC l) l.length:=by refine⟨O,?_,λi a b=> ?_⟩;exact aO;grind
 constructor;rw[Zpv g O ?_,Vae O];intro p;have h1:=g.2.1;unfold jG at h1;rw[show l.length/8=(rC l).size-1 from by exact O,p] at h1;simp at h1;apply Vco;rw[rM];intro i h1 k;have:=MV (rC l) l i k;grind
end Wv
namespace Go.Proofs.Y
open Wv Go.RowKit
variable{a:Int}{b:Nat}{w:aq}
theorem KL {j k:IntKind} {b g l:Int} (h:a=g) (p:b=l):Ending.returned (.tuple #[.int j a,.int k b])=.returned (.tuple #[.int j g,.int k l]):=by rw[h,p]
theorem F' {k:IntKind} {b:Int} (h:a=b):Ending.returned (.int k a)=.returned (.int k b):=rp
theorem Zpk {x n:Nat} {s:aT} (h:gA w b s x n) (p:Int) (h0:0<=p) (h1:p<=62):
  Calls prog 311 #[(b,0),p] w λe w'=>∃(v:Int) (u y:Nat),e=.returned (.tuple #[.int .i64 v,u])/\gA w' b s y n/\Fr (only b) w w'/\vc 0 p.toNat ((rbits s n).drop x) x v u y:=by
 have E:=h.2.1;have k:((rbits s n).drop x).length=n-x:=(by rw[iW,rM]);have g:rd 0 p.toNat ((rbits s n).drop x)=if n-x<p.toNat then(0,0,12) else(val (((rbits s n).drop x).take p.toNat),p.toNat,0):=by rw[<-k];rfl
 by_cases z:n-x<p.toNat;.rw[Vag z] at g;have H:=J (ZnM h p O);have l:=J (show ∀v y,vc 0 p.toNat ((rbits s n).drop x) x v 12 y from λv y=>⟨λ_=>by rw[g],λh=>by rw[g] at h;simp at h,λh=>by rw[g] at h;simp at h⟩);clear g;go_in;go_wp2_with (go_at_call 312;refine(H.o).mono ?_;rintro e w1 ⟨rfl,q,rfl⟩);go_ret2;exact⟨_,12,x,rfl,h,(Fr.refl _ _).drewN _,l.o _ _⟩
 rw[Vae z] at g;have t:=Zk7 h p.toNat O O;rw[Int.toNat_of_nonneg h0] at t;have H:=J t;have l:=J (show vc 0 p.toNat ((rbits s n).drop x) x (val (((rbits s n).drop x).take p.toNat):Nat) 0 (x+p.toNat) from⟨λh=>by rw[g] at h;simp at h,λ_ _=>by rw[g];exact⟨rfl,rfl,rfl⟩,λ_ h=>by have:=Rx ((rbits s n).drop x) p.toNat O;rw[g] at h;simp only at h;omega⟩);clear g t;go_in;go_wp2_with (go_at_call 312;refine(H.o).mono ?_;rintro e w1 ⟨rfl,D,B⟩);go_ret2;exact⟨_,0,_,rfl,D,B,l.o⟩
theorem Zkn {d0 k p:aI} {w1 t:aq} (f1:Fr (foot b d0) w w1) (q:Ck w d0 k) (u:Fr (foot b k) w1 t) (z:Ck w1 k p):
  Fr (foot b d0) w t/\Ck w d0 p:=by refine⟨f1.trans' u (λi hi y=> ?_),?_⟩;rcases y with h|h;exact .inl h;rcases q with h1|h1;exact .inr (h1▸h);have:=h1 i h;omega;rcases z with h|h;rcases q with h1|h1;exact .inl (h.trans h1);exact .inr (λg l=>h1 g (h▸l));exact .inr (λg l=>co f1.size (h g l))
theorem ZpO {a b:Bool} (h:a=b):Ending.returned a=.returned b:=rp
theorem Z6t {v:Int} (h:0<=v) (p:Nat):(v/2 ^ p==0)=decide (v<2 ^ p):=by obtain⟨n,rfl⟩:=Int.eq_ofNat_of_zero_le h;rw[V3,<-Int.natCast_ediv];have h1:=Nat.two_pow_pos p;have g:n/2 ^ p=0↔n<2 ^ p:=(by rw[Nat.div_eq_zero_iff];omega);rw[lN,beq_iff_eq,decide_eq_true_eq];omega
theorem ZmE (p v:Int) (h0:0<=p) (h1:p<=62) (y: -9223372036854775808<=v) (z:v<=9223372036854775807) (w:aq):
  Calls prog 308 #[p,v] w λe w'=>e=.returned (qK 0 p v)/\∃q,w'=w.drewN q:=by
 have k:uu 0 p=true:=(by simp[uu];omega);by_cases t:0<=v;.have g:qK 0 p v=decide (v<2 ^ p.toNat):=(by simp[qK,k,t]);have l:=J g;have u:=J (Z6t t p.toNat);clear g k;skip;go_in;go_wp2;go_ret;exact⟨ZpO (u.o.trans l.o.symm),0,rfl⟩
 have g:qK 0 p v=false:=(by simp[qK,k,t]);have l:=J g;clear g k;go_in;go_wp2;go_ret;exact⟨ZpO l.o.symm,0,rfl⟩
theorem Zpl (p v:Int) (h:qK 0 p v=true) (w:aq):
  Calls prog 309 #[p,v] w λe w'=>e=.returned (((qM 0 p.toNat v.toNat).length:Nat):Int)/\∃q,w'=w.drewN q:=by have g:=Kd h;have k:=J (show(qM 0 p.toNat v.toNat).length=p.toNat from by simp[qM,Z8]);have h0:0<=p:=O;clear g h;go_in;go_wp2;go_ret;exact⟨F' (by rw[k.o];omega),0,rfl⟩
theorem ZmF {dv:aI} {l:List Bool} (D:ld w b dv l) (p v:Int) (h:qK 0 p v=true) (G:l.length<=65536):
  Calls prog 310 #[(b,0),p,v] w λe w'=>e=.returned (.tuple #[])/\∃k,ld w' b k (l++qM 0 p.toNat v.toNat)/\Fr (foot b dv) w w'/\Ck w dv k:=by have g:=Kd h;obtain⟨F,g⟩:=g;obtain⟨h0,h1,y⟩:0<=p/\p<=62/\v<2 ^ p.toNat:=O;have z:=ZqQ p.toNat O;have B:=V3 p.toNat;have H:=J (t_ D p v h0 O F O O);clear g h y z B;go_in;go_wp2_with (go_at_call 290;refine(H.o).mono ?_;rintro e w1 ⟨rfl,t,u,q,E⟩);go_end0;exact⟨rfl,t,u,q,E⟩
