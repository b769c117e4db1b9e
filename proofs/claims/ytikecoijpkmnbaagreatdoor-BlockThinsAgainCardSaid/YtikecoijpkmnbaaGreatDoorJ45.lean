import Derived.Test.YtikecoijpkmnbaaGreatDoorJ42
import Derived.Test.YtikecoijpkmnbaaGreatDoorJ43
set_option linter.all false
set_option maxRecDepth 100000
set_option maxHeartbeats 0
theorem Co{P:Prop}(h:P:=by rcases e with e|e<;>omega):P:=h
theorem Pn{P:Prop}(h:P:=by rw[BitVec.ofInt_natCast,BitVec.toNat_ofNat];exact Nat.mod_eq_of_lt (by omega)):P:=h
namespace Go.Proofs.Y
open Tryz Wv Go.RowKit
section
variable{V:aI}{st:List (Int×Int)}{w w' w0 w1:aq}
theorem dG.at_ {I:aq->ca->(Nat->Prop)->Prop} {T:Nat->Prop} {g:ca} {A:Wto} {vs:List aI} (h:dG I w T g w1) (l:At w A vs) (k:∀b o,A=some ⟨b,o,none⟩->¬T b):At w1 A vs:=by obtain⟨p,i,f,t⟩:=h;exact l.keep f k
theorem dG.more {I:aq->ca->(Nat->Prop)->Prop} {p:aq} {T g l:Nat->Prop} {q:ca} (f1:Fr T w w1) (t1:∀k,g k->T k\/w.heap.size<=k) (y:I p q l) (t:Fr g w1 p) (z:∀k,l k->g k\/w1.heap.size<=k):dG I w T q p:=by refine⟨l,y,f1.trans' t (λj B e=> ?_),λk u=> ?_⟩;rcases t1 j e with h|h;exact h;omega;rcases z k u with h|h;exact t1 k h;exact .inr (co f1.size h)
theorem dG.size {I:aq->ca->(Nat->Prop)->Prop} {T:Nat->Prop} {D:ca} (h:dG I w T D w1):w<=w1.heap.size:=by obtain⟨_,_,f,_⟩:=h;exact f.size
def M0 (I:aq->ca->(Nat->Prop)->Prop) (w:aq) (T:Nat->Prop) (r:(List dO×Nat)×ca) (x:Ending) (w':aq):Prop:=
 ∃v,x=.returned (.tuple #[v,r.1.2])/\qv w w' v r.1.1/\dG I w T r.2 w'
def Io (I:aq->ca->(Nat->Prop)->Prop) (w:aq) (T:Nat->Prop) (D:ca) (v:aI) (l:List dO) (w':aq):Prop:=
 ∃Y g,qv Y w' v l/\w.heap.size<=Y/\I w' D g/\Fr T w w'/\(∀k,g k->T k\/w.heap.size<=k)/\∀k,g k->k<Y
theorem dG.nil_ {I:aq->ca->(Nat->Prop)->Prop} (R:oY w0 V I) {T:Nat->Prop} {D:ca} (h:dG I w T D w'):Io I w T D (.slice none 0 0) [] w':=by obtain⟨g,i,f,t⟩:=h;exact⟨_,g,qv.nil _ _,f.size,i,f,t,R.lt i⟩
theorem dG.some_ {I:aq->ca->(Nat->Prop)->Prop} (R:oY w0 V I) {g k:aq} {T:Nat->Prop} {D:ca} {v:aI} {l:List dO} (h:dG I w T D g) (hb:Below g g k) (q:qv g k v l):Io I w T D v l k:=by obtain⟨p,i,f,t⟩:=h;exact⟨_,p,q,f.size,R.fr i (Fr.of_below hb),f.below hb,t,R.lt i⟩
def Ij (I:aq->ca->(Nat->Prop)->Prop) (w:aq) (T:Nat->Prop) (r:(List dO×Nat)×ca) (x:Ending) (w':aq):Prop:=
 ∃v,x=.returned (.tuple #[v,r.1.2])/\Io I w T r.2 v r.1.1 w'
theorem Ij.r {I:aq->ca->(Nat->Prop)->Prop} {T:Nat->Prop} {r:(List dO×Nat)×ca} {x:Ending} (h:Ij I w T r x w'):M0 I w T r x w':=by obtain⟨v,hx,Y,T',⟨A,k,p,g,l⟩,q,i,f,t,_⟩:=h;exact⟨v,hx,⟨A,k,p,g,λb o e=>co q (l b o e)⟩,T',i,f,t⟩
theorem MJ {I:aq->ca->(Nat->Prop)->Prop} (R:oY w0 V I) {T:Nat->Prop} {g:ca} (h:dG I w T g w1) (c1:g.calls<=1000) (c2:g.parts.length<=1000) (o l:Int):
  cK 27 #[V,.agg #[o,l]] w1 λx w'=>x=.returned (jH (dr g (o,l)).1)/\dG I w T (dr g (o,l)).2 w':=by obtain⟨t,i1,f1,t1⟩:=h;refine(R.rdF i1 c1 c2 o l).mono ?_;rintro x w' ⟨rfl,u,p,k,q⟩;exact⟨rfl,dG.more f1 t1 p k q⟩
theorem Z1B {h:Hd} (k:gV st h=true):fN st=true/\h.quiet=st.length/\h.strs=st.length:=by unfold gV at k;simp only[gm,Vax,and_assoc] at k;exact k
theorem ZhR {D:ca} {h:Hd} {i:Nat} (k:gV st h=true) (hi:i<st) (h0:h.lv=0):
  iN st D h (i:Int)=if h.quiet.getD i false=true then(([],0),D)
   else if(gE st D h).1.2≠0 then(([],(gE st D h).1.2),(gE st D h).2) else um st (gE st D h).2 h i (jU (gE st D h).1.1 i):=by unfold iN;rw[Vae (by rw[k];decide),Vae O,ep,h0,Ys];simp
theorem ZgV {D:ca} {h:Hd} (h0:(gE st D h).1.2=0):∀v∈(gE st D h).1.1,v.size<=1099511627776:=by
 unfold gE at h0⊢;split;.rename_i hf;rw[Vag hf] at h0;cases h0
 rename_i hf;rw[Vae hf] at h0;split;.rename_i he;rw[Vag he] at h0;exact absurd h0 he
 rename_i he;rw[Vae he] at h0;split;.rename_i hd;rw[Vag hd] at h0;cases h0
 rename_i hd;have hd':(kD Z3 st (dr D (h.off,(h.sn:Int))).1.1).2=0:=O;have hk:=(Mu (dv:=Z3) (Prod.ext rfl hd':kD Z3 st (dr D (h.off,(h.sn:Int))).1.1=((kD Z3 st (dr D (h.off,(h.sn:Int))).1.1).1,0))).2;intro v hv;simp only at hv;obtain⟨q1,q2,q3⟩:=yX hk;obtain⟨m,hm,rfl⟩:=List.getElem_of_mem hv;unfold hQ at hk;rw[gm] at hk;have:=Gc (Dh Z3 hk.2 m O hm);rw[Z2] at this;omega
theorem Zqh {D:ca} {h:Hd} :(gE st D h).2.s<=D.s.length/\(gE st D h).2.calls<=D.calls+1/\(gE st D h).2.parts<=D.parts.length+1/\((gE st D h).1.2=0->gV st h=true->fN st=true->(gE st D h).1.1.length=st):=by
 have k:=zl D (h.off,(h.sn:Int));unfold gE;split;.rename_i hf;exact⟨aU,dz,dz,λ_ h=>by rw[hf] at h;cases h⟩
 split;.rename_i he;exact⟨by rw[k.1];exact aU,k.2.2.2.2.2.1,k.2.2.2.2.1,λh=>absurd h he⟩
 split;exact⟨by rw[k.1];exact aU,k.2.2.2.2.2.1,k.2.2.2.2.1,λh=>po⟩;rename_i h0;refine⟨by rw[k.1];exact aU,k.2.2.2.2.2.1,k.2.2.2.2.1,λ_ _ ty=> ?_⟩;have Oz:(kD Z3 st (dr D (h.off,(h.sn:Int))).1.1).2=0:=O;exact snD_len (dv:=Z3) (Prod.ext rfl Oz)
theorem Zpy (a b:Nat) (k:a<256) (hb:b<256):Go.bits .or .i64 ((a:Int)*256) (b:Int)=((a*256+b:Nat):Int):=by have h:=Nat.shiftLeft_add_eq_or_of_lt (b:=b) (i:=8) O a;rw[Nat.shiftLeft_eq] at h;have e:(a:Int)*256=((a*2 ^ 8:Nat):Int):=O;have h1:(BitVec.ofInt 64 ((a*2 ^ 8:Nat):Int)).toNat=a*2 ^ 8:=Pn;have g:(BitVec.ofInt 64 (b:Int)).toNat=b:=Pn;rw[e];show Go.IntKind.i64.wrap ((BitVec.ofInt 64 ((a*2 ^ 8:Nat):Int)|||BitVec.ofInt 64 (b:Int)).toNat:Int)=_;rw[BitVec.toNat_or,h1,g,<-h,Go.IntKind.wrap_i64];omega
theorem ZgM {s:ax} (k:s.length=2):∃g b8:Nat,g<256/\b8<256/\ew s=g*256+b8/\(∀h:0<(bs s).size,((bs s)[0]'h).toNat=g)/\(∀h:1<(bs s).size,((bs s)[1]'h).toNat=b8)/\(bs s).size=2:=by
 match s,k with
 |[a,b],_=>refine⟨a.toNat,b.toNat,a.toNat_lt,b.toNat_lt,?_,λ_=>rfl,λ_=>rfl,rfl⟩;unfold ew;simp
theorem Dp {I:aq->ca->(Nat->Prop)->Prop} {T:Nat->Prop} {g:ca} {e:Nat} (h:dG I w T g w'):M2 I w T ((none,e),g) (.returned (.tuple #[.agg hdZ,e])) w':=⟨h,rfl⟩
theorem Ze2 {data c:ax} {k n:Nat} (h:ZI data=some (k,c,n)):c.length<=4096:=by have h1:=(XU h).1;have g:=X7 (k:=k) (c:=c);rw[h1] at g;exact of_decide_eq_true g.symm
theorem gZ.fr {h:Hd} {AQ AG l:Wto} {B:Nat} {S:Nat->Prop} (k:gZ w h AQ AG l) (t:Fr S w w') (g:uB B AQ AG l) (p:∀k,S k->k<B):gZ w' h AQ AG l:=
 ⟨k.q.keep t (λb o e hb=>by have:=p b hb;have:=g b o (.inl e);omega),k.g.keep t (λb o e hb=>by have:=p b hb;have:=g b o (.inr (.inl e));omega),k.s.keep t (λb o e hb=>by have:=p b hb;have:=g b o (.inr (.inr e));omega)⟩
end
variable{W:aq}{q r:Nat}{v0 v1 v2 v3 v4:aI}
abbrev MO (d:aT):aI:=.iface 72 (.string d)
abbrev byI (w:aq) (d:aT):aq->ca->(Nat->Prop)->Prop:=λW D T=>D.s=aH d/\qn D/\T=nob/\Below w w W
theorem QW (w:aq) (d:aT):byI w d w (fK (aH d)) nob:=⟨rfl,⟨Int.le_refl _,rfl⟩,rfl,bf _ _⟩
theorem LZ {w w':aq} {d:aT} {D:ca} (h:dG (byI w d) w nob D w'):Below w w w':=by obtain⟨g,i,f,t⟩:=h;exact f.toBelow
variable {w:aq} {A:Wto} {st:List (Int×Int)} {d:aT}
abbrev rG:Array aI:= #[.int .i64 0,.int .i64 0,.slice none 0 0,.slice none 0 0,.slice none 0 0]
abbrev Bo (W:aq) (r:Nat) (v0 v1 v2 v3 v4:aI):aq:=((((W.setCell ⟨r,0,none⟩ v0).setCell ⟨r,1,none⟩ v1).setCell ⟨r,2,none⟩ v2).setCell ⟨r,3,none⟩ v3).setCell ⟨r,4,none⟩ v4
theorem ZoN (h:Bk W r 27 rG) (v0 v1 v2 v3 v4:aI):
  Bk (Bo W r v0 v1 v2 v3 v4) r 27 #[v0,v1,v2,v3,v4]/\Fr (only r) W (Bo W r v0 v1 v2 v3 v4):=by refine⟨by simpa using ((((h.put 0 v0).put 1 v1).put 2 v2).put 3 v3).put 4 v4,?_⟩;exact(((((Fr.refl (only r) W).setCell (p:=⟨r,0,none⟩) (.inl rfl) v0).setCell (p:=⟨r,1,none⟩) (.inl rfl) v1).setCell (p:=⟨r,2,none⟩) (.inl rfl) v2).setCell (p:=⟨r,3,none⟩) (.inl rfl) v3).setCell (p:=⟨r,4,none⟩) (.inl rfl) v4
theorem ZC (k:Bk W r 27 #[v0,v1,v2,v3,v4]):
  W.cell? (r,0)=some v0/\W.cell? (r,1)=some v1/\W.cell? (r,2)=some v2/\W.cell? (r,3)=some v3/\W.cell? (r,4)=some v4:=⟨k.cell 0,k.cell 1,k.cell 2,k.cell 3,k.cell 4⟩
theorem Hv (k:Bk W r 27 #[v0,v1,v2,v3,v4]):
  W.frozen? (r,0)=false/\W.frozen? (r,1)=false/\W.frozen? (r,2)=false/\W.frozen? (r,3)=false/\W.frozen? (r,4)=false:=⟨k.frozen 0,k.frozen 1,k.frozen 2,k.frozen 3,k.frozen 4⟩
theorem Hw (h:Bk W r 44 hdZ) (k:Bk W q 27 rG) (B:r≠q) (v0 v1 v2 v3 v4 g l p t c0 c1 c2 u y:aI):
  Bk (Xu W r v0 v1 v2 v3 v4 g l p t) q 27 rG/\Bk (Bo (Xu W r v0 v1 v2 v3 v4 g l p t) q c0 c1 c2 u y) r 44 #[v0,v1,v2,v3,v4,g,l,p,t]/\Bk (Bo (Xu W r v0 v1 v2 v3 v4 g l p t) q c0 c1 c2 u y) q 27 #[c0,c1,c2,u,y]/\
  Fr (λk=>k=r\/k=q) W (Bo (Xu W r v0 v1 v2 v3 v4 g l p t) q c0 c1 c2 u y):=by obtain⟨h1,z⟩:=Xe h v0 v1 v2 v3 v4 g l p t;have k1:=k.fr z (λe=>B (show q=r from e).symm);obtain⟨k2,k3⟩:=ZoN k1 c0 c1 c2 u y;exact⟨k1,h1.fr k3 (λe=>B (show r=q from e)),k2,(z.mono (λ_ e=>.inl e)).trans' k3 (λ_ _ e=>.inr e)⟩
theorem F9 {w W':aq} (hb:Below w w W) (h1:w<=r) (l:w<=q) (g:Fr (λk=>k=r\/k=q) W W'):Below w w W':=
 hb.trans (g.toBelow' hb.size (λk p e=>Co))
structure xi (Wb:World) (K:Nat) (f t:Int) (V G:Value) (A:Option Addr) (M C:Nat) (L:List (List dO)) (xs:List Value) (w:World):Prop where
 own:w.ownsRow Wb.heap.size 50 1 (.slice A M C) L.length xs
 vl:pm w xs L
 ap:∀(i:Nat) (hi:i<L.length),L[i]≠[]->∀(B:Option Addr) (n c:Nat),xs[i]? =some (Value.slice B n c)->∀b o,B=some ⟨b,o,none⟩->(Value.slice A M C).ownBlock≠some b/\Wb.heap.size<=b
 bk:Bk w K 27 #[f,t,V,.slice A M C,G]
 bel:Below K Wb w
 base:K<Wb.heap.size
section
variable {Wb w w':aq} {K:Nat} {f t:Int} {V G:aI} {A:Wto} {M C:Nat} {L:List (List dO)} {xs:List aI}
theorem xi.below (h:xi Wb K f t V G A M C L xs w) (hb:Below w w w'):xi Wb K f t V G A M C L xs w':=
 ⟨Z6 h.own (Fr.of_below (S:=nob) hb) (λ_ _ k=>k),h.vl.below hb,h.ap,h.bk.below hb h.bk.lt,h.bel.trans (hb.mono (by have:=h.base;have:=h.bel.size;omega)),h.base⟩
theorem ZlT:(prog.info? 50).map (λi=>(i.zero,i.size,i.bytes))=some (some (.slice none 0 0),1,24):=dw
theorem xi.app (h:xi Wb K f t V G A M C L xs w) {B:Wto} {l:List dO} (a0:At w B (cv l)) (cap:Nat) (S:∀b o,B=some ⟨b,o,none⟩->Wb.heap.size<=b/\(Value.slice A M C).ownBlock≠some b) (a9:L.length<=1000):
  ∃A2 z y W,(Builtin.append_ #[24,24] 24 #[(A,M,C),.slice (some (w,0)) 1 1]).run prog (w.alloc (.cells #[(B,l.length,cap)] 50))=.ok (.slice A2 z y) W/\(W.cell? (K,3)=some (.slice A M C)/\W.frozen? (K,3)=false/\K<W.heap.size)/\
   xi Wb K f t V G A2 z y (L++[l]) (xs++[.slice B l cap]) (W.setCell (K,3) (.slice A2 z y)):=by
 obtain⟨b1,W,a4,R,I,a5⟩:=CU (P:=prog) 24 50 _ _ 1 underlying24 ZlT rfl aY h.own h.bel.size [.slice B l cap] rfl sX fU O;obtain⟨A2,z,y,rfl⟩:=Z7 R;have F:=h.bk.fr I (λk=>Z1 h.own h.bk aY k);have b0:=h.bel.size;have hb:=h.base;have a6:pm W (xs++[.slice B l cap]) (L++[l]):=(h.vl.keep I (λi hi h0 g n c e b o u k=>(h.ap i hi h0 g n c e b o u).1 k)).snoc cap (a0.keep I (λb o e k=>(S b o e).2 k));have key:∀(i:Nat) (hi:i<(L++[l]).length),(L++[l])[i]≠[]->∀(g:Wto) (n c:Nat),(xs++[Value.slice B l cap])[i]? =some (Value.slice g n c)->∀b o,g=some ⟨b,o,none⟩->(Value.slice A M C).ownBlock≠some b/\Wb.heap.size<=b/\b<w.heap.size:=by intro i hi h0 g n c e b o u;rw[Vab,pg] at hi;rcases Nat.lt_or_ge i L.length with h1|h1;rw[IF h1] at h0;rw[List.getElem?_append_left (by rw[h.vl.1];exact h1)] at e;obtain⟨a7,c2,D,a2⟩:=h.vl.2 i h1;rw[e] at D;injection D with D;injection D with D;have q:=h.ap i h1 h0 g n c e b o u;exact⟨q.1,q.2,Zoo a2 h0 b o (by rw[<-D];exact u)⟩;have a3:i=L.length:=O;subst a3;rw[pO (by rw[h.vl.1];exact aU),h.vl.1,fh] at e;simp only[List.getElem?_cons_zero,Option.some.injEq,Value.slice.injEq] at e;have a1:l≠[]:=(by simpa using h0);have q:=S b o (by rw[e.1];exact u);exact⟨q.2,q.1,Zoo a0 a1 b o (by rw[e.1];exact u)⟩
 refine⟨A2,z,y,W,a4,⟨F.cell 3,F.frozen 3,F.lt⟩,?_⟩;have E:=(Fr.refl (only K) W).setCell (p:=⟨K,3,none⟩) (.inl rfl) (.slice A2 z y);refine⟨by rw[Vab];exact Zq R (Z1 R F aY) _,a6.keep E (λi hi h0 g n c e b o u k=>by have k:b=K:=k;have:=(key i hi h0 g n c e b o u).2.1;omega),λi hi h0 g n c e b o u=> ?_,by simpa using F.put 3 (.slice A2 z y),h.bel.trans (((I.mono (T:=λk=>(Value.slice A M C).ownBlock=some k\/k=K) (λ_ k=>.inl k)).trans' E (λ_ _ k=>.inr k)).toBelow' O (λk a8 e=> ?_)),h.base⟩;obtain⟨q1,q2,q3⟩:=key i hi h0 g n c e b o u;refine⟨λk=> ?_,q2⟩;rcases a5 with Q|Q;rw[Q] at k;exact q1 k;rw[Q] at k;injection k with k;omega;rcases e with e|e;have:=(h.own.lt k e).1;omega;omega
end
theorem RU {s:aT} (j:Nat):(hdZ:Array aI)[j]? ≠some (.string s)/\(rG:Array aI)[j]? ≠some (.string s):=by constructor;intro h;obtain⟨g,h⟩:=Array.getElem?_eq_some_iff.1 h;have g:j<9:=g;rcases(show j=0\/j=1\/j=2\/j=3\/j=4\/j=5\/j=6\/j=7\/j=8 by omega) with rfl|rfl|rfl|rfl|rfl|rfl|rfl|rfl|rfl<;>cases h;intro h;obtain⟨g,h⟩:=Array.getElem?_eq_some_iff.1 h;have g:j<5:=g;rcases(show j=0\/j=1\/j=2\/j=3\/j=4 by omega) with rfl|rfl|rfl|rfl|rfl<;>cases h
theorem Zln {w w':aq} {A:Wto} {vs:a'} (h:At w A (eN vs)) (t:Fr (λk=>k=r\/k=q) w w') (u:Bk w r 44 hdZ) (y:Bk w q 27 rG):At w' A (eN vs):=by rcases vs with _|⟨v,D⟩;exact At.nil _ _;refine h.keep t (λb o e k=> ?_);obtain⟨z,B,g,_,c⟩:=h 0 (by simp[eN]);rw[e] at g;injection g with g;injection g with l p;subst l;subst p;have c:w.cell? (b,o+0)=v:=c;rcases k with k|k;subst k;rw[u.cell] at c;exact(RU _).1 c;subst k;rw[y.cell] at c;exact(RU _).2 c
theorem Zkj {st:List (Int×Int)} {data:ax} {h:Hd} {v:a'} (u:iR st data=some h) (h0:h.lv=0) (k:hP st data h=some v) {n:Nat} (F:n=st) (q:∀i,i<n->(eM st data h i).2=0):wJ ⟨h.f,h.t,v,qT st data h n,h.gaps⟩:=by obtain⟨_,_,_,_,_,_,B,_,f1,D,E,p,_⟩:=C0 u;obtain⟨v1,v2⟩:=Kc k;refine⟨⟨dz,dz⟩,⟨dz,dz⟩,dz,by simp only[GK];omega,dz,λs y=>by have:=v2 s y;omega,λl g=> ?_⟩;simp only[qT] at g;obtain⟨i,hi,rfl⟩:=Vbm.1 g;obtain⟨c1,c2⟩:=ZhT h0 k (q i (List.mem_range.1 hi));exact⟨O,λx z=>by have:=c2 x z;omega⟩
