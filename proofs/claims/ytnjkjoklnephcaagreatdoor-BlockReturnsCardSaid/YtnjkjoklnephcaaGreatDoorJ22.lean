import Derived.Test.YtnjkjoklnephcaaGreatDoorJ18
set_option linter.all false
set_option maxRecDepth 100000
set_option maxHeartbeats 0
theorem Fb{P:Prop}(h:P:=by have:=l.o;have:=k.o;omega):P:=h
theorem EX{P:Prop}(h:P:=by go_wp2;go_returns;exact⟨rfl,D.o⟩):P:=h
theorem NN{P:Prop}(h:P:=by go_in;go_wp21;refine aO B.o λw1 ⟨h1,z⟩=>?_;go_wp21;refine aO (I.o _ _ h1) λw2 ⟨h2,an⟩=>?_;have g:=J (Zf h2);have aa:=ZQ z aW an;go_wp21;refine cq g.o ?_;go_wp2;go_returns;exact⟨rfl,aa⟩):P:=h
theorem NY{P:Prop}(h:P:=by generalize bs data=S at*;generalize bs s=F at*;generalize bs t=TT at*;generalize bs ([]:ax)=E0 at*;go_in;go_wp21;refine aO B.o λw1 ⟨h1,z⟩=>?_;go_wp21;refine aO (I.o _ _ h1) λw2 ⟨h2,an⟩=>?_;have g:=J (Zf h2);have aa:=ZQ z aW an;go_wp21;refine cq g.o ?_;go_wp21;refine cq (p.o _ _ h2) ?_;go_wp21;refine aO (l.o _ _ h2) λw3 ⟨a7,b4⟩=>?_;have y:=ZQ aa aW b4;go_wp21;refine aO (k.o _) λb0 u=>?_;have hb:=y.trans (u.mono y.size);go_wp21;refine aO (E.o _) λa6 Q=>?_;have D:=J (hb.trans (Q.mono hb.size));go_wp2;go_returns;exact⟨rfl,D.o⟩):P:=h
namespace Go.Proofs.Y
open Tryz Wv Go.RowKit
variable{B M T bb cb i ib j k n q sb:Nat}{l:List (Nat×Nat)}{v:aJ}{w w':au}{xs:List aJ}
def Lq (q:Nat) (g:Option St) (tb:List St):List St:=List.replicate q dP++g.getD dP::tb
theorem Zol (q:Nat) (g:Option St) (tb:List St):(Lq q g tb)=q+tb.length+1:=by unfold Lq;rw[bT,iK,f'];omega
theorem Zqy (q:Nat) (g:Option St) (tb:List St):(Lq q g tb).getD q dP=g.getD dP:=by unfold Lq;rw[qA,pR (by simp),iK,fv];rfl
theorem Zok (q:Nat) (g:Option St) (tb:List St) (h:1<=k):(Lq q g tb).getD (q+k) dP=tb.getD (k-1) dP:=by unfold Lq;rw[qA,pR (by simp),iK,Nat.add_sub_cancel_left];obtain⟨j,rfl⟩:∃j,k=j+1:=⟨k-1,O⟩;rw[List.getElem?_cons_succ,vO,qA]
theorem Zon (q:Nat) (g:Option St) (tb:List St) (x:St):(Lq q g tb).set q x=Lq q (some x) tb:=by unfold Lq;rw[nz _ _ (by simp),iK,fv];rfl
theorem ZnY (q:Nat) (g:Option St) (tb:List St) (t:Pc) (h:1<=t.len):(if(!g.isSome||D4 (zP (Lq q g tb) q t) ((Lq q g tb).getD q dP))=true then(Lq q g tb).set q (zP (Lq q g tb) q t) else Lq q g tb)=Lq q (kV tb g t) tb:=by have k:zP (Lq q g tb) q t=zL tb t:=(by unfold zP zL;rw[Zok q g tb h]);rw[k,Zqy,Zon];unfold kV;rcases g with _|c;rfl;simp only[Option.isSome_some,Bool.not_true,Bool.false_or,Option.getD_some];split<;>rfl
theorem Zom {g:Option St} {tb:List St} (l:∀x∈tb,x.cost<=M/\x.pcs<=M) (p:∀x,g=some x->x.cost<=M/\x.pcs<=M):∀x∈Lq q g tb,x.cost<=M/\x.pcs<=M:=by intro x k;unfold Lq at k;rcases kY.1 k with h|h;rw[List.eq_of_mem_replicate h];exact⟨cf _,cf _⟩;rcases jx.1 h with h|h;rcases g with _|c;rw[h];exact⟨cf _,cf _⟩;rw[h];exact p c rfl;exact l x h
theorem ZeE {g:Option St} {tb:List St} (h:mm w T bb ib cb sb (Lq q g tb) q g.isSome) (E:q+tb.length=n) (Q:n<=4096) (p:∀x∈tb,x.cost<=M/\x.pcs<=M) (G:M<=160000) (y:∀x,g=some x->x.cost<=M+38/\x.pcs<=M+38) (t:Pc) (h1:1<=t.len) (F:q+t.len<=n) (u:t.dist<=4096):
  dt 204 #[.agg (qY t),(bb,0),(ib,0),(cb,0),(sb,0)] w λx w'=>x=.returned (.tuple #[])/\mm w' T bb ib cb sb (Lq q (kV tb g t) tb) q (kV tb g t).isSome/\(∀x,kV tb g t=some x->x.cost<=M+38/\x.pcs<=M+38)/\Fr (λk=>k=T\/k=sb) w w':=by have I:=Zol q g tb;have Zpl:(kV tb g t).isSome=true:=(by obtain⟨x,l⟩:=Gm tb g t;rw[l];rfl);have D:=Zom (q:=q) (M:=M+38) (λx l=>by have:=p x l;omega) y;refine(Zj8 h O (λx l=>by have:=D x l;omega) t O u h1 O).mono ?_;rintro x w' ⟨rfl,z,B⟩;rw[ZnY q g tb t h1] at z;rw[Zpl];exact⟨rfl,z,X_ p y (Gs u O),B⟩
theorem ZnJ:(prog.info? 282).map (λi=>(i.zero,i.size,i.bytes))=some (some (.agg #[(0:Int),(0:Int),(0:Int),(0:Int),.int .u8 0]),5,40):=dE
theorem ZbC (n:Nat):madeCells #[(0:Int),(0:Int),(0:Int),(0:Int),.int .u8 0] (n*5)=ou (List.replicate n dP):=by
 apply Array.ext_getElem?;intro i;unfold madeCells;rcases Nat.lt_or_ge i (n*5) with h|h
 .have g:i/5<(List.replicate n dP).length:=(by rw[iK];omega);obtain⟨a,b,c,d,e⟩:=LS (List.replicate n dP) (i/5) g;have k:(List.replicate n dP).getD (i/5) dP=dP:=by rw[qA,fD g,Nl];rfl
  rw[k] at a b c d e;have hi:i=i/5*5+i % 5:=O;rw[Array.getElem?_map,Array.getElem?_range];rw[aP h];rcases(show i % 5=0\/i % 5=1\/i % 5=2\/i % 5=3\/i % 5=4 by omega) with r|r|r|r|r
  all_goals
   rw[r] at hi;simp only[Cl,Array.size,List.size_toArray,f',vQ,Nat.reduceAdd,r]
  .rw[hi,tW,a];rfl
  .rw[hi,b];rfl
  .rw[hi,c];rfl
  .rw[hi,d];rfl
  rw[hi,e];rfl
 have h1:(ou (List.replicate n dP)).size<=i:=by unfold ou;simp only[List.size_toArray,List.length_flatMap,List.map_replicate,List.sum_replicate_nat];have:(BK dP).length=5:=rfl;rw[this];exact h
 rw[Array.getElem?_eq_none h1,Array.getElem?_map,Array.getElem?_range,az O];rfl
theorem Zjd (n:Nat) (q:n<=5000) (w:au):(Instr.makeSlice 280 n n).run prog w=.ok (.slice (some (w,0)) n n) (w.alloc (.cells (ou (List.replicate n dP)) 282)):=by obtain⟨i,hi,p,l,g⟩:=info_parts ZnJ;have k:=run_make (P:=prog) w 280 282 i _ underlying280 hi p .i64 .i64 (n:Int) (n:Int) O O (by rw[g];omega) O;rw[k,ek,l,<-ZbC];rfl
theorem Wr (w:au):Calls prog 203 #[(4096:Int)] w λx w'=>x=.returned true/\w=w':=xh
theorem TD (w:au):Calls prog 202 #[uk] w (bN w true):=by
 have g:=J (Bk.newN (w.alloc (.cells #[(9:Int),(12:Int),(1:Int),(1:Int)] 236)) 3 #[(9:Int),(12:Int),(1:Int),(1:Int)] (n:=w.heap.size+1) (by simp));have hb:=J (((bi w w).alloc aW (.cells #[(9:Int),(12:Int),(1:Int),(1:Int)] 236)).alloc (by simp) (.cells #[(9:Int),(12:Int),(1:Int),(1:Int)] 3));unfold uk;go_in;go_wp2;generalize (w.alloc (.cells #[(9:Int),(12:Int),(1:Int),(1:Int)] 236)).alloc (.cells #[(9:Int),(12:Int),(1:Int),(1:Int)] 3)=W0 at*;go_loopw [15] (λl wr=>∃k:Nat,k<=4/\l=k/\wr=W0) (λl _=>(4-intOf l).toNat);exact⟨0,O,rfl,rfl⟩;obtain⟨k,q,rfl,rfl⟩:=hrel;have c0:=g.o.cell 0;have c1:=g.o.cell 1;have c2:=g.o.cell 2;have p:=g.o.cell 3;simp at c0 c1 c2 p;rcases(show k=0\/k=1\/k=2\/k=3\/k=4 by omega) with rfl|rfl|rfl|rfl|rfl;.go_wp2;refine⟨⟨1,O,rfl,mL⟩,?_⟩;simp[intOf]
 .go_wp2;refine⟨⟨2,O,rfl,mL⟩,?_⟩;simp[intOf]
 .go_wp2;refine⟨⟨3,O,rfl,mL⟩,?_⟩;simp[intOf]
 .go_wp2;refine⟨⟨4,O,rfl,mL⟩,?_⟩;simp[intOf]
 go_wp2;go_returns;exact⟨rfl,hb.o⟩
def pcL (t:Pc):List aJ:=[.int .i64 (t.len:Int),.int .i64 (t.dist:Int),.int .u8 (t.byte.toNat:Int)]
def qp (l:List Pc):List aJ:=l.flatMap pcL
structure wS (w:World) (T bb ib cb:Nat) (L:List St) (iv:Int):Prop where
 tb:Bk w T 282 (ou L)
 best:Bk w bb 280 #[.slice (some ⟨T,0,none⟩) L.length L.length]
 i:Bk w ib 3 #[iv]
 c:Bk w cb 236 #[(9:Int),(12:Int),(1:Int),(1:Int)]
theorem wS.below {L:List St} {iv:Int} (h:wS w T bb ib cb L iv) (hb:Below w w w'):wS w' T bb ib cb L iv:=
 ⟨h.tb.below hb h.tb.lt,h.best.below hb h.best.lt,h.i.below hb h.i.lt,h.c.below hb h.c.lt⟩
theorem wS.try {L:List St} (h:wS w T bb ib cb L (i:Int)):mm (w.alloc (.cells #[false] 4)) T bb ib cb w L i false:=
 ⟨h.tb.alloc _,h.best.alloc _,h.i.alloc _,h.c.alloc _,Bk.new _ _ _⟩
def Lk (s:ax) (k:Nat):List St:=List.replicate k dP++pP s (s.length-k)
theorem Zlq (s:ax) (q:Nat):Lk s (q+1)=Lq q none (pP s (s.length-(q+1))):=by unfold Lk Lq;rw[List.replicate_succ',ey];rfl
theorem Zho (s:ax):List.replicate (s.length+1) dP=Lk s s.length:=by unfold Lk;rw[fv,List.replicate_succ'];rfl
theorem Zlp (s:ax) (q:Nat) (k:q<s) {x:St} (g:(vt s q).foldl (kV (pP s (s.length-(q+1)))) none=some x):Lq q (some x) (pP s (s.length-(q+1)))=Lk s q:=by unfold Lk Lq;have e:s.length-q=(s.length-(q+1))+1:=O;rw[e];show _=_++(xA s (s.length-1-(s.length-(q+1))) _::_);rw[show s.length-1-(s.length-(q+1))=q by omega];unfold xA;rw[g]
theorem Zkx (s:ax) (h:k<=s):(Lk s k)=s.length+1:=by unfold Lk;rw[bT,iK,U_];omega
theorem Lo {cap g:Nat} {o:List (Nat×Nat)} (h:w.ownsRow B 287 2 (.slice (some (g,0)) n cap) n (lq o)) (t:k<o):w.cell? ⟨g,k*2,none⟩=((o.getD k (0,0)).1:Int)/\w.cell? ⟨g,k*2+1,none⟩=((o.getD k (0,0)).2:Int):=by
 have key:∀(o:List (Nat×Nat)) (k:Nat),k<o.length->(lq o)[k*2]? =((o.getD k (0,0)).1:Int)/\(lq o)[k*2+1]? =((o.getD k (0,0)).2:Int):=by
  intro o;induction o with
  |nil=>intro k h;simp at h
  |cons c r ih=>
   intro k h;cases k with
   |zero=>exact⟨rfl,rfl⟩
   |succ k=>
    obtain⟨a,b⟩:=ih k CE;have p:(lq (c::r))[(k+1)*2]? =(lq r)[k*2]? :=by unfold lq;rw[sS,pR (by show 2<=_;omega)];congr 1;show(k+1)*2-2=_;omega
    have q:(lq (c::r))[(k+1)*2+1]? =(lq r)[k*2+1]? :=by unfold lq;rw[sS,pR (by show 2<=_;omega)];congr 1;show(k+1)*2+1-2=_;omega
    rw[p,q,EB];exact⟨a,b⟩
 obtain⟨a,b⟩:=key o k t;have h1:=h.cells (g:=g) rfl _ _ a;have l:=h.cells (g:=g) rfl _ _ b;rw[Go.WideShapes.add_plain,jW] at h1 l;exact⟨h1,l⟩
def Il (v:aJ) (w:au):Nat:=match v with
 |.pointer (some a)=>match w.cell? a with
  |some (.int _ n)=>(n+1).toNat
  |_=>0
 |_=>0
theorem Q_ {a:Addr} {k:IntKind} {n:Int} (h:w.cell? a=some (.int k n)):Il (.pointer (some a)) w=(n+1).toNat:=by unfold Il;simp only;rw[h]
theorem Zjn {w1:au} (k:Bk w1 cb 236 #[(9:Int),(12:Int),(1:Int),(1:Int)]) {L:List St} {m:Nat} (g:L=m) (iv:Int):
  wS (((w1.alloc (.cells (ou L) 282)).alloc (.cells #[.slice (some (w1,0)) m m] 280)).alloc (.cells #[iv] 3)) w1.heap.size (w1.heap.size+1) (w1.heap.size+1+1) cb L iv/\
  Below w1.heap.size w1 (((w1.alloc (.cells (ou L) 282)).alloc (.cells #[.slice (some (w1,0)) m m] 280)).alloc (.cells #[iv] 3)):=by
 subst g
 exact⟨⟨((Bk.new _ _ _).alloc _).alloc _,(Bk.newN _ _ _ (by simp)).alloc _,Bk.newN _ _ _ (by simp),((k.alloc _).alloc _).alloc _⟩,
  (((bi w1 w1).alloc aW _).alloc (by simp) _).alloc fp _⟩
theorem V' {wr wx:au} (h:Below B w wr) (l:B<=wr) (p:Fr (λk=>k=T\/k=sb) wr wx) (h1:B<=T) (q:B<=sb):Below B w wx:=
 h.trans (p.toBelow' l (λk t g=>by rcases g with g|g<;>omega))
theorem Zq0 {L:List St} {seen:Bool} (h:w.ownsRow B 287 2 v n xs) (q:mm w T bb ib cb sb L i seen) (t:Fr (λk=>k=T\/k=sb) w w'):w'.ownsRow B 287 2 v n xs:=
 Z6 h t (λg p l=>by rcases l with l|l;exact Z1 h q.tb aZ (l▸p);exact Z1 h q.sn aZ (l▸p))
def Iq (n q:Nat) (l:List (Nat×Nat)):Prop:=∀c∈l,2<=c.1/\q+c.1<=n/\c.2<=4096
theorem Zdr {s:ax} (p:q<=s):Iq s q (rF s q):=λc k=>by obtain⟨h1,l,_,_,g,_⟩:=(Ln s q).1 c k;have:Q0 s q<=s.length-q:=Nat.min_le_right _ _;exact⟨h1,O,g⟩
theorem ZlJ (s:ax) (i most:Nat):∀p b o,(pG s i most p b o).length<=o.length+p:=by
 intro p;induction p with
 |zero=>intro b o;exact aW
 |succ p ih=>intro b o;rw[pG];split;exact O;split;have:=ih b o;omega;split;have:=ih (oM s p i most) (o++[(oM s p i most,i-p)]);rw[bT,pi] at this;omega;have:=ih b o;omega
theorem ZhT (s:ax) (i:Nat):(rF s i)<=i:=by have:=ZlJ s i (Q0 s i) i 1 [];unfold rF;simpa using this
theorem Vq (h:Iq n q l) (g:j<l):2<=(l.getD j (0,0)).1/\q+(l.getD j (0,0)).1<=n/\(l.getD j (0,0)).2<=4096:=by rw[qA,fD g];exact h _ (dr _)
theorem Zgh (h:Iq n q l) (g:j<l):1<=Bt l j/\Bt l j<=n+1:=by unfold Bt;split;obtain⟨a,b,_⟩:=Vq h (j:=j-1) O;omega;omega
theorem UM {base size:Nat} {e:TypeId} (h:w.ownsRow base e size v n xs) (z:0<n):∃g cap,v=.slice (some ⟨g,0,none⟩) n cap/\n<=cap:=by rcases h.2 with ⟨_,u⟩|⟨p,k,l,t,hb,y,q,_⟩;exact O;exact⟨p,k,t,q⟩
theorem ZqX:(prog.info? 198).map (λi=>(i.zero,i.size,i.bytes))=some (some (.agg #[(0:Int),(0:Int),.int .u8 0]),3,24):=dE
theorem Zbz (s:ax) (h4:s.length<=4096) (w:au):
  Calls prog 158 #[uk,bs s,(4096:Int)] w λx w'=>∃a5,x=.returned (.tuple #[a5,(0:Int)])/\w'.ownsRow w 198 3 a5 (nY s) (qp (nY s))/\Below w w w':=by
 obtain⟨f2,k6,d4⟩:=bF (λW=>TD W) (λW=>Wr W) (λi (hi:i<=s.length) W=>ZbF s h4 i hi W);have l7:(bs s).size=s:=Z0 s;obtain⟨n,g8⟩:=ay s.length;have d2:=λW=>Zjd (n+1) O W;have s0:((n+1:Nat):Int)=(n:Int)+1:=O;rw[s0] at d2;obtain⟨o9,o0,b2,i4,d8,j5⟩:=fF (Bk.new w 236 #[(9:Int),(12:Int),(1:Int),(1:Int)]) ((bi w w).alloc aW (.cells #[(9:Int),(12:Int),(1:Int),(1:Int)] 236)) (zc s) (λq a4 x h5=>Zlp s q a4 (x:=x) h5) (λq=>Zlq s q) (λq (a4:q<s.length)=>ZgB s (s.length-(q+1)) O);have i5:=J (λq (a4:q<=s.length)=>Zdr a4);have o6:=J (λk=>U_ s k);obtain⟨S,n0⟩:=ay (bs s);have e6:=J (Zho s);have f5:(Lk s s).length=s+1:=Zkx s aW;rw[n0] at l7 d4 b2⊢;rw[g8] at l7 h4 d4 b2 e6 i4 d8 j5 i5 f5;have v3:¬(4096:Int)<S.size:=O;have u6:decide ((4096:Int)<n)=false:=cG O;have I:=J g8;rw[e6.o] at d2;have p1:=J f5;clear g8 n0 f5;unfold uk at f2⊢;go_in;go_wp21;refine aO (f2.o _) λw1 b9=>?_;go_wp21;refine cq (k6.o _) ?_;have r5:=d2 w1;have q9:=b9.size;rw[World.size_alloc] at q9;obtain⟨B,l6⟩:=Zjn (o9.o.below b9 (by simp)) p1.o ((n:Int)-1);have m3:=(o0.o.trans (b9.mono (by simp))).trans (l6.mono O);have o8:=J B;have k7:=J m3;clear B l6 m3 o9 o0 b9 f2 k6 d2;generalize ou (Lk s n)=ST at*;go_wp2;generalize ((w1.alloc (.cells ST 282)).alloc (.cells #[.slice (some ⟨w1.heap.size,0,none⟩) (n+1) (n+1)] 280)).alloc (.cells #[((n:Int)-1:Int)] 3)=W0 at*;clear r5;have l5:w.heap.size<=w1.heap.size:=O;generalize w1.heap.size+1+1=h8 at*;generalize w1.heap.size+1=bb at*;generalize w1.heap.size=T at*;go_loopw [9] (λi7 wr=>∃(k ib:Nat),k<=n/\i7=.pointer (some (ib,0))/\Hid (wS wr T bb ib w (Lk s k) ((k:Int)-1))/\Hid (Below w w wr)) (λi7 wr=>Il i7 wr);exact⟨n,h8,aW,rfl,o8,k7⟩;clear o8 k7;obtain⟨k,ib,s5,rfl,B,hb⟩:=hrel;have a0:=B.o.i.cell 0;have n8:=B.o.i.lt;have j9:=B.o.best.lt;have o4:=B.o.tb.lt;have m4:=B.o.c.lt;simp at a0;have i6:=J (Q_ a0);by_cases ab:0<k
 .obtain⟨q,rfl⟩:∃q,k=q+1:=⟨k-1,O⟩;have i1:((q+1:Nat):Int)-1=(q:Int):=O;rw[i1] at a0 B i6;have a4:q<n:=O;have i3:=B.o.try;rw[d8.o] at i3;have i0:=i4.o q a4;have o7:=j5.o q a4;have n5:=i5.o q O;have r8:=o6.o (n-(q+1));generalize pP s (n-(q+1))=tb at*;have k4:q+tb.length=n:=O;have m9:38*(n-(q+1))<=160000:=O;have g6:=ZhT s q;have b5:vt s q=un (rF s q).reverse++[vD s q]:=rfl;rw[b5] at i0;have k3:=J (d4.o q O (wr.alloc (.cells #[false] 4)));generalize rF s q=l at*;obtain⟨X,g0⟩:∃X,(un l.reverse++[vD s q]).foldl (kV tb) none=some X:=by rw[rn];exact Gm _ _ _
  obtain⟨k2,p9,j7⟩:=bF g0 (i0 X g0) (λ(W:au) (u:Option St) (h:mm W T bb ib w wr (Lq q u tb) q u.isSome) hc t h1 h2 h3=>ZeE h k4 h4 o7 m9 hc t h1 h2 h3);have k8:=hb.o.size;obtain⟨e8,l0,k9⟩:=bF (hb.o.alloc k8 (.cells #[false] 4)) i3 n5;clear i3 g0 i0 o7 n5 r8 k4 m9 b5 B;go_wp21;refine(k3.o).mono ?_;rintro x t8 ⟨a5,rfl,M,aa⟩;obtain⟨A,cap,rfl,_⟩:=Zi M;obtain⟨c9,h6,c4⟩:=bF (l0.o.below aa) (KR M (show w.heap.size<=_ by rw[World.size_alloc];omega)) (e8.o.trans (aa.mono e8.o.size));have v6:l.length<=4096:=O;have h0:Hid ((un ((l.take l).reverse)++[vD s q]).foldl (kV tb) none=some X):=(by rw[pm];exact k2);have s2:Hid (∀k,k<l.length->∃b,A=some ⟨b,0,none⟩):=J (λk s5=>by obtain⟨g,c2,e,_⟩:=UM h6.o O;injection e with f3 v1 v2;exact⟨g,f3⟩);clear l0 M aa e8 k3 a0 n8 j9 o4 m4 k2 g6;go_wp2;have k5:w<=wr.heap.size:=k8;generalize wr.heap.size=sb at*;go_loopw [13] (λh9 wx=>∃(kk:Nat) (u:Option St),kk<=l/\h9=((kk:Int)-1:Int)/\Hid (mm wx T bb ib w sb (Lq q u tb) q u.isSome)/\Hid (wx.ownsRow w 287 2 (.slice A l cap) l (lq l))/\Hid ((un ((l.take kk).reverse)++[vD s q]).foldl (kV tb) u=some X)/\Hid (∀x,u=some x->x.cost<=38*(n-(q+1))+38/\x.pcs<=38*(n-(q+1))+38)/\Hid (Below w w wx)) (λh9 _=>(intOf h9+1).toNat);exact⟨l.length,none,aW,rfl,c9,h6,h0,J (λx h5=>by cases h5),c4⟩;clear c9 h6 h0 c4;obtain⟨kk,u,o3,rfl,E,D,Q,R,G⟩:=hrel;by_cases c5:0<kk
  .obtain⟨j,rfl⟩:∃j,kk=j+1:=⟨kk-1,O⟩;have s7:((j+1:Nat):Int)-1=(j:Int):=O;rw[s7];have b0:j<l.length:=O;obtain⟨g,rfl⟩:=s2.o j b0;obtain⟨t3,t9,p0⟩:=Vq k9.o b0;have b6:=Zcr b0;have u0:=Zgh k9.o b0;have y:=Q.o;rw[b6] at y;obtain⟨c1,c2⟩:=Lo D.o b0;obtain⟨hi,o1⟩:=ay ((l.getD j (0,0)).1);obtain⟨d,hd⟩:=ay ((l.getD j (0,0)).2);obtain⟨a2,d5⟩:=ay (Bt l j);rw[o1] at t3 t9 c1 y;rw[hd] at p0 c2 y;rw[d5] at u0 y;have F:=J y;have u4:(j:Int)<l:=O;have v5:(0:Int)<=j:=O;have b8:=J d5;have d9:=J hd;clear b6 Q y o1 hd d5 ab o3 c5;go_upto_if 53 with fail;go_cut [14] (λs8 i8=>s8=a2/\wr=i8)
   case first=>
    clear E F R G c1 c2;by_cases g5:0<j
    .have s4:(0:Int)<j:=O;have f3:(j:Int)-1=((j-1:Nat):Int):=O;obtain⟨c1,c2⟩:=Lo D.o (k:=j-1) O;have c3:(l.getD (j-1) (0,0)).1=a2:=by rw[<-b8.o];unfold Bt;rw[aP g5]
     rw[c3] at c1;have r7:((j-1:Nat):Int)<(l.length:Int):=O;obtain⟨j1,k1⟩:=ay (j-1);rw[k1] at f3 c1 c2 r7;have n1:(0:Int)<=j1:=O;clear D b8 k1 c3;go_wp2;go_meet;case rel=>exact⟨rfl,rfl⟩
    have q6:j=0:=O;subst q6;have c3:a2=1:=(by rw[<-b8.o];rfl);subst c3;clear D b8;go_wp2;go_meet;case rel=>exact⟨rfl,rfl⟩
   obtain⟨rfl,rfl⟩:=hcut;clear b8;have s1:j<=l.length:=O;go_wp2;go_loopw [15] (λd6 j0=>∃(m:Nat) (u:Option St),m<=hi/\d6=m/\Hid (mm j0 T bb ib w sb (Lq q u tb) q u.isSome)/\Hid (j0.ownsRow w 287 2 (.slice (some ⟨g,0,none⟩) l cap) l (lq l))/\Hid (((su m a2 d++un ((l.take j).reverse))++[vD s q]).foldl (kV tb) u=some X)/\Hid (∀x,u=some x->x.cost<=38*(n-(q+1))+38/\x.pcs<=38*(n-(q+1))+38)/\Hid (Below w w j0)) (λd6 _=>(intOf d6).toNat);exact⟨hi,u,aW,rfl,E,D,F,R,G⟩;clear c1 c2 E D F R G;obtain⟨m,u,g7,rfl,E,D,Q,R,G⟩:=hrel;by_cases r9:a2<m;.have m2:=ZdE (d:=d) r9;have y:=Q.o;rw[m2] at y;have F:Hid (((su (m-1) a2 d++un ((l.take j).reverse))++[vD s q]).foldl (kV tb) (kV tb u ⟨m,d,0⟩)=some X):=J y;have z:=j7.o wr u E.o R.o ⟨m,d,0⟩ dw dw dw;unfold qY at z;simp only at z;have e0:(((0:ci).toNat:Nat):Int)=0:=rfl;rw[e0] at z;have z:=J z;obtain⟨c1,c2⟩:=Lo D.o b0;rw[d9.o] at c2;have q8:(a2:Int)<m:=O;have em:(m:Int)-1=((m-1:Nat):Int):=O;obtain⟨n9,m6⟩:=ay (m-1);rw[m6] at em F;have r1:n9<=hi:=O;have n6:=E;clear m2 Q y e0 m6 E R c1;go_wp21;refine aO z.o λa7 ⟨a3,l2,a8⟩=>?_;obtain⟨p6,t4,r6,p7⟩:=dm a3 l2 (Zq0 D.o n6.o a8) (V' G.o G.o.size a8 l5 k5);clear a3 l2 a8 D n6 G z;go_wp2;refine⟨⟨n9,_,r1,by first|rfl|(congr 1),p6,r6,F,t4,p7⟩,?_⟩;simp[intOf]<;>omega
   have y:=Q.o;rw[Ziu O,pX] at y;have F:=J y;have q8:¬(a2:Int)<m:=O;clear Q y;go_wp2;refine⟨⟨j,u,s1,by first|rfl|go_num,E,D,F,R,G⟩,?_⟩;simp[intOf]<;>omega
  have q7:kk=0:=O;subst q7;have j8:kV tb u (vD s q)=some X:=Q.o;have z:=j7.o wr u E.o R.o (vD s q) (Nk 1) (by show q+1<=n;omega) (cf _);have g9:q<S.size:=O;have s6:(q:Int)<S.size:=O;have v9:(0:Int)<=q:=O;have l3:=b2.o q O g9;have m8:qY (vD s q)= #[.int .i64 1,.int .i64 0,.int .u8 ((s.getD q 0).toNat:Int)]:=rfl;rw[m8,<-l3,j8,p9.o] at z;have z:=J z;have j3:((0:Nat):Int)-1= -1:=rfl;rw[j3];obtain⟨_,a0,_⟩:=E.o.cells;clear Q j8 m8 l3 D R b2 o3 c5;go_wp21;refine aO z.o λa7 ⟨a3,_,a8⟩=>?_;obtain⟨_,r4,_⟩:=a3.cells;have e5:=V' G.o G.o.size a8 l5 k5;have f9:Hid (wS (a7.alloc (.cells #[((q:Int)-1:Int)] 3)) T bb a7.heap.size w (Lk s q) ((q:Int)-1)):=J ⟨a3.tb.alloc _,a3.best.alloc _,Bk.new _ _ _,a3.c.alloc _⟩;have p5:=J (e5.alloc e5.size (.cells #[((q:Int)-1:Int)] 3));have t6:Hid (Il (.pointer (some (a7.heap.size,0))) (a7.alloc (.cells #[((q:Int)-1:Int)] 3))=((q:Int)-1+1).toNat):=J (Q_ ((Bk.new a7 3 #[((q:Int)-1:Int)]).cell 0));clear a3 a8 e5 E G z a0;go_wp2;refine⟨⟨q,a7.heap.size,O,rfl,f9,p5⟩,?_⟩;rw[t6.o,i6.o];omega
 have c5:k=0:=O;subst c5;have b1:=B.o;have j3:((0:Nat):Int)-1= -1:=rfl;rw[j3] at a0;have j4:Lk s 0=qQ s:=(by unfold Lk qQ;rw[Nat.sub_zero];rfl);rw[j4] at b1;have p3:=J b1;have c8:(qQ s)=n+1:=by rw[<-j4,<-I.o];exact Zkx s (cf _)
 have u5:=J c8;have m7:Hid ([]++sx s n 0=nY s):=J (by rw[pX,<-I.o];rfl);obtain⟨u1,p4,e4,p2⟩:=dm (λi (h:i<n)=>(Vf (by rw[I.o];exact h):rU s i ((qQ s).getD i dP).first)) (λf i (h:i<n)=>(Z8x (by rw[I.o];exact h):sx s (f+1) i=((qQ s).getD i dP).first::sx s f (i+((qQ s).getD i dP).first.len))) (λf=>(Zbt oh:sx s f n=[])) (λi (h:i<n+1)=>LS (qQ s) i (by rw[c8];exact h));have a6:=b1.best;rw[c8] at a6;have j6:=J a6;have l1:=J b1.tb;have b7:Hid (wr.ownsRow w 198 3 (.slice none 0 0) ([]:List Pc) (qp [])):=J Zm;clear b1 B j4 i6 c8 a6 n8 j9 o4 m4 d8 i4 j5 i5 o6 d4 b2 e6;go_wp2;clear a0;go_loopw [16,17] (λt1 d7 wx=>∃(i f:Nat) (o:List Pc) (a5:aJ),i<=n/\d7=(i:Int)/\t1=a5/\Hid (n<=i+f)/\Hid (o.length<=i)/\Hid (Bk wx T 282 (ou (qQ s)))/\Hid (Bk wx bb 280 #[.slice (some (T,0)) (n+1) (n+1)])/\Hid (wx.ownsRow w 198 3 a5 o (qp o))/\Hid (o++sx s f i=nY s)/\Hid (Below w w wx)) (λ_ d7 _=>(n-intOf d7).toNat);exact⟨0,n,[],_,cf _,rfl,rfl,J O,J aW,l1,j6,b7,m7,hb⟩;clear l1 j6 b7 m7 hb;obtain⟨i,f,o,a5,hi,rfl,rfl,g1,c6,b4,a6,M,d1,hb⟩:=hrel;obtain⟨A,cap,rfl,_⟩:=Zi M.o;by_cases ab:i<n;.obtain⟨f1,rfl⟩:∃g,f=g+1:=⟨f-1,by have:=g1.o;omega⟩;have l8:=u1.o i ab;have b3:=l8.pos;rw[I.o] at b3;have j2:=p4.o f1 i ab;obtain⟨_,_,c7,f6,f7⟩:=p2.o i O;obtain⟨p,n3⟩:=ay (((qQ s).getD i dP).first);rw[n3] at b3 j2 c7 f6 f7;have a1:=d1.o;rw[j2] at a1;have F:Hid ((o++[p])++sx s f1 (i+p.len)=nY s):=J (by rw[ey];exact a1);have q2:=(b4.o.cell (i*5+2)).trans c7;have q3:=(b4.o.cell (i*5+3)).trans f6;have q4:=(b4.o.cell (i*5+4)).trans f7;have t2:=a6.o.cell 0;simp at t2;have v0:(i:Int)<n+1:=O;have n2:(i:Int)<n:=O;have v4:(0:Int)<=i:=O;obtain⟨v8,t8,n4,d3,k0,f4,_⟩:=VD (P:=prog) 186 198 _ _ 3 underlying186 ZqX rfl O M.o hb.o hb.o.size [.int .i64 (p.len:Int),.int .i64 (p.dist:Int),.int .u8 (p.byte.toNat:Int)] rfl t' (by unfold maxLen;have:=c6.o;omega) (by have:=c6.o;omega);have h7:=f4 _ _ _ b4.o aZ;have aa:=f4 _ _ _ a6.o aZ;have v7:=(h7.cell (i*5+2)).trans c7;have t5:=aa.cell 0;simp at t5;have n7:o+1=(o++[p]).length:=(by simp);have m5:qp o++[.int .i64 (p.len:Int),.int .i64 (p.dist:Int),.int .u8 (p.byte.toNat:Int)]=qp (o++[p]):=(by simp[qp,pcL]);rw[n7,m5] at d3;obtain⟨q0,c9,c4,p8,r3⟩:=ia d3 h7 aa k0 n4;have l9:Hid (n<=i+p.len+f1):=J (by have:=g1.o;omega);have o2:Hid ((o++[p]).length<=i+p.len):=J (by have:=c6.o;exact fp);obtain⟨A2,u3,u9,rfl⟩:=Za d3;clear l8 j2 c7 f6 f7 n3 d1 a1 d3 h7 aa k0 n4 g1 c6 f4 n7 m5 M;obtain⟨m,g7⟩:=ay (i+p.len);rw[g7] at F l9 o2 b3;have u7:(i:Int)+p.len=(m:Int):=O;have e7:m<=n:=b3.2;have u2:i<m:=O;clear b3 g7;go_wp2_with (at_builtin;refine Z5 FB rfl _ _ _ rfl _ _ (by rfl) (by rfl) r3.o ?_);refine⟨⟨m,f1,o++[p],_,e7,by first|rfl|(congr 1),rfl,l9,o2,c9,c4,q0,F,p8⟩,?_⟩;simp[intOf]<;>omega
 have e7:i=n:=O;subst e7;have a1:=d1.o;rw[e4.o,fu] at a1;have e9:=M.o;rw[a1] at e9;have t7:=J e9;rw[a1];clear d1 a1 M e9 b4 a6;go_wp2;go_returns;exact⟨_,rfl,t7.o,hb.o⟩
end Go.Proofs.Y
namespace Wv
open Go.Proofs.Tryz Go Go.RowKit
theorem Zce {w:au} {B y:Nat} {e p:TypeId} {sz l n F:Nat} {v u:aJ} {xs G:List aJ} (h:w.ownsRow B e sz v n xs) (D:w.ownsRow y p l u F G) (z:e≠p) {g:Nat} (t:v.ownBlock=some g):u.ownBlock≠some g:=by rcases h.2 with ⟨rfl,_⟩|⟨q,cap,k,rfl,_,E,_⟩;simp[Value.ownBlock] at t;have:q=g:=(by simpa [Value.ownBlock] using t);subst this;exact Z1 D (show Bk w q e k from E) (Ne.symm z)
end Wv
namespace Go.Proofs.Y
open Tryz Wv Go.RowKit
variable{B g n:Nat}{w':au}
theorem Zna {w:au} {cap:Nat} {o:List Pc} (h:w.ownsRow B 198 3 (.slice (some (g,0)) n cap) n (qp o)) {k:Nat} (t:k<o):w.cell? ⟨g,k*3,none⟩=(o[k].len:Int)/\w.cell? ⟨g,k*3+1,none⟩=(o[k].dist:Int)/\w.cell? ⟨g,k*3+2,none⟩=some (.int .u8 (o[k].byte.toNat:Int)):=by
 have key:∀(o:List Pc) (k:Nat) (t:k<o),(qp o)[k*3]? =(o[k].len:Int)/\(qp o)[k*3+1]? =(o[k].dist:Int)/\(qp o)[k*3+2]? =some (.int .u8 (o[k].byte.toNat:Int)):=by
  intro o;induction o with
  |nil=>intro k h;simp at h
  |cons c r ih=>
   intro k h;cases k with
   |zero=>exact⟨rfl,rfl,rfl⟩
   |succ k=>
    obtain⟨a,b,d⟩:=ih k CE;have l:∀j,(qp (c::r))[(k+1)*3+j]? =(qp r)[k*3+j]? :=λj=>by unfold qp;rw[sS,pR (by show 3<=_;omega)];congr 1;show(k+1)*3+j-3=_;omega
    have e0:=l 0;simp only[tW] at e0;rw[e0,l,l];exact⟨a,b,d⟩
 obtain⟨a,b,d⟩:=key o k t;have h1:=h.cells (g:=g) rfl _ _ a;have p:=h.cells (g:=g) rfl _ _ b;have q:=h.cells (g:=g) rfl _ _ d;rw[Go.WideShapes.add_plain,jW] at h1 p q;exact⟨h1,p,q⟩
theorem Z71 (s:ax) (u:4096<s.length) (t:s.length<=1000000000) (w:au):
  Calls prog 158 #[uk,bs s,(4096:Int)] w (bN w (.tuple #[.slice none 0 0,(9:Int)])):=by have k:=J (λW=>TD W);have p:=J (λW=>Wr W);have q:(bs s).size=s:=Z0 s;have y:(4096:Int)<((bs s).size:Int):=O;have l:=J ((bi w w).alloc aW (.cells #[(9:Int),(12:Int),(1:Int),(1:Int)] 236));generalize bs s=S at*;clear q u t;unfold uk at k⊢;go_in;go_wp21;refine aO (k.o _) λw1 g=>?_;go_wp21;refine cq (p.o _) ?_;have D:=J (l.o.trans (g.mono (by simp)));clear g l;exact EX
theorem Sb (s:ax) (q:s.length<=4096) (w:au):
  Calls prog 114 #[bs s] w λx w'=>∃g,x=.returned (.tuple #[g,(0:Int)])/\w'.ownsRow w 198 3 g (nY s) (qp (nY s))/\Below w w w':=by have k:=J (Zbz s q w);generalize bs s=S at*;generalize nY s=R at*;unfold uk at k;go_in;go_wp21;refine(k.o).mono ?_;rintro x w1 ⟨g,rfl,h1,p⟩;obtain⟨A,M,cap,rfl⟩:=Za h1;have l:=J h1;clear h1;go_wp2;go_returns;exact⟨_,rfl,l.o,p⟩
theorem Z5t (s:ax) (p:4096<s.length) (k:s.length<=1000000000) (w:au):
  Calls prog 114 #[bs s] w (bN w (.tuple #[.slice none 0 0,(9:Int)])):=by have g:=J (Z71 s p k w);generalize bs s=S at*;unfold uk at g;go_in;go_wp21;refine aO g.o λw1 l=>?_;go_wp2;go_returns;exact⟨rfl,l⟩
theorem L_ {s:ax} {i:Nat} {t:Pc} (h:rU s i t) (q:s.length<=4096):t.len<=1000000/\t.dist<=1000000/\(t.dist=0/\1<=t.len\/1<=t.dist/\2<=t.len):=by rcases h with ⟨h1,g,_⟩|⟨h1,g,k,l,p,_⟩<;>omega
theorem ZbU (t:Pc) (l:List Pc) (x:Ms×En):XT (t::l) x=XT l (lD t x):=rfl
theorem wnew {p:Pl} {eb:Nat} {dv:aJ} (q:BU B p) (t:B<=eb) (hd:∀g,dv.ownBlock=some g->B<=g):∀k,k<B->¬QB p eb dv k:=λk u l=>by rcases l with l|l|l|l|l|l|l;have:=q.kg;omega;have:=q.bb;omega;have:=q.bg;omega;have:=q.lg;omega;have:=q.dg;omega;exact O;have:=hd k l;omega
theorem ZeF (s : ax) (q : s.length <= 4096) (f4 : s ≠ []) (w : au) :
    Calls prog 76 #[bs s] w (bN w (.tuple #[bs (bj s.length++ji (XT (nY s) (m0,e0)).2),(0:Int)])):=by
  have b9:=J (Sb s q w);have h4:(bs s).size=s:=Z0 s;have h7:=YZ s;rw[cG f4] at h7;have a5:=J (λW=>Zj (s.length:Int) O O W);have g9:=rH s;rw[<-Z0] at g9;have c6:=J (λW=>TE W);unfold sD at c6;obtain⟨e7,M,i5⟩:=bF (λW=>VA W) (QM s) (λi t (h:rU s i t)=>L_ h q);obtain⟨n,d4⟩:=ay s.length;have b6:=J d4;rw[d4] at h4 a5 q g9⊢;rw[ek] at a5;have g5:=J (Z8 (bj n) (ji (XT (nY s) (m0,e0)).2));generalize bs s=S at*;obtain⟨l,g3⟩:=ay (nY s);rw[g3] at b9 M g5⊢;generalize bs (bj n)=NS at*;clear d4 g3 f4;go_in;go_wp21;refine(b9.o).mono ?_;rintro x w1 ⟨j5,rfl,d2,c8⟩;obtain⟨A,cap,rfl,_⟩:=Zi d2;go_wp21;refine aO (a5.o _) λj8 aa=>?_;go_wp21;refine(c6.o _).mono ?_;rintro x F ⟨p,rfl,f2,B,c9⟩;go_wp21;refine aO (e7.o _) λy ⟨f3,a7⟩=>?_;have s1:=c8.size;have g8:=aa.size;have s3:=c9.size;have i2:=a7.size;have c7:Below w1 w1 y:=(aa.trans (c9.mono g8)).trans (a7.mono O);have g0:=Z6 d2 (Fr.of_below (S:=nob) c7) (λ_ _ f=>f);have b0:Below w w y:=c8.trans (c7.mono s1);have g2:BU w p:=⟨by have:=B.kb;omega,by have:=B.kg;omega,by have:=B.bb;omega,by have:=B.bg;omega,by have:=B.lb;omega,by have:=B.lg;omega,by have:=B.db;omega,by have:=B.dg;omega⟩
  have e6:kF ((y.alloc (.cells (sD p) 193)).alloc (.cells #[(F,0)] 195)) p y.heap.size (y.heap.size+1) F (.slice none 0 0) (m0,e0):=
    ⟨(f2.below a7).below (((bi y.heap.size y).alloc aW _).alloc (by simp) _),f3.below (((bi y.heap.size y).alloc aW _).alloc (by simp) _),(Bk.new _ _ _).alloc _,Bk.newN _ _ _ (by simp)⟩;have e5:=(g0.alloc (.cells (sD p) 193)).alloc (.cells #[.pointer (some ⟨F,0,none⟩)] 195);have f5:=(b0.alloc b0.size (.cells (sD p) 193)).alloc (cp b0.size (by simp)) (.cells #[.pointer (some ⟨F,0,none⟩)] 195);obtain⟨d9,a8,d1,h2⟩:=dm e6 e5 f5 g2;have i3:w<=F.heap.size:=O;unfold sD at d9 a8 d1;clear e6 e5 f5 g2 d2 g0 c8 aa c9 a7 c7 b0 f2 B f3 s1 g8 s3 i2 b9 a5 c6 e7;have h9:Hid (∀k,k<l.length->∃b,A=some ⟨b,0,none⟩):=J (λk i0=>by obtain⟨g,c2,e,_⟩:=UM a8.o O;injection e with h8 j1 j2;exact⟨g,h8⟩)
  have j4:l.length<=1000000:=by
    have key:∀(i:Nat) (l:List Pc),tM s i l->i+l.length<=s:=by
      intro i l h;induction h with
      |done=>simp
      |step h r ih=>have:=h.pos;simp only[f'];omega
    have:=key 0 l M.o;rw[b6.o] at this;omega
  go_wp2;generalize (y.alloc (.cells #[.pointer (some ⟨p.kb,0,none⟩),.pointer (some ⟨p.bb,0,none⟩),.pointer (some ⟨p.lb,0,none⟩),.pointer (some ⟨p.db,0,none⟩)] 193)).alloc (.cells #[.pointer (some ⟨F.heap.size,0,none⟩)] 195)=W5 at*;generalize y.heap.size+1=cb at*;generalize y.heap.size=mb at*;generalize F.heap.size=eb at*;go_loopw [31] (λb5 wx=>∃(k i:Nat) (dv:aJ) (x:Ms×En),k<=l.length/\b5=(k:Int)/\Hid (kF wx p mb cb eb dv x)/\Hid (fy x.1/\dB 0 x.2)/\Hid (XT (l.drop k) x=XT l (m0,e0))/\Hid (tM s i (l.drop k))/\Hid (x.2.out.length<=135*i)/\Hid (wx.ownsRow w 198 3 (.slice A l cap) l (qp l))/\Hid (Below w w wx)/\Hid (∀g,dv.ownBlock=some g->w.heap.size<=g)) (λb5 _=>(l.length-intOf b5).toNat);exact⟨0,0,_,(m0,e0),cf _,rfl,d9,J ⟨DW,xK⟩,J rfl,M,J (cf _),a8,d1,J CB⟩;clear d9 a8 d1 M;obtain⟨k,i,dv,x,i0,rfl,u,E,a6,a2,I,Q,hb,b2⟩:=hrel;by_cases ab:k<l.length
  . obtain⟨g,rfl⟩:=h9.o k ab;obtain⟨c1,c2,f6⟩:=Zna Q.o ab;have g1:l.drop k=l[k]::l.drop (k+1):=kw ab;have b3:=a2.o;have b4:=a6.o;rw[g1] at b3 b4;obtain⟨t,g4⟩:=ay l[k];rw[g4] at b3 b4 c1 c2 f6;have R:rU s i t/\tM s (i+t.len) (l.drop (k+1)):=by cases b3 with|step h r=>exact⟨h,r⟩
    obtain⟨R,e8⟩:=R;obtain⟨d7,d8,g6⟩:=i5.o i t R;have f8:=R.pos;rw[b6.o] at f8;have IN:=WA d7 d8 O x;have h0:=GR (p:=t) E.o.1 E.o.2;have f9:Below wr wr (wr.alloc (.cells (qY t) 198)):=(bi _ _).alloc aW _;have G:=Z8M (u.o.below f9) E.o.1 E.o.2 t d7 d8 g6 (by have:=I.o;omega)
    have b1 := J (λ(w' : au) (h : Fr (QB p eb dv) (wr.alloc (.cells (qY t) 198)) w') => (⟨Z6 (Q.o.alloc (.cells (qY t) 198)) h (λg z q => by have D:=Q.o;rcases q with q|q|q|q|q|q|q;exact Z1 D u.o.ms.kn aZ (q▸z);exact Z1 D u.o.ms.bt.st aZ (q▸z);exact Z1 D u.o.ms.bt.nd aZ (q▸z);exact Z1 D u.o.ms.ln.2 aZ (q▸z);exact Z1 D u.o.ms.dn.2 aZ (q▸z);exact Z1 D u.o.en.1 aZ (q▸z);exact Zce D u.o.en.2 aZ z q),
      (hb.o.alloc hb.o.size (.cells (qY t) 198)).trans (h.toBelow' (cp hb.o.size (by simp)) (wnew h2.o i3 b2.o))⟩:w'.ownsRow w 198 3 (.slice (some ⟨g,0,none⟩) l cap) l (qp l)/\Below w w w'));have a3 := J (λ(d : aJ) (h : Zu (wr.alloc (.cells (qY t) 198)) dv d) => (λg z => by rcases h with h|h;exact b2.o g (h▸z);have:=h g z;have:=hb.o.size;simp at*;omega:∀g,d.ownBlock=some g->w.heap.size<=g));have i1:Hid ((lD t x).2.out.length<=135*(i+t.len)):=J (by have:=I.o;omega);have c5:Hid (XT (l.drop (k+1)) (lD t x)=XT l (m0,e0)):=J b4;have M:=J e8;have h1:=J h0;have j0:(k:Int)<l:=O;have i9:(0:Int)<=k:=O;have G:=J G;unfold qY at G b1 a3;clear g1 b3 b4 g4 R e8 d7 d8 g6 f8 IN h0 f9 u E a6 a2 I Q b2;obtain⟨j7,j6,tb⟩:=t;simp only at c1 c2 f6 G b1 a3;generalize (tb.toNat:Int)=TB at*;go_wp21;refine aO G.o λi4 ⟨h6,a1,g7,a0⟩=>?_;obtain⟨e9,f7⟩:=b1.o _ g7;obtain⟨i6,d3,b8,b7⟩:=dm e9 f7 (a3.o _ a0) a1;clear g7 a0 e9 f7 a1 b1 a3 G hb;go_wp2;refine⟨⟨k+1,_,h6,_,ab,ck,b7,h1,c5,M,i1,i6,d3,b8⟩,?_⟩;simp[intOf]<;>omega
  have h3:k=l.length:=O;subst h3;have d5:x=XT l (m0,e0):=by have:=a6.o;rw[wY] at this;exact this
  have i7:i<=n:=by
    have key:∀(i:Nat) (l:List Pc),tM s i l->i<=s.length:=by
      intro i l h;cases h with
      |done=>exact aW
      |step h r=>have:=h.pos;omega
    have:=key _ _ a2.o;rw[b6.o] at this;exact this
  have a4:=R6 u.o.en E.o.2.low (by have:=I.o;omega);rw[d5] at a4;have a4:=J a4;have h5:=u.o.cc.cell 0;simp at h5;have i8:(bs (ji (XT l (m0,e0)).2)).size<=1000000:=by rw[Z0];unfold ji;rw[<-d5,bT];have:=I.o;have j3:(be 4 x.2.low).length=4:=(by rw[MX];rfl);omega
  generalize bs (ji (XT l (m0,e0)).2)=FS at*;clear d5 u E a6 a2 I Q b2;go_wp21;refine gO a4.o hb λi4 d3=>?_;clear hb;go_wp2;go_returns;exact⟨by rw[<-g5.o];rfl,d3.o⟩
theorem ZeG (w:au):
  Calls prog 76 #[bs []] w (bN w (.tuple #[bs (bj 0),(0:Int)])):=by have q:=J (Sb [] (cf _) w);have u:(bs ([]:ax)).size=0:=rfl;have t:=YZ [];rw[cT rfl] at t;have k:=J (λW=>Zj 0 O O W);have e0:(0:Int).toNat=0:=rfl;rw[e0] at k;generalize bs []=S at*;generalize nY []=l at*;generalize bs (bj 0)=NS at*;go_in;go_wp21;refine(q.o).mono ?_;rintro x w1 ⟨y,rfl,p,g⟩;obtain⟨A,cap,rfl,_⟩:=Zi p;go_wp21;refine aO (k.o _) λz aa=>?_;have D:=J (g.trans (aa.mono g.size));clear p g aa;exact EX
theorem Z8L (s:ax) (p:4096<s.length) (l:s.length<=1000000000) (w:au):
  Calls prog 76 #[bs s] w (bN w (.tuple #[bs [],(9:Int)])):=by have k:=J (Z5t s p l w);have g:bs ([]:ax)=⟨#[]⟩:=rfl;rw[g];generalize bs s=S at*;clear g;go_in;go_wp21;refine aO k.o λw1 z=>?_;exact EZ
def nj (o:Option ax):aJ:=match o with
 |some t=>.tuple #[bs t,(0:Int)]
 |none=>.tuple #[bs [],(9:Int)]
theorem Sa (s:ax) (g:s.length<=1000000000) (w:au):
  dt 76 #[bs s] w (bN w (nj (lx s))):=by unfold lx;by_cases h:4096<s.length;rw[aP h];exact Z8L s h g w;rw[az h];by_cases h0:s=[];subst h0;rw[aP rfl,fu];exact ZeG w;rw[az h0];exact ZeF s O h0 w
structure iz (w:World) (p:Pl) (mb eb:Nat) (m:Ms) (d:De):Prop where
 ms:gu w p m
 de:dA w eb d
 mc:Bk w mb 193 (sD p)
def te (p:Pl) (eb:Nat):Nat->Prop:=λk=>k=p.kg\/k=p.bb\/k=p.bg\/k=p.lg\/k=p.dg\/k=eb
theorem ZfW {w:au} {p:Pl} {m:Ms} (h:gu w p m) {eb b:Nat} {d:De} (u:dA w eb d) {t:TypeId} {l:Array aJ} (hb:Bk w b t l) (h1:t≠325) (k:t≠3) (q:t≠249):¬te p eb b:=λg=>by rcases g with g|g|g|g|g|g;exact Bk.apart hb h.kn k g;exact Bk.apart hb h.bt.st q g;exact Bk.apart hb h.bt.nd k g;exact Bk.apart hb h.ln.2 k g;exact Bk.apart hb h.dn.2 k g;exact Bk.apart hb u h1 g
theorem iz.next {w:au} {p:Pl} {mb eb:Nat} {m k:Ms} {d g:De} (h:iz w p mb eb m d) (q:Fr (te p eb) w w') (t:gu w' p k) (l:dA w' eb g):iz w' p mb eb k g:=
 ⟨t,l,h.mc.fr q (ZfW h.ms h.de h.mc aZ aZ aZ)⟩
theorem iz.below {w:au} {p:Pl} {mb eb:Nat} {m:Ms} {d:De} (h:iz w p mb eb m d) (hb:Below w w w'):iz w' p mb eb m d:=⟨h.ms.below hb,h.de.below hb,h.mc.below hb h.mc.lt⟩
theorem iz.drew {w:au} {p:Pl} {mb eb:Nat} {m:Ms} {d:De} (h:iz w p mb eb m d):iz w.drew p mb eb m d:=⟨h.ms.drew,h.de.drew,h.mc⟩
theorem iz.keep {w:au} {p:Pl} {mb eb:Nat} {m:Ms} {d:De} (h:iz w p mb eb m d) (g:∀l T k,Bk w l T k->5≠T->Bk w' l T k):iz w' p mb eb m d:=
 ⟨⟨g _ _ _ h.ms.ks aZ,g _ _ _ h.ms.kn aZ,⟨g _ _ _ h.ms.bt.st aZ,g _ _ _ h.ms.bt.nd aZ⟩,⟨g _ _ _ h.ms.ln.1 aZ,g _ _ _ h.ms.ln.2 aZ⟩,⟨g _ _ _ h.ms.dn.1 aZ,g _ _ _ h.ms.dn.2 aZ⟩,h.ms.a1,h.ms.a2,h.ms.a3,h.ms.a4,h.ms.a5,h.ms.a6⟩,
  g _ _ _ h.de aZ,g _ _ _ h.mc aZ⟩
theorem iz.row {w:au} {p:Pl} {mb eb:Nat} {m:Ms} {d:De} (h:iz w p mb eb m d) (t:Fr (te p eb) w w') {v:aJ} {xs:List aJ} (l:w.ownsRow B 5 1 v n xs):w'.ownsRow B 5 1 v n xs:=
 Z6 l t (λg q k=>by rcases k with k|k|k|k|k|k;exact Z1 l h.ms.kn aZ (k▸q);exact Z1 l h.ms.bt.st aZ (k▸q);exact Z1 l h.ms.bt.nd aZ (k▸q);exact Z1 l h.ms.ln.2 aZ (k▸q);exact Z1 l h.ms.dn.2 aZ (k▸q);exact Z1 l h.de aZ (k▸q))
theorem Im {p:Pl} {eb:Nat} {w wr:au} (l:BU B p) (u:B<=eb) (hb:Below B w wr) (q:B<=wr) (t:Fr (te p eb) wr w'):Below B w w':=
 hb.trans (t.toBelow' q (λk y g=>by rcases g with g|g|g|g|g|g;have:=l.kg;omega;have:=l.bb;omega;have:=l.bg;omega;have:=l.lg;omega;have:=l.dg;omega;omega))
theorem LH {p:Pl} {eb:Nat} (R:g=p.kg\/g=p.lg\/g=p.dg):∀k,vp g eb k->te p eb k:=λk h=>NK
theorem Zld (n:Nat) (t:List Nat) (d:De) (h:t.length=2 ^ n):Qa n 0 1 t d=er n 1 t d:=by obtain⟨a,b⟩:=V2 n 0 1 (2 ^ n) (t:=t) (d:=d) O O;exact Pf
theorem ZmJ {m:Ms} {d:De} (h:fy m) (g:DV 0 d):fy (fj m d).2.1/\DV 0 (fj m d).2.2:=by obtain⟨a,b,c,_⟩:=DO 1 1 m.kind d h.k.1 Fl g;exact⟨⟨⟨a,b.trans h.k.2⟩,h.bl,h.b,h.l,h.d⟩,c⟩
theorem Zlx {m:Ms} {d:De} (h:fy m) (p:DV 0 d):fy (qg m d).2.1/\DV 0 (qg m d).2.2:=by obtain⟨t1,g⟩:=GD h;obtain⟨a,b,c,_⟩:=DO 8 1 (si m) d t1 (by rw[g];decide) p;exact⟨⟨h.k,Ry,VT h ⟨a,b.trans g⟩ _,h.l,h.d⟩,c⟩
theorem ZmM {m:Ms} {d:De} (h:fy m) (g:DV 0 d):fy (lu m d).2.1/\DV 0 (lu m d).2.2:=by obtain⟨a,b⟩:=Ml h.l g;exact⟨⟨h.k,h.bl,h.b,a,h.d⟩,b⟩
theorem Zm3 {m:Ms} {d:De} (h:fy m) (g:DV 0 d):fy (pK m d).2.1/\DV 0 (pK m d).2.2:=by obtain⟨a,b⟩:=Ml h.d g;exact⟨⟨h.k,h.bl,h.b,h.l,a⟩,b⟩
section
variable {w:au} {p:Pl} {mb eb:Nat} {m:Ms} {d:De}
theorem Zg0 (h:iz w p mb eb m d) (hm:fy m) (t:DV 0 d):
  dt 215 #[(p.kb,0),(eb,0)] w λr w'=>r=.returned (((fj m d).1:Nat):Int)/\iz w' p mb eb (fj m d).2.1 (fj m d).2.2/\Fr (te p eb) w w':=by refine(T6 h.ms.kind O Fh Fh hm.k.1 h.de (Bk.apart h.ms.ks h.de aZ) t).mono ?_;rintro r w1 ⟨rfl,l,hd,g⟩;rw[Zld 1 _ _ hm.k.2] at l hd;rw[Zld 1 _ _ hm.k.2];have an:=g.mono (LH (p:=p) (.inl rfl));exact⟨rfl,h.next an (h.ms.setK g (λk q=>q) (h.ms.offD h.de) l.nd) hd,an⟩
theorem ZfA (h:iz w p mb eb m d) (q:fy m) (u:DV 0 d):
  dt 216 #[(p.bb,0),(eb,0)] w λr w'=>r=.returned (.int .u8 (((qg m d).1.toNat:Nat):Int))/\iz w' p mb eb (qg m d).2.1 (qg m d).2.2/\Fr (te p eb) w w':=by refine(Zel h.ms.bt q.b q.bl h.de u).mono ?_;rintro r w1 ⟨rfl,t,hd,l⟩;have an:Fr (te p eb) w w1:=l.mono (λk g=>by rcases g with h|h|h;exact .inr (.inl h);exact .inr (.inr (.inl h));exact .inr (.inr (.inr (.inr (.inr h)))));exact⟨rfl,h.next an (h.ms.setB l (λk g=>g) (h.ms.offD h.de) t) hd,an⟩
theorem ZjM (h:iz w p mb eb m d) (t:fy m) (y:DV 0 d):
  dt 217 #[(p.lb,0),(eb,0)] w λr w'=>r=.returned (.int .i64 (lu m d).1)/\iz w' p mb eb (lu m d).2.1 (lu m d).2.2/\Fr (te p eb) w w':=by refine(K' h.ms.ln t.l h.de y).mono ?_;rintro r w1 ⟨rfl,u,hd,g⟩;have an:=g.mono (LH (p:=p) (.inr (.inl rfl)));exact⟨rfl,h.next an (h.ms.setL g (λk q=>q) (h.ms.offD h.de) u) hd,an⟩
theorem ZfI (h:iz w p mb eb m d) (q:fy m) (u:DV 0 d):
  dt 217 #[(p.db,0),(eb,0)] w λr w'=>r=.returned (.int .i64 (pK m d).1)/\iz w' p mb eb (pK m d).2.1 (pK m d).2.2/\Fr (te p eb) w w':=by refine(K' h.ms.dn q.d h.de u).mono ?_;rintro r w1 ⟨rfl,t,hd,g⟩;have an:=g.mono (LH (p:=p) (.inr (.inr rfl)));exact⟨rfl,h.next an (h.ms.setD g (λk l=>l) (h.ms.offD h.de) t) hd,an⟩
theorem iz.cells (h:iz w p mb eb m d):w.cell? (mb,0)=(p.kb,0)/\w.cell? (mb,1)=(p.bb,0)/\w.cell? (mb,2)=(p.lb,0)/\w.cell? (mb,3)=(p.db,0):=
 ⟨h.mc.cell 0,h.mc.cell 1,h.mc.cell 2,h.mc.cell 3⟩
end
theorem Zbh (d n:Nat) (o:ax):QE d (n+1) o=QE d n (o++[o.getD (o.length-d) 0]):=rfl
theorem W8 (o:ax) (c:ci):o.map bv++[.int .u8 (c.toNat:Int)]=(o++[c]).map bv:=by simp[bv]
def Ik (o:Option ax):aJ:=match o with
 |some t=>.tuple #[bs t,true]
 |none=>.tuple #[bs [],false]
def slen (v:aJ):Nat:=match v with
 |.slice _ n _=>n
 |_=>0
theorem Znn {f:Nat} {o:ax} {m:Ms} {d:De} (h:¬o.length<n):rz f n o m d=some o:=by
 cases f with
 |zero=>rfl
 |succ f=>rw[rz,az h]
theorem Zli:(prog.info? 5).map (λi=>(i.zero,i.size,i.bytes))=some (some (.int .u8 0),1,1):=dE
theorem ZbB (data:ax) (n:Nat) (t2:n<=4096) (w:au):
  Calls prog 168 #[bs data,n] w (bN w (Ik (ya data n))):=by
 have f4:=J (λW=>TE W);unfold sD at f4;have k2:=J (λW=>Vt data W);have i6:Hid (rz n n [] m0 (d0 data)=ya data n):=J rfl;have n7:=d0_v data;obtain⟨R,m5⟩:=ay (ya data n);rw[m5] at i6⊢;generalize d0 data=j7 at*;generalize bs data=S at*;clear m5;go_in;go_wp21;refine(f4.o _).mono ?_;rintro x w1 ⟨p,rfl,l1,l3,g4⟩;go_wp21;refine aO (k2.o _) λa0 ⟨n4,aa⟩=>?_;have s1:=g4.size;have r8:=aa.size
 have e8:iz (a0.alloc (.cells (sD p) 193)) p a0.heap.size w1 m0 j7:=
  ⟨(l1.below aa).below ((bi a0.heap.size a0).alloc aW _),n4.below ((bi a0.heap.size a0).alloc aW _),Bk.new _ _ _⟩;have a1:=(g4.trans (aa.mono s1)).alloc O (.cells (sD p) 193);obtain⟨a8,a5,b7⟩:=bF e8 a1 l3;have e6:w<=w1.heap.size:=O;have j2:Hid ((a0.alloc (.cells (sD p) 193)).ownsRow w 5 1 (.slice none 0 0) ([]:ax) (([]:ax).map bv)):=J Zm;have k8:=e8.cells;unfold sD at a8 a5 j2 k8;clear e8 a1 l1 l3 g4 n4 aa s1 r8 f4 k2;go_wp2;generalize (a0.alloc (.cells #[.pointer (some ⟨p.kb,0,none⟩),.pointer (some ⟨p.bb,0,none⟩),.pointer (some ⟨p.lb,0,none⟩),.pointer (some ⟨p.db,0,none⟩)] 193))=W5 at*;generalize a0.heap.size=mb at*;generalize w1.heap.size=eb at*;clear k8;go_loopw [8] (λc7 wx=>∃(f:Nat) (o:ax) (m:Ms) (d:De) (a7:aJ),c7=a7/\Hid (iz wx p mb eb m d)/\Hid (fy m/\DV 0 d)/\Hid (rz f n o m d=R)/\Hid (n<=o+f)/\Hid (o<=n)/\Hid (wx.ownsRow w 5 1 a7 o (o.map bv))/\Hid (Below w w wx)) (λc7 _=>n-slen c7);exact⟨n,[],m0,j7,_,rfl,a8,J ⟨DW,n7⟩,i6,J (by simp),J (cf _),j2,a5⟩;clear a8 a5 j2 i6 n7;obtain⟨f,o,m,d,a7,rfl,I,a6,c9,a2,l,F,hb⟩:=hrel;obtain⟨A,cap,rfl,_⟩:=Zi F.o;obtain⟨ol,e4⟩:=ay o.length;by_cases ab:o<n
 .obtain⟨f1,rfl⟩:∃g,f=g+1:=⟨f-1,by have:=a2.o;omega⟩;have B:=c9.o;rw[rz,aP ab] at B;obtain⟨ux,x'⟩:=ZmJ a6.o.1 a6.o.2;have b1:=J (Zg0 I.o a6.o.1 a6.o.2);obtain⟨c0,c1,c2,l0⟩:=I.o.cells;have p9:(ol:Int)<n:=O;have k:=J e4;have u:=F.o;rw[e4] at u⊢;have d4:=I;obtain⟨kk,n5⟩:=ay ((fj m d).1);rw[n5] at B b1;generalize (fj m d).2.1=m1 at*;generalize (fj m d).2.2=d1 at*;clear n5 I c9 ab e4;by_cases i3:kk=0;.subst i3;rw[aP rfl] at B;have s4:((0:Nat):Int)=0:=rfl;rw[s4] at b1;obtain⟨k5,k6⟩:=Zlx ux x';have f7:=J (λ(W:au) (h:iz W p mb eb m1 d1)=>ZfA h ux x');obtain⟨c,b4⟩:=ay ((qg m1 d1).1);rw[b4] at B f7;generalize (qg m1 d1).2.1=b5 at*;generalize (qg m1 d1).2.2=b3 at*;obtain⟨b0,c6,q8⟩:=bF B u (And.intro k5 k6);clear b4 B u F ux x' k5 k6 c2 l0 a6;go_wp21;refine aO b1.o λb6 ⟨a3,a4⟩=>?_;have b9:=d4.o.row a4 c6.o;have b2:=Im b7.o e6 hb.o hb.o.size a4;obtain⟨e0,g8,d8,d9⟩:=a3.cells;clear c0 c1 d8 d9 a4 b1 hb c6 d4;go_wp21;refine aO (f7.o _ a3) λt4 ⟨j8,g5⟩=>?_;have n9:=a3.row g5 b9;have g6:=Im b7.o e6 b2 b2.size g5;obtain⟨n6,s0,c4,y,a1,b8⟩:=ZU (P:=prog) 88 5 _ _ underlying88 Zli rfl n9 g6 g6.size (.int .u8 (c.toNat:Int)) rfl (by unfold maxLen;exact Fb) Fb;rw[W8] at y;have G:ol+1=(o++[c]).length:=(by rw[bT,pi,k.o]);rw[G] at y;obtain⟨a8,i8,a5,g7⟩:=dm (j8.keep b8) y a1 c4;have f2:Hid (n<=(o++[c]).length+f1):=J (by rw[<-G];have:=a2.o;have:=k.o;omega);have f3:Hid ((o++[c]).length<=n):=J (by rw[<-G];omega);have f6:Hid (n-slen n6<n-ol):=J (by obtain⟨s5,k9,e,_⟩:=Zi y;rw[e];show n-(o++[c]).length<_;rw[<-G];omega);obtain⟨A5,o9,q0,rfl⟩:=Za y;generalize (c.toNat:Int)=C at*;clear e0 g8 g5 a3 b9 b2 j8 n9 g6 c4 y a1 b8 G a2 l f7;go_wp2_with (at_builtin;refine Z5 FB rfl _ _ _ rfl _ _ (by rfl) (by rfl) g7.o ?_);refine⟨⟨f1,_,b5,b3,_,rfl,a8,q8,b0,f2,f3,i8,a5⟩,?_⟩;exact f6.o
  rw[az i3] at B;have s6:((kk:Int)==0)=false:=pt;obtain⟨g1,g2⟩:=ZmM ux x';have i4:=J (λ(W:au) (h:iz W p mb eb m1 d1)=>ZjM h ux x');obtain⟨L,l8⟩:=ay ((lu m1 d1).1);rw[l8] at B i4;generalize (lu m1 d1).2.1=b5 at*;generalize (lu m1 d1).2.2=b3 at*;obtain⟨n3,k4⟩:=Zm3 g1 g2;have j4:=J (λ(W:au) (h:iz W p mb eb b5 b3)=>ZfI h g1 g2);obtain⟨D,l7⟩:=ay ((pK b5 b3).1);rw[l7] at B j4;generalize (pK b5 b3).2.1=e5 at*;generalize (pK b5 b3).2.2=d7 at*;obtain⟨b0,c6,j1⟩:=bF B u (And.intro n3 k4);clear l8 l7 B u F ux x' g1 g2 n3 k4 a6 i3;go_wp21;refine aO b1.o λb6 ⟨a3,a4⟩=>?_;have b9:=d4.o.row a4 c6.o;have b2:=Im b7.o e6 hb.o hb.o.size a4;obtain⟨e0,g8,d8,d9⟩:=a3.cells;obtain⟨i7,d6,d5⟩:=bF b9 b2 a3;clear c0 c1 c2 l0 a4 b1 hb c6 d4 b9 b2 e0 g8 a3;go_wp2;go_cut [9,10] (λr9 r4 wx=>r9=L/\r4=D/\Hid (iz wx p mb eb e5 d7)/\Hid (Fr (te p eb) b6 wx))
  case first=>
   have o4:b6.drew.cell? (mb,2)=(p.lb,0)/\b6.drew.cell? (mb,3)=(p.db,0):=⟨d8,d9⟩;have m6:iz b6.drew p mb eb m1 d1:=d5.o.drew;clear b0 j1 i7 d6 d5 b7 a2 l
   go_region_held3 (λW=>W.cell? (mb,2)=(p.lb,0)/\W.cell? (mb,3)=(p.db,0)) (first|with_reducible assumption|with_reducible exact o4)
    (first
     |(go_at_call 217;with_reducible refine(i4.o _ qC).mono ?_;rintro r n8 ⟨rfl,k7,i1⟩;have t3:n8.cell? (mb,2)=(p.lb,0)/\n8.cell? (mb,3)=(p.db,0):=⟨k7.cells.2.2.1,k7.cells.2.2.2⟩)
     |(go_at_call 217;with_reducible refine(j4.o _ qC).mono ?_;rintro r wb ⟨rfl,f9,r7⟩;have o5:wb.cell? (mb,2)=(p.lb,0)/\wb.cell? (mb,3)=(p.db,0):=⟨f9.cells.2.2.1,f9.cells.2.2.2⟩))
   all_goals
    go_wp2;go_meet;case rel=>exact⟨rfl,rfl,J f9,J (((Fr.refl (te p eb) b6).drew.trans i1).trans r7)⟩
  obtain⟨rfl,rfl,e9,g0⟩:=hcut;have o0:=d5.o.row g0.o i7.o;have n2:=Im b7.o e6 d6.o d6.o.size g0.o;have j0:=J o0;have f5:=J n2;clear o0 n2 g0 i7 d6 d5 i4 j4 d8 d9;cases E:zu n o L D with
  |true=>
   have o7:R=none:=by have:=b0.o;rw[E,aP rfl] at this;exact this.symm
   subst o7;have g9:L<0\/(¬L<0/\(271<L\/(¬271<L/\((n:Int)-ol<L+2\/(¬(n:Int)-ol<L+2/\(D<0\/(¬D<0/\(ol:Int)<=D))))))):=by unfold zu at E;rw[k.o] at E;simp only[Bool.or_eq_true,fE] at E;omega
   have p8:ol<=4096:=Fb;clear E b0 j1 a2 l j0 e9;have s7:bs ([]:ax)=⟨#[]⟩:=rfl;rcases g9 with h1|⟨h1,h0|⟨h0,h6|⟨h6,h7|⟨h7,l6⟩⟩⟩⟩
   all_goals
    go_wp2;go_returns;exact⟨rfl,f5.o⟩
  |false=>
   have g9:0<=L/\L<=271/\L+2<=(n:Int)-(ol:Int)/\0<=D/\D<(ol:Int):=by unfold zu at E;rw[k.o] at E;simp only[Bool.or_eq_false_iff,uN] at E;omega
   have c8:=b0.o;rw[E,az aZ] at c8;obtain⟨a,rfl⟩:∃a:Nat,L=a:=⟨L.toNat,O⟩;obtain⟨b,rfl⟩:∃a:Nat,D=a:=⟨D.toNat,O⟩;rw[ek,ek] at c8;obtain⟨h1,h0,h6,h7,l6⟩:=g9;have p6:¬(a:Int)<0:=O;have o2:¬(271:Int)<a:=O;have o3:¬(n:Int)-ol<(a:Int)+2:=O;have h8:¬(b:Int)<0:=O;have h9:¬(ol:Int)<=b:=O;have r3:ol+a+2<=n:=O;have r1:b<ol:=O;have r5:((a+2:Nat):Int)=(a:Int)+2:=O;obtain⟨t,o6⟩:=ay (a+2);have l9:(a:Int)+2=(t:Int):=O;rw[o6] at c8;have p4:=J c8;have l2:Hid (QE (b+1) (t-0) o=QE (b+1) t o):=J (by rw[Nat.sub_zero]);have p8:ol<=4096:=Fb;have m4:t<=4096:=O;have n1:n<=ol+f1+1:=(by have:=a2.o;have:=k.o;omega);have r2:ol+t<=n:=O;clear E b0 c8 h1 h0 h6 h7 l6 r5 a2 l;go_wp2;clear p6 o2 o3 h8 h9;go_loopw [8,65] (λc7 g3 j3=>∃(j:Nat) (q:ax) (a7:aJ),j<=t/\g3=j/\c7=a7/\Hid (q=ol+j)/\Hid (QE (b+1) (t-j) q=QE (b+1) t o)/\Hid (j3.ownsRow w 5 1 a7 q (q.map bv))/\Hid (iz j3 p mb eb e5 d7)/\Hid (Below w w j3)) (λ_ g3 _=>(t-intOf g3).toNat);exact⟨0,o,_,cf _,rfl,rfl,J (by rw[tW];exact k.o),l2,J (by rw[k.o];exact j0.o),e9,f5⟩;clear l2 j0 e9 f5;obtain⟨j,q,a7,t1,rfl,rfl,i5,e7,F,I,hb⟩:=hrel;obtain⟨Q,z⟩:=ay q.length;have k0:Q=ol+j:=(by rw[<-z];exact i5.o);obtain⟨g,k9,rfl,l5⟩:=Dh F.o (by rw[z];omega);have u:=F.o;rw[z] at u⊢;by_cases q6:j<t
   .obtain⟨r,c4⟩:∃r,t-j=r+1:=⟨t-j-1,O⟩;have M:=e7.o;rw[c4,Zbh,z] at M;obtain⟨ix,j6⟩:=ay (Q-(b+1));rw[j6] at M;obtain⟨c,b4⟩:=ay (q.getD ix 0);rw[b4] at M;have j9:ix<Q:=O;have j5:(q.map bv)[ix]? =some (.int .u8 (c.toNat:Int)):=by rw[jV,fD (by rw[z];exact j9),<-b4];simp[List.getD,bv,z,j9]
    obtain⟨cc,_⟩:=Df u ix _ j5;have m9:(Q:Int)-b-1=(ix:Int):=O;have m8:(ix:Int)<Q:=O;have m7:(0:Int)<=ix:=O;have p7:(j:Int)<t:=O;have n0:Q<=10000:=O;obtain⟨n6,s0,c5,y,a1,b8⟩:=ZU (P:=prog) 88 5 _ _ underlying88 Zli rfl u hb.o hb.o.size (.int .u8 (c.toNat:Int)) rfl gn O;rw[W8] at y;have G:Q+1=(q++[c]).length:=(by rw[bT,pi,z]);rw[G] at y;obtain⟨a8,i8,a5,g7⟩:=dm (I.o.keep b8) y a1 c5;have p0:Hid ((q++[c]).length=ol+(j+1)):=J (by rw[<-G];omega);have p1:Hid (QE (b+1) (t-(j+1)) (q++[c])=QE (b+1) t o):=J (by rw[show t-(j+1)=r by omega];exact M);obtain⟨A5,o9,q0,rfl⟩:=Za y;generalize (c.toNat:Int)=C at*;clear i5 e7 F I hb u c4 M j6 b4 j5 c5 y a1 b8 G z k0 l5;go_wp2_with (at_builtin;refine Z5 FB rfl _ _ _ rfl _ _ (by rfl) (by rfl) g7.o ?_);refine⟨⟨j+1,_,_,q6,ck,rfl,p0,p1,i8,a8,a5⟩,?_⟩;simp[intOf]<;>omega
   have q9:j=t:=O;subst q9;have M:=e7.o;rw[fv] at M;have k1:q=QE (b+1) j o:=M;have p7:¬(j:Int)<j:=O;have p5:Hid (rz f1 n q e5 d7=R):=J (by rw[k1];exact p4.o);have p2:Hid (n<=q+f1):=J (by rw[z];omega);have r6:Hid (q<=n):=J (by rw[z];omega);have f6:Hid (n-Q<n-ol):=J O;have o1:Hid (wr.ownsRow w 5 1 (.slice (some ⟨g,0,none⟩) Q k9) q (q.map bv)):=J (by rw[z];exact u);clear i5 e7 M k1 z k0 l5 u;go_wp2;refine⟨⟨f1,q,e5,d7,_,rfl,I,j1,p5,p2,r6,o1,hb⟩,?_⟩;exact f6.o
 have i2:o=n:=(by have:=l.o;omega);have i0:R=some o:=(by rw[<-c9.o];exact Znn ab);subst i0;have p9:¬(ol:Int)<n:=O;have q7:=Vp (P:=prog) 88 9 5 underlying88 underlying5 underlying9 F.o;rw[e4] at q7⊢;have k3:Ik (some o)=.tuple #[bs o,true]:=rfl;have p3:=J k3;generalize bs o=OS at*;clear I a6 c9 a2 l F k3 i2 ab;go_wp2;go_returns;rw[p3.o];exact⟨rfl,hb.o⟩
end Go.Proofs.Y
namespace Wv
open Go.Proofs.Tryz 
theorem Zno:∀(f n:Nat) (o:ax) (m:Ms) (d:De) (s:ax),o<=n->rz f n o m d=some s->s.length<=n:=by
 intro f;induction f with
 |zero=>intro n o m d s h hs;injection hs with hs;rw[<-hs];exact h
 |succ f ih=>
  intro n o m d s h hs;rw[rz] at hs;split at hs
  .split at hs;exact ih n _ _ _ s (by rw[bT,pi];omega) hs;split at hs;cases hs;rename_i hb;refine ih n _ _ _ s ?_ hs
   have key:∀(d k:Nat) (o:ax),(QE d k o)=o.length+k:=by
    intro d k;induction k with
    |zero=>intro o;rfl
    |succ k ih=>intro o;show(QE d k (o++_)).length=_;rw[ih,bT,pi];omega
   rw[key];unfold zu at hb;simp only[Bool.or_eq_true,fE,not_or] at hb;omega
  injection hs with hs;rw[<-hs];exact h
end Wv
namespace Go.Proofs.Y
open Tryz Wv Go.RowKit
theorem HA (a b:ax):(((bs a).toList !=(bs b).toList)= !decide (a=b))/\(((bs a).toList==(bs b).toList)=decide (a=b)):=by
 have g:((bs a).toList==(bs b).toList)=decide (a=b):=by rw[lO,beq_iff_eq,fE,ByteArray.toList_eq,ByteArray.toList_eq];exact Iff.rfl
 exact⟨by rw[bne,g],g⟩
def yb (x:ax×Nat):aJ:=.tuple #[bs x.1,x.2]
theorem R' (data:ax) (hd:data.length<=1000000000) (most:Int) (w:au):
  Calls prog 126 #[bs data,most] w (bN w (yb (qm data most))):=by
 have B:=J (ZT (bs data) w);have b6:(bs data).size<=1099511627776:=CG;have I:=J (λ(W:au) (b:Nat) (h:RV W b (bs data) 0)=>Zl h b6 4096);have c4:bs ([]:ax)=⟨#[]⟩:=rfl
 have G:qm data most=match dI data 4096 with
  |none=>([],12)
  |some (n,r)=>if most<(n:Int) then([],2) else match ya r n with
   |none=>([],12)
   |some s=>if lx s=some data then(s,0) else([],12):=rfl
 obtain⟨b3,a5⟩:=ay (qm data most);rw[a5] at G⊢;rcases a1:dI data 4096 with _|q;rw[a1] at G;simp only at G;subst G;obtain⟨e,c3,a9⟩:=UI a1;rw[show((4096:Nat):Int)=4096 from rfl] at a9;rw[a9] at I;have b8:((e:Int) !=0)=true:=fb;have M:yb ([],12)=.tuple #[.string ⟨#[]⟩,(12:Int)]:=rfl;rw[M];generalize bs data=S at*;exact NN;obtain⟨n,r⟩:=q;rw[a1] at G;simp only at G;obtain⟨k1,k2,k3⟩:=J5 a1;rw[show((4096:Nat):Int)=4096 from rfl] at k1;rw[k1] at I;simp only at I;by_cases b1:most<(n:Int);rw[aP b1] at G;subst G;have M:yb ([],2)=.tuple #[.string ⟨#[]⟩,(2:Int)]:=rfl;rw[M];generalize bs data=S at*;generalize bs r=RS at*;exact NN;rw[az b1] at G;have a2:(bs r).size=r:=Z0 r;have b5:Zb (bs r) 0 (r.length:Int)=(bs r,bs [],0):=by rw[Xv aW,pm,wY]
 have p:=J (λ(W:au) (b:Nat) (h:RV W b (bs r) 0)=>ZB h (by rw[a2];omega));have l:=J (λ(W:au) (b:Nat) (h:RV W b (bs r) 0)=>Zr h (by rw[a2];omega) (r.length:Int));rw[b5] at l;rw[a2] at p;simp only at l;have k:=J (λW=>ZbB r n k2 W);have b9:r.length<=1000000000:=O;generalize c5:bs r=RS at*;rcases a4:ya r n with _|s;.rw[a4] at G k;simp only at G;subst G;have M:yb ([],12)=.tuple #[.string ⟨#[]⟩,(12:Int)]:=rfl;have a8:Ik none=.tuple #[.string ⟨#[]⟩,false]:=rfl;rw[a8] at k;rw[M];generalize bs data=S at*;generalize bs ([]:ax)=E0 at*;go_in;go_wp21;refine aO B.o λw1 ⟨h1,z⟩=>?_;go_wp21;refine aO (I.o _ _ h1) λw2 ⟨h2,an⟩=>?_;have g:=J (Zf h2);have aa:=ZQ z aW an;go_wp21;refine cq g.o ?_;go_wp21;refine cq (p.o _ _ h2) ?_;go_wp21;refine aO (l.o _ _ h2) λw3 ⟨a7,b4⟩=>?_;have y:=ZQ aa aW b4;go_wp21;refine aO (k.o _) λb0 u=>?_;have hb:=J (y.trans (u.mono y.size));go_wp2;go_returns;exact⟨rfl,hb.o⟩
 rw[a4] at G k;simp only at G;have a8:Ik (some s)=.tuple #[bs s,true]:=rfl;rw[a8] at k;have b7:s.length<=1000000000:=by have:=Zno n n [] m0 (d0 r) s (cf _) a4;omega
 have E:=J (λW=>Sa s b7 W);rcases a0:lx s with _|t;.rw[a0,az (by simp)] at G;subst G;have a3:nj none=.tuple #[.string ⟨#[]⟩,(9:Int)]:=rfl;rw[a0,a3] at E;have M:yb ([],12)=.tuple #[.string ⟨#[]⟩,(12:Int)]:=rfl;rw[M];generalize bs data=S at*;generalize bs s=F at*;generalize bs ([]:ax)=E0 at*;go_in;go_wp21;refine aO B.o λw1 ⟨h1,z⟩=>?_;go_wp21;refine aO (I.o _ _ h1) λw2 ⟨h2,an⟩=>?_;have g:=J (Zf h2);have aa:=ZQ z aW an;go_wp21;refine cq g.o ?_;go_wp21;refine cq (p.o _ _ h2) ?_;go_wp21;refine aO (l.o _ _ h2) λw3 ⟨a7,b4⟩=>?_;have y:=ZQ aa aW b4;go_wp21;refine aO (k.o _) λb0 u=>?_;have hb:=y.trans (u.mono y.size);go_wp21;refine aO (E.o _) λa6 Q=>?_;have D:=J (hb.trans (Q.mono hb.size));exact EX
 have a3:nj (some t)=.tuple #[bs t,(0:Int)]:=rfl;rw[a0,a3] at E;rw[a0] at G;obtain⟨q1,q2⟩:=HA t data;have b2:yb b3=if t=data then .tuple #[bs s,(0:Int)] else .tuple #[.string ⟨#[]⟩,(12:Int)]:=by rw[G];by_cases h:t=data;rw[aP rr,aP h];rfl;rw[az CE,az h];rfl
 rw[b2];by_cases R:t=data;rw[aP R];rw[cT R] at q1 q2;exact NY;rw[az R];rw[cG R] at q1 q2;exact NY
