import Derived.Test.YtnjkjoklnephcaaGreatDoorJ18
set_option linter.all false
set_option maxRecDepth 100000
set_option maxHeartbeats 0
theorem EY{P:Prop}(h:P:=by have:=l.o;have:=k.o;omega):P:=h
theorem EP{P:Prop}(h:P:=by go_wp2;go_returns;exact⟨rfl,u.o⟩):P:=h
theorem NG{P:Prop}(h:P:=by go_in;go_wp21;refine aP y.o λw1 ⟨h1,z⟩=>?_;go_wp21;refine aP (I.o _ _ h1) λw2 ⟨h2,b1⟩=>?_;have g:=J (Ze h2);have aa:=ZQ z aU b1;go_wp21;refine cp g.o ?_;go_wp2;go_returns;exact⟨rfl,aa⟩):P:=h
theorem Nn{P:Prop}(h:P:=by generalize bs data=S at*;generalize bs s=D at*;generalize bs t=TT at*;generalize bs ([]:ax)=E0 at*;go_in;go_wp21;refine aP y.o λw1 ⟨h1,z⟩=>?_;go_wp21;refine aP (I.o _ _ h1) λw2 ⟨h2,b1⟩=>?_;have g:=J (Ze h2);have aa:=ZQ z aU b1;go_wp21;refine cp g.o ?_;go_wp21;refine cp (p.o _ _ h2) ?_;go_wp21;refine aP (l.o _ _ h2) λw3 ⟨a7,b2⟩=>?_;have M:=ZQ aa aU b2;go_wp21;refine aP (k.o _) λb8 an=>?_;have hb:=M.trans (an.mono M.size);go_wp21;refine aP (B.o _) λb0 a0=>?_;have u:=J (hb.trans (a0.mono hb.size));go_wp2;go_returns;exact⟨rfl,u.o⟩):P:=h
namespace Go.Proofs.Y
open Tryz Wv Go.RowKit
variable{B M T bb cb i ib j k n q sb:Nat}{l:List (Nat×Nat)}{v:aI}{w w':aq}{xs:List aI}
def Lq (q:Nat) (g:Option St) (tb:List St):List St:=List.replicate q dU++g.getD dU::tb
theorem Zof (q:Nat) (g:Option St) (tb:List St):(Lq q g tb)=q+tb.length+1:=by unfold Lq;rw[bV,iE,gd];omega
theorem Zqr (q:Nat) (g:Option St) (tb:List St):(Lq q g tb).getD q dU=g.getD dU:=by unfold Lq;rw[pf,pO (by simp),iE,fh];rfl
theorem Zoe (q:Nat) (g:Option St) (tb:List St) (h:1<=k):(Lq q g tb).getD (q+k) dU=tb.getD (k-1) dU:=by unfold Lq;rw[pf,pO (by simp),iE,Nat.add_sub_cancel_left];obtain⟨j,rfl⟩:∃j,k=j+1:=⟨k-1,O⟩;rw[List.getElem?_cons_succ,vI,pf]
theorem Zoh (q:Nat) (g:Option St) (tb:List St) (x:St):(Lq q g tb).set q x=Lq q (some x) tb:=by unfold Lq;rw[nj _ _ (by simp),iE,fh];rfl
theorem ZnS (q:Nat) (g:Option St) (tb:List St) (t:Pc) (h:1<=t.len):(if(!g.isSome||DS (zN (Lq q g tb) q t) ((Lq q g tb).getD q dU))=true then(Lq q g tb).set q (zN (Lq q g tb) q t) else Lq q g tb)=Lq q (kY tb g t) tb:=by have k:zN (Lq q g tb) q t=zG tb t:=(by unfold zN zG;rw[Zoe q g tb h]);rw[k,Zqr,Zoh];unfold kY;rcases g with _|c;rfl;simp only[Option.isSome_some,Bool.not_true,Bool.false_or,Option.getD_some];split<;>rfl
theorem Zog {g:Option St} {tb:List St} (l:∀x∈tb,x.cost<=M/\x.pcs<=M) (p:∀x,g=some x->x.cost<=M/\x.pcs<=M):∀x∈Lq q g tb,x.cost<=M/\x.pcs<=M:=by intro x k;unfold Lq at k;rcases lc.1 k with h|h;rw[List.eq_of_mem_replicate h];exact⟨cf _,cf _⟩;rcases jA.1 h with h|h;rcases g with _|c;rw[h];exact⟨cf _,cf _⟩;rw[h];exact p c rfl;exact l x h
theorem Zew {g:Option St} {tb:List St} (h:mg w T bb ib cb sb (Lq q g tb) q g.isSome) (E:q+tb.length=n) (Q:n<=4096) (p:∀x∈tb,x.cost<=M/\x.pcs<=M) (G:M<=160000) (y:∀x,g=some x->x.cost<=M+38/\x.pcs<=M+38) (t:Pc) (h1:1<=t.len) (F:q+t.len<=n) (u:t.dist<=4096):
  cK 204 #[.agg (qY t),(bb,0),(ib,0),(cb,0),(sb,0)] w λx w'=>x=.returned (.tuple #[])/\mg w' T bb ib cb sb (Lq q (kY tb g t) tb) q (kY tb g t).isSome/\(∀x,kY tb g t=some x->x.cost<=M+38/\x.pcs<=M+38)/\Fr (λk=>k=T\/k=sb) w w':=by have I:=Zof q g tb;have Zpb:(kY tb g t).isSome=true:=(by obtain⟨x,l⟩:=F8 tb g t;rw[l];rfl);have D:=Zog (q:=q) (M:=M+38) (λx l=>by have:=p x l;omega) y;refine(ZiW h O (λx l=>by have:=D x l;omega) t O u h1 O).mono ?_;rintro x w' ⟨rfl,z,B⟩;rw[ZnS q g tb t h1] at z;rw[Zpb];exact⟨rfl,z,B_ p y (GC u O),B⟩
theorem ZnD:(prog.info? 282).map (λi=>(i.zero,i.size,i.bytes))=some (some (.agg #[(0:Int),(0:Int),(0:Int),(0:Int),.int .u8 0]),5,40):=dw
theorem Zbt (n:Nat):madeCells #[(0:Int),(0:Int),(0:Int),(0:Int),.int .u8 0] (n*5)=ou (List.replicate n dU):=by
 apply Array.ext_getElem?;intro i;unfold madeCells;rcases Nat.lt_or_ge i (n*5) with h|h
 .have g:i/5<(List.replicate n dU).length:=(by rw[iE];omega);obtain⟨a,b,c,d,e⟩:=Lx (List.replicate n dU) (i/5) g;have k:(List.replicate n dU).getD (i/5) dU=dU:=by rw[pf,fb g,Nb];rfl
  rw[k] at a b c d e;have hi:i=i/5*5+i % 5:=O;rw[Array.getElem?_map,Array.getElem?_range];rw[aQ h];rcases(show i % 5=0\/i % 5=1\/i % 5=2\/i % 5=3\/i % 5=4 by omega) with r|r|r|r|r
  all_goals
   rw[r] at hi;simp only[Cg,Array.size,List.size_toArray,gd,xa,Nat.reduceAdd,r]
  .rw[hi,tS,a];rfl
  .rw[hi,b];rfl
  .rw[hi,c];rfl
  .rw[hi,d];rfl
  rw[hi,e];rfl
 have h1:(ou (List.replicate n dU)).size<=i:=by unfold ou;simp only[List.size_toArray,List.length_flatMap,List.map_replicate,List.sum_replicate_nat];have:(BD dU).length=5:=rfl;rw[this];exact h
 rw[Array.getElem?_eq_none h1,Array.getElem?_map,Array.getElem?_range,aD O];rfl
theorem Zj1 (n:Nat) (q:n<=5000) (w:aq):(Instr.makeSlice 280 n n).run prog w=.ok (.slice (some (w,0)) n n) (w.alloc (.cells (ou (List.replicate n dU)) 282)):=by obtain⟨i,hi,p,l,g⟩:=info_parts ZnD;have k:=run_make (P:=prog) w 280 282 i _ underlying280 hi p .i64 .i64 (n:Int) (n:Int) O O (by rw[g];omega) O;rw[k,ep,l,<-Zbt];rfl
theorem VA (w:aq):Calls prog 203 #[(4096:Int)] w λx w'=>x=.returned true/\w=w':=xf
theorem Tj (w:aq):Calls prog 202 #[ua] w (bM w true):=by
 have g:=J (Bk.newN (w.alloc (.cells #[(9:Int),(12:Int),(1:Int),(1:Int)] 236)) 3 #[(9:Int),(12:Int),(1:Int),(1:Int)] (n:=w.heap.size+1) (by simp));have hb:=J (((bf w w).alloc aU (.cells #[(9:Int),(12:Int),(1:Int),(1:Int)] 236)).alloc (by simp) (.cells #[(9:Int),(12:Int),(1:Int),(1:Int)] 3));unfold ua;go_in;go_wp2;generalize (w.alloc (.cells #[(9:Int),(12:Int),(1:Int),(1:Int)] 236)).alloc (.cells #[(9:Int),(12:Int),(1:Int),(1:Int)] 3)=W0 at*;go_loopw [15] (λl wr=>∃k:Nat,k<=4/\l=k/\wr=W0) (λl _=>(4-intOf l).toNat);exact⟨0,O,rfl,rfl⟩;obtain⟨k,q,rfl,rfl⟩:=hrel;have c0:=g.o.cell 0;have c1:=g.o.cell 1;have c2:=g.o.cell 2;have p:=g.o.cell 3;simp at c0 c1 c2 p;rcases(show k=0\/k=1\/k=2\/k=3\/k=4 by omega) with rfl|rfl|rfl|rfl|rfl;.go_wp2;refine⟨⟨1,O,rfl,mG⟩,?_⟩;simp[intOf]
 .go_wp2;refine⟨⟨2,O,rfl,mG⟩,?_⟩;simp[intOf]
 .go_wp2;refine⟨⟨3,O,rfl,mG⟩,?_⟩;simp[intOf]
 .go_wp2;refine⟨⟨4,O,rfl,mG⟩,?_⟩;simp[intOf]
 go_wp2;go_returns;exact⟨rfl,hb.o⟩
def pcL (t:Pc):List aI:=[.int .i64 (t.len:Int),.int .i64 (t.dist:Int),.int .u8 (t.byte.toNat:Int)]
def qo (l:List Pc):List aI:=l.flatMap pcL
structure wK (w:World) (T bb ib cb:Nat) (L:List St) (iv:Int):Prop where
 tb:Bk w T 282 (ou L)
 best:Bk w bb 280 #[.slice (some ⟨T,0,none⟩) L.length L.length]
 i:Bk w ib 3 #[iv]
 c:Bk w cb 236 #[(9:Int),(12:Int),(1:Int),(1:Int)]
theorem wK.below {L:List St} {iv:Int} (h:wK w T bb ib cb L iv) (hb:Below w w w'):wK w' T bb ib cb L iv:=
 ⟨h.tb.below hb h.tb.lt,h.best.below hb h.best.lt,h.i.below hb h.i.lt,h.c.below hb h.c.lt⟩
theorem wK.try {L:List St} (h:wK w T bb ib cb L (i:Int)):mg (w.alloc (.cells #[false] 4)) T bb ib cb w L i false:=
 ⟨h.tb.alloc _,h.best.alloc _,h.i.alloc _,h.c.alloc _,Bk.new _ _ _⟩
def Lk (s:ax) (k:Nat):List St:=List.replicate k dU++pL s (s.length-k)
theorem Zlk (s:ax) (q:Nat):Lk s (q+1)=Lq q none (pL s (s.length-(q+1))):=by unfold Lk Lq;rw[List.replicate_succ',er];rfl
theorem Zhi (s:ax):List.replicate (s.length+1) dU=Lk s s.length:=by unfold Lk;rw[fh,List.replicate_succ'];rfl
theorem Zlj (s:ax) (q:Nat) (k:q<s) {x:St} (g:(vi s q).foldl (kY (pL s (s.length-(q+1)))) none=some x):Lq q (some x) (pL s (s.length-(q+1)))=Lk s q:=by unfold Lk Lq;have e:s.length-q=(s.length-(q+1))+1:=O;rw[e];show _=_++(xy s (s.length-1-(s.length-(q+1))) _::_);rw[show s.length-1-(s.length-(q+1))=q by omega];unfold xy;rw[g]
theorem Zkq (s:ax) (h:k<=s):(Lk s k)=s.length+1:=by unfold Lk;rw[bV,iE,M_];omega
theorem K' {cap g:Nat} {o:List (Nat×Nat)} (h:w.ownsRow B 287 2 (.slice (some (g,0)) n cap) n (lq o)) (t:k<o):w.cell? ⟨g,k*2,none⟩=((o.getD k (0,0)).1:Int)/\w.cell? ⟨g,k*2+1,none⟩=((o.getD k (0,0)).2:Int):=by
 have key:∀(o:List (Nat×Nat)) (k:Nat),k<o.length->(lq o)[k*2]? =((o.getD k (0,0)).1:Int)/\(lq o)[k*2+1]? =((o.getD k (0,0)).2:Int):=by
  intro o;induction o with
  |nil=>intro k h;simp at h
  |cons c r ih=>
   intro k h;cases k with
   |zero=>exact⟨rfl,rfl⟩
   |succ k=>
    obtain⟨a,b⟩:=ih k Ct;have p:(lq (c::r))[(k+1)*2]? =(lq r)[k*2]? :=by unfold lq;rw[sW,pO (by show 2<=_;omega)];congr 1;show(k+1)*2-2=_;omega
    have q:(lq (c::r))[(k+1)*2+1]? =(lq r)[k*2+1]? :=by unfold lq;rw[sW,pO (by show 2<=_;omega)];congr 1;show(k+1)*2+1-2=_;omega
    rw[p,q,IB];exact⟨a,b⟩
 obtain⟨a,b⟩:=key o k t;have h1:=h.cells (g:=g) rfl _ _ a;have l:=h.cells (g:=g) rfl _ _ b;rw[Go.WideShapes.add_plain,jK] at h1 l;exact⟨h1,l⟩
def Ie (v:aI) (w:aq):Nat:=match v with
 |.pointer (some a)=>match w.cell? a with
  |some (.int _ n)=>(n+1).toNat
  |_=>0
 |_=>0
theorem r_ {a:Addr} {k:IntKind} {n:Int} (h:w.cell? a=some (.int k n)):Ie (.pointer (some a)) w=(n+1).toNat:=by unfold Ie;simp only;rw[h]
theorem Zjd {w1:aq} (k:Bk w1 cb 236 #[(9:Int),(12:Int),(1:Int),(1:Int)]) {L:List St} {m:Nat} (g:L=m) (iv:Int):
  wK (((w1.alloc (.cells (ou L) 282)).alloc (.cells #[.slice (some (w1,0)) m m] 280)).alloc (.cells #[iv] 3)) w1.heap.size (w1.heap.size+1) (w1.heap.size+1+1) cb L iv/\
  Below w1.heap.size w1 (((w1.alloc (.cells (ou L) 282)).alloc (.cells #[.slice (some (w1,0)) m m] 280)).alloc (.cells #[iv] 3)):=by
 subst g
 exact⟨⟨((Bk.new _ _ _).alloc _).alloc _,(Bk.newN _ _ _ (by simp)).alloc _,Bk.newN _ _ _ (by simp),((k.alloc _).alloc _).alloc _⟩,
  (((bf w1 w1).alloc aU _).alloc (by simp) _).alloc fj _⟩
theorem VK {wr wx:aq} (h:Below B w wr) (l:B<=wr) (p:Fr (λk=>k=T\/k=sb) wr wx) (h1:B<=T) (q:B<=sb):Below B w wx:=
 h.trans (p.toBelow' l (λk t g=>by rcases g with g|g<;>omega))
theorem ZpP {L:List St} {seen:Bool} (h:w.ownsRow B 287 2 v n xs) (q:mg w T bb ib cb sb L i seen) (t:Fr (λk=>k=T\/k=sb) w w'):w'.ownsRow B 287 2 v n xs:=
 Z6 h t (λg p l=>by rcases l with l|l;exact Z1 h q.tb aY (l▸p);exact Z1 h q.sn aY (l▸p))
def Ip (n q:Nat) (l:List (Nat×Nat)):Prop:=∀c∈l,2<=c.1/\q+c.1<=n/\c.2<=4096
theorem Zdh {s:ax} (p:q<=s):Ip s q (rD s q):=λc k=>by obtain⟨h1,l,_,_,g,_⟩:=(K9 s q).1 c k;have:XV s q<=s.length-q:=Nat.min_le_right _ _;exact⟨h1,O,g⟩
theorem ZlD (s:ax) (i most:Nat):∀p b o,(pB s i most p b o).length<=o.length+p:=by
 intro p;induction p with
 |zero=>intro b o;exact aU
 |succ p ih=>intro b o;rw[pB];split;exact O;split;have:=ih b o;omega;split;have:=ih (oM s p i most) (o++[(oM s p i most,i-p)]);rw[bV,pg] at this;omega;have:=ih b o;omega
theorem ZhJ (s:ax) (i:Nat):(rD s i)<=i:=by have:=ZlD s i (XV s i) i 1 [];unfold rD;simpa using this
theorem U6 (h:Ip n q l) (g:j<l):2<=(l.getD j (0,0)).1/\q+(l.getD j (0,0)).1<=n/\(l.getD j (0,0)).2<=4096:=by rw[pf,fb g];exact h _ (dt _)
theorem Zg9 (h:Ip n q l) (g:j<l):1<=Bl l j/\Bl l j<=n+1:=by unfold Bl;split;obtain⟨a,b,_⟩:=U6 h (j:=j-1) O;omega;omega
theorem Uf {base size:Nat} {e:TypeId} (h:w.ownsRow base e size v n xs) (z:0<n):∃g cap,v=.slice (some ⟨g,0,none⟩) n cap/\n<=cap:=by rcases h.2 with ⟨_,u⟩|⟨p,k,l,t,hb,y,q,_⟩;exact O;exact⟨p,k,t,q⟩
theorem ZqO:(prog.info? 198).map (λi=>(i.zero,i.size,i.bytes))=some (some (.agg #[(0:Int),(0:Int),.int .u8 0]),3,24):=dw
theorem Zbq (s:ax) (h4:s.length<=4096) (w:aq):
  Calls prog 158 #[ua,bs s,(4096:Int)] w λx w'=>∃a6,x=.returned (.tuple #[a6,(0:Int)])/\w'.ownsRow w 198 3 a6 (nS s) (qo (nS s))/\Below w w w':=by
 obtain⟨f4,k8,d5⟩:=bD (λW=>Tj W) (λW=>VA W) (λi (hi:i<=s.length) W=>Zbw s h4 i hi W);have l7:(bs s).size=s:=Z0 s;obtain⟨n,g8⟩:=ay s.length;have d3:=λW=>Zj1 (n+1) O W;have r9:((n+1:Nat):Int)=(n:Int)+1:=O;rw[r9] at d3;obtain⟨p0,o0,b2,i4,d9,j6⟩:=fA (Bk.new w 236 #[(9:Int),(12:Int),(1:Int),(1:Int)]) ((bf w w).alloc aU (.cells #[(9:Int),(12:Int),(1:Int),(1:Int)] 236)) (yY s) (λq a4 x h5=>Zlj s q a4 (x:=x) h5) (λq=>Zlk s q) (λq (a4:q<s.length)=>Zgw s (s.length-(q+1)) O);have i5:=J (λq (a4:q<=s.length)=>Zdh a4);have o6:=J (λk=>M_ s k);obtain⟨S,n0⟩:=ay (bs s);have e7:=J (Zhi s);have f6:(Lk s s).length=s+1:=Zkq s aU;rw[n0] at l7 d5 b2⊢;rw[g8] at l7 h4 d5 b2 e7 i4 d9 j6 i5 f6;have v4:¬(4096:Int)<S.size:=O;have s5:decide ((4096:Int)<n)=false:=cI O;have I:=J g8;rw[e7.o] at d3;have p3:=J f6;clear g8 n0 f6;unfold ua at f4⊢;go_in;go_wp21;refine aP (f4.o _) λw1 c3=>?_;go_wp21;refine cp (k8.o _) ?_;have r4:=d3 w1;have r1:=c3.size;rw[World.size_alloc] at r1;obtain⟨B,l5⟩:=Zjd (p0.o.below c3 (by simp)) p3.o ((n:Int)-1);have l8:=(o0.o.trans (c3.mono (by simp))).trans (l5.mono O);have o9:=J B;have o4:=J l8;clear B l5 l8 p0 o0 c3 f4 k8 d3;generalize ou (Lk s n)=ST at*;go_wp2;generalize ((w1.alloc (.cells ST 282)).alloc (.cells #[.slice (some ⟨w1.heap.size,0,none⟩) (n+1) (n+1)] 280)).alloc (.cells #[((n:Int)-1:Int)] 3)=W0 at*;clear r4;have l3:w.heap.size<=w1.heap.size:=O;generalize w1.heap.size+1+1=h7 at*;generalize w1.heap.size+1=bb at*;generalize w1.heap.size=T at*;go_loopw [9] (λi7 wr=>∃(k ib:Nat),k<=n/\i7=.pointer (some (ib,0))/\Hid (wK wr T bb ib w (Lk s k) ((k:Int)-1))/\Hid (Below w w wr)) (λi7 wr=>Ie i7 wr);exact⟨n,h7,aU,rfl,o9,o4⟩;clear o9 o4;obtain⟨k,ib,s4,rfl,B,hb⟩:=hrel;have a0:=B.o.i.cell 0;have n8:=B.o.i.lt;have k2:=B.o.best.lt;have o5:=B.o.tb.lt;have m5:=B.o.c.lt;simp at a0;have i6:=J (r_ a0);by_cases ab:0<k
 .obtain⟨q,rfl⟩:∃q,k=q+1:=⟨k-1,O⟩;have i1:((q+1:Nat):Int)-1=(q:Int):=O;rw[i1] at a0 B i6;have a4:q<n:=O;have i3:=B.o.try;rw[d9.o] at i3;have i0:=i4.o q a4;have o7:=j6.o q a4;have n5:=i5.o q O;have r8:=o6.o (n-(q+1));generalize pL s (n-(q+1))=tb at*;have k7:q+tb.length=n:=O;have m9:38*(n-(q+1))<=160000:=O;have g6:=ZhJ s q;have b6:vi s q=ui (rD s q).reverse++[vu s q]:=rfl;rw[b6] at i0;have k5:=J (d5.o q O (wr.alloc (.cells #[false] 4)));generalize rD s q=l at*;obtain⟨X,g0⟩:∃X,(ui l.reverse++[vu s q]).foldl (kY tb) none=some X:=by rw[rk];exact F8 _ _ _
  obtain⟨k4,q6,j9⟩:=bD g0 (i0 X g0) (λ(W:aq) (u:Option St) (h:mg W T bb ib w wr (Lq q u tb) q u.isSome) hc t h1 h2 h3=>Zew h k7 h4 o7 m9 hc t h1 h2 h3);have k9:=hb.o.size;obtain⟨e9,l1,l0⟩:=bD (hb.o.alloc k9 (.cells #[false] 4)) i3 n5;clear i3 g0 i0 o7 n5 r8 k7 m9 b6 B;go_wp21;refine(k5.o).mono ?_;rintro x u0 ⟨a6,rfl,M,aa⟩;obtain⟨A,cap,rfl,_⟩:=Zh M;obtain⟨d1,h8,c5⟩:=bD (l1.o.below aa) (K4 M (show w.heap.size<=_ by rw[World.size_alloc];omega)) (e9.o.trans (aa.mono e9.o.size));have v7:l.length<=4096:=O;have h0:Hid ((ui ((l.take l).reverse)++[vu s q]).foldl (kY tb) none=some X):=(by rw[pi];exact k4);have s1:Hid (∀k,k<l.length->∃b,A=some ⟨b,0,none⟩):=J (λk s4=>by obtain⟨g,c2,e,_⟩:=Uf h8.o O;injection e with f5 v2 v3;exact⟨g,f5⟩);clear l1 M aa e9 k5 a0 n8 k2 o5 m5 k4 g6;go_wp2;have k6:w<=wr.heap.size:=k9;generalize wr.heap.size=sb at*;go_loopw [13] (λh9 wx=>∃(kk:Nat) (u:Option St),kk<=l/\h9=((kk:Int)-1:Int)/\Hid (mg wx T bb ib w sb (Lq q u tb) q u.isSome)/\Hid (wx.ownsRow w 287 2 (.slice A l cap) l (lq l))/\Hid ((ui ((l.take kk).reverse)++[vu s q]).foldl (kY tb) u=some X)/\Hid (∀x,u=some x->x.cost<=38*(n-(q+1))+38/\x.pcs<=38*(n-(q+1))+38)/\Hid (Below w w wx)) (λh9 _=>(intOf h9+1).toNat);exact⟨l.length,none,aU,rfl,d1,h8,h0,J (λx h5=>by cases h5),c5⟩;clear d1 h8 h0 c5;obtain⟨kk,u,o3,rfl,E,D,R,Q,G⟩:=hrel;by_cases c6:0<kk
  .obtain⟨j,rfl⟩:∃j,kk=j+1:=⟨kk-1,O⟩;have s7:((j+1:Nat):Int)-1=(j:Int):=O;rw[s7];have b0:j<l.length:=O;obtain⟨g,rfl⟩:=s1.o j b0;obtain⟨t6,u1,p1⟩:=U6 l0.o b0;have b7:=Zci b0;have u2:=Zg9 l0.o b0;have y:=R.o;rw[b7] at y;obtain⟨c1,c2⟩:=K' D.o b0;obtain⟨hi,o1⟩:=ay ((l.getD j (0,0)).1);obtain⟨d,hd⟩:=ay ((l.getD j (0,0)).2);obtain⟨a2,d8⟩:=ay (Bl l j);rw[o1] at t6 u1 c1 y;rw[hd] at p1 c2 y;rw[d8] at u2 y;have F:=J y;have u5:(j:Int)<l:=O;have v6:(0:Int)<=j:=O;have b9:=J d8;have e4:=J hd;clear b7 R y o1 hd d8 ab o3 c6;go_upto_if 53 with fail;go_cut [14] (λt3 i8=>t3=a2/\wr=i8)
   case first=>
    clear E F Q G c1 c2;by_cases g5:0<j
    .have s2:(0:Int)<j:=O;have f5:(j:Int)-1=((j-1:Nat):Int):=O;obtain⟨c1,c2⟩:=K' D.o (k:=j-1) O;have c4:(l.getD (j-1) (0,0)).1=a2:=by rw[<-b9.o];unfold Bl;rw[aQ g5]
     rw[c4] at c1;have r7:((j-1:Nat):Int)<(l.length:Int):=O;obtain⟨t1,k1⟩:=ay (j-1);rw[k1] at f5 c1 c2 r7;have n1:(0:Int)<=t1:=O;clear D b9 k1 c4;go_wp2;go_meet;case rel=>exact⟨rfl,rfl⟩
    have Rd:j=0:=O;subst Rd;have c4:a2=1:=(by rw[<-b9.o];rfl);subst c4;clear D b9;go_wp2;go_meet;case rel=>exact⟨rfl,rfl⟩
   obtain⟨rfl,rfl⟩:=hcut;clear b9;have s0:j<=l.length:=O;go_wp2;go_loopw [15] (λd6 j0=>∃(m:Nat) (u:Option St),m<=hi/\d6=m/\Hid (mg j0 T bb ib w sb (Lq q u tb) q u.isSome)/\Hid (j0.ownsRow w 287 2 (.slice (some ⟨g,0,none⟩) l cap) l (lq l))/\Hid (((sq m a2 d++ui ((l.take j).reverse))++[vu s q]).foldl (kY tb) u=some X)/\Hid (∀x,u=some x->x.cost<=38*(n-(q+1))+38/\x.pcs<=38*(n-(q+1))+38)/\Hid (Below w w j0)) (λd6 _=>(intOf d6).toNat);exact⟨hi,u,aU,rfl,E,D,F,Q,G⟩;clear c1 c2 E D F Q G;obtain⟨m,u,g7,rfl,E,D,R,Q,G⟩:=hrel;by_cases s8:a2<m;.have m4:=Zdu (d:=d) s8;have y:=R.o;rw[m4] at y;have F:Hid (((sq (m-1) a2 d++ui ((l.take j).reverse))++[vu s q]).foldl (kY tb) (kY tb u ⟨m,d,0⟩)=some X):=J y;have z:=j9.o wr u E.o Q.o ⟨m,d,0⟩ dz dz dz;unfold qY at z;simp only at z;have e0:(((0:cj).toNat:Nat):Int)=0:=rfl;rw[e0] at z;have z:=J z;obtain⟨c1,c2⟩:=K' D.o b0;rw[e4.o] at c2;have q8:(a2:Int)<m:=O;have em:(m:Int)-1=((m-1:Nat):Int):=O;obtain⟨n9,m2⟩:=ay (m-1);rw[m2] at em F;have q7:n9<=hi:=O;have n6:=E;clear m4 R y e0 m2 E Q c1;go_wp21;refine aP z.o λa7 ⟨a3,l6,a8⟩=>?_;obtain⟨p9,t9,r6,p7⟩:=dc a3 l6 (ZpP D.o n6.o a8) (VK G.o G.o.size a8 l3 k6);clear a3 l6 a8 D n6 G z;go_wp2;refine⟨⟨n9,_,q7,by first|rfl|(congr 1),p9,r6,F,t9,p7⟩,?_⟩;simp[intOf]<;>omega
   have y:=R.o;rw[Zil O,pU] at y;have F:=J y;have q8:¬(a2:Int)<m:=O;clear R y;go_wp2;refine⟨⟨j,u,s0,by first|rfl|go_num,E,D,F,Q,G⟩,?_⟩;simp[intOf]<;>omega
  have q9:kk=0:=O;subst q9;have k0:kY tb u (vu s q)=some X:=R.o;have z:=j9.o wr u E.o Q.o (vu s q) (Na 1) (by show q+1<=n;omega) (cf _);have g9:q<S.size:=O;have s6:(q:Int)<S.size:=O;have w0:(0:Int)<=q:=O;have b5:=b2.o q O g9;have m8:qY (vu s q)= #[.int .i64 1,.int .i64 0,.int .u8 ((s.getD q 0).toNat:Int)]:=rfl;rw[m8,<-b5,k0,q6.o] at z;have z:=J z;have j3:((0:Nat):Int)-1= -1:=rfl;rw[j3];obtain⟨_,a0,_⟩:=E.o.cells;clear R k0 m8 b5 D Q b2 o3 c6;go_wp21;refine aP z.o λa7 ⟨a3,_,a8⟩=>?_;obtain⟨_,r5,_⟩:=a3.cells;have e6:=VK G.o G.o.size a8 l3 k6;have f9:Hid (wK (a7.alloc (.cells #[((q:Int)-1:Int)] 3)) T bb a7.heap.size w (Lk s q) ((q:Int)-1)):=J ⟨a3.tb.alloc _,a3.best.alloc _,Bk.new _ _ _,a3.c.alloc _⟩;have p6:=J (e6.alloc e6.size (.cells #[((q:Int)-1:Int)] 3));have t4:Hid (Ie (.pointer (some (a7.heap.size,0))) (a7.alloc (.cells #[((q:Int)-1:Int)] 3))=((q:Int)-1+1).toNat):=J (r_ ((Bk.new a7 3 #[((q:Int)-1:Int)]).cell 0));clear a3 a8 e6 E G z a0;go_wp2;refine⟨⟨q,a7.heap.size,O,rfl,f9,p6⟩,?_⟩;rw[t4.o,i6.o];omega
 have c6:k=0:=O;subst c6;have b1:=B.o;have j3:((0:Nat):Int)-1= -1:=rfl;rw[j3] at a0;have j4:Lk s 0=qL s:=(by unfold Lk qL;rw[Nat.sub_zero];rfl);rw[j4] at b1;have p4:=J b1;have c9:(qL s)=n+1:=by rw[<-j4,<-I.o];exact Zkq s (cf _)
 have u7:=J c9;have m7:Hid ([]++ss s n 0=nS s):=J (by rw[pU,<-I.o];rfl);obtain⟨u3,p5,e5,p2⟩:=dc (λi (h:i<n)=>(Vs (by rw[I.o];exact h):rR s i ((qL s).getD i dU).first)) (λf i (h:i<n)=>(Z8r (by rw[I.o];exact h):ss s (f+1) i=((qL s).getD i dU).first::ss s f (i+((qL s).getD i dU).first.len))) (λf=>(Zbj og:ss s f n=[])) (λi (h:i<n+1)=>Lx (qL s) i (by rw[c9];exact h));have a5:=b1.best;rw[c9] at a5;have j8:=J a5;have l2:=J b1.tb;have b8:Hid (wr.ownsRow w 198 3 (.slice none 0 0) ([]:List Pc) (qo [])):=J Zl;clear b1 B j4 i6 c9 a5 n8 k2 o5 m5 d9 i4 j6 i5 o6 d5 b2 e7;go_wp2;clear a0;go_loopw [16,17] (λt2 d7 wx=>∃(i f:Nat) (o:List Pc) (a6:aI),i<=n/\d7=(i:Int)/\t2=a6/\Hid (n<=i+f)/\Hid (o.length<=i)/\Hid (Bk wx T 282 (ou (qL s)))/\Hid (Bk wx bb 280 #[.slice (some (T,0)) (n+1) (n+1)])/\Hid (wx.ownsRow w 198 3 a6 o (qo o))/\Hid (o++ss s f i=nS s)/\Hid (Below w w wx)) (λ_ d7 _=>(n-intOf d7).toNat);exact⟨0,n,[],_,cf _,rfl,rfl,J O,J aU,l2,j8,b8,m7,hb⟩;clear l2 j8 b8 m7 hb;obtain⟨i,f,o,a6,hi,rfl,rfl,g1,c7,b4,a5,M,d2,hb⟩:=hrel;obtain⟨A,cap,rfl,_⟩:=Zh M.o;by_cases ab:i<n;.obtain⟨f1,rfl⟩:∃g,f=g+1:=⟨f-1,by have:=g1.o;omega⟩;have l9:=u3.o i ab;have b3:=l9.pos;rw[I.o] at b3;have j2:=p5.o f1 i ab;obtain⟨_,_,c8,f7,f8⟩:=p2.o i O;obtain⟨p,n3⟩:=ay (((qL s).getD i dU).first);rw[n3] at b3 j2 c8 f7 f8;have a1:=d2.o;rw[j2] at a1;have F:Hid ((o++[p])++ss s f1 (i+p.len)=nS s):=J (by rw[er];exact a1);have q2:=(b4.o.cell (i*5+2)).trans c8;have q3:=(b4.o.cell (i*5+3)).trans f7;have q4:=(b4.o.cell (i*5+4)).trans f8;have t5:=a5.o.cell 0;simp at t5;have v1:(i:Int)<n+1:=O;have n2:(i:Int)<n:=O;have v5:(0:Int)<=i:=O;obtain⟨v9,u0,n4,d4,k3,f3,_⟩:=Vn (P:=prog) 186 198 _ _ 3 underlying186 ZqO rfl O M.o hb.o hb.o.size [.int .i64 (p.len:Int),.int .i64 (p.dist:Int),.int .u8 (p.byte.toNat:Int)] rfl sX (by unfold maxLen;have:=c7.o;omega) (by have:=c7.o;omega);have h6:=f3 _ _ _ b4.o aY;have aa:=f3 _ _ _ a5.o aY;have v8:=(h6.cell (i*5+2)).trans c8;have t8:=aa.cell 0;simp at t8;have n7:o+1=(o++[p]).length:=(by simp);have m6:qo o++[.int .i64 (p.len:Int),.int .i64 (p.dist:Int),.int .u8 (p.byte.toNat:Int)]=qo (o++[p]):=(by simp[qo,pcL]);rw[n7,m6] at d4;obtain⟨q0,d1,c5,p8,r3⟩:=ii d4 h6 aa k3 n4;have m3:Hid (n<=i+p.len+f1):=J (by have:=g1.o;omega);have o2:Hid ((o++[p]).length<=i+p.len):=J (by have:=c7.o;exact fj);obtain⟨A2,u6,v0,rfl⟩:=Z7 d4;clear l9 j2 c8 f7 f8 n3 d2 a1 d4 h6 aa k3 n4 g1 c7 f3 n7 m6 M;obtain⟨m,g7⟩:=ay (i+p.len);rw[g7] at F m3 o2 b3;have u9:(i:Int)+p.len=(m:Int):=O;have e8:m<=n:=b3.2;have u4:i<m:=O;clear b3 g7;go_wp2_with (at_builtin;refine Z5 Ft rfl _ _ _ rfl _ _ (by rfl) (by rfl) r3.o ?_);refine⟨⟨m,f1,o++[p],_,e8,by first|rfl|(congr 1),rfl,m3,o2,d1,c5,q0,F,p8⟩,?_⟩;simp[intOf]<;>omega
 have e8:i=n:=O;subst e8;have a1:=d2.o;rw[e5.o,fg] at a1;have f2:=M.o;rw[a1] at f2;have t7:=J f2;rw[a1];clear d2 a1 M f2 b4 a5;go_wp2;go_returns;exact⟨_,rfl,t7.o,hb.o⟩
end Go.Proofs.Y
namespace Wv
open Go.Proofs.Tryz Go Go.RowKit
theorem Zc6 {w:aq} {B y:Nat} {e p:TypeId} {sz l n F:Nat} {v u:aI} {xs G:List aI} (h:w.ownsRow B e sz v n xs) (D:w.ownsRow y p l u F G) (z:e≠p) {g:Nat} (t:v.ownBlock=some g):u.ownBlock≠some g:=by rcases h.2 with ⟨rfl,_⟩|⟨q,cap,k,rfl,_,E,_⟩;simp[Value.ownBlock] at t;have:q=g:=(by simpa [Value.ownBlock] using t);subst this;exact Z1 D (show Bk w q e k from E) (Ne.symm z)
end Wv
namespace Go.Proofs.Y
open Tryz Wv Go.RowKit
variable{B g n:Nat}{w':aq}
theorem Zn4 {w:aq} {cap:Nat} {o:List Pc} (h:w.ownsRow B 198 3 (.slice (some (g,0)) n cap) n (qo o)) {k:Nat} (t:k<o):w.cell? ⟨g,k*3,none⟩=(o[k].len:Int)/\w.cell? ⟨g,k*3+1,none⟩=(o[k].dist:Int)/\w.cell? ⟨g,k*3+2,none⟩=some (.int .u8 (o[k].byte.toNat:Int)):=by
 have key:∀(o:List Pc) (k:Nat) (t:k<o),(qo o)[k*3]? =(o[k].len:Int)/\(qo o)[k*3+1]? =(o[k].dist:Int)/\(qo o)[k*3+2]? =some (.int .u8 (o[k].byte.toNat:Int)):=by
  intro o;induction o with
  |nil=>intro k h;simp at h
  |cons c r ih=>
   intro k h;cases k with
   |zero=>exact⟨rfl,rfl,rfl⟩
   |succ k=>
    obtain⟨a,b,d⟩:=ih k Ct;have l:∀j,(qo (c::r))[(k+1)*3+j]? =(qo r)[k*3+j]? :=λj=>by unfold qo;rw[sW,pO (by show 3<=_;omega)];congr 1;show(k+1)*3+j-3=_;omega
    have e0:=l 0;simp only[tS] at e0;rw[e0,l,l];exact⟨a,b,d⟩
 obtain⟨a,b,d⟩:=key o k t;have h1:=h.cells (g:=g) rfl _ _ a;have p:=h.cells (g:=g) rfl _ _ b;have q:=h.cells (g:=g) rfl _ _ d;rw[Go.WideShapes.add_plain,jK] at h1 p q;exact⟨h1,p,q⟩
theorem Z6U (s:ax) (y:4096<s.length) (t:s.length<=1000000000) (w:aq):
  Calls prog 158 #[ua,bs s,(4096:Int)] w (bM w (.tuple #[.slice none 0 0,(9:Int)])):=by have k:=J (λW=>Tj W);have p:=J (λW=>VA W);have q:(bs s).size=s:=Z0 s;have z:(4096:Int)<((bs s).size:Int):=O;have l:=J ((bf w w).alloc aU (.cells #[(9:Int),(12:Int),(1:Int),(1:Int)] 236));generalize bs s=S at*;clear q y t;unfold ua at k⊢;go_in;go_wp21;refine aP (k.o _) λw1 g=>?_;go_wp21;refine cp (p.o _) ?_;have u:=J (l.o.trans (g.mono (by simp)));clear g l;exact EP
theorem RN (s:ax) (q:s.length<=4096) (w:aq):
  Calls prog 114 #[bs s] w λx w'=>∃g,x=.returned (.tuple #[g,(0:Int)])/\w'.ownsRow w 198 3 g (nS s) (qo (nS s))/\Below w w w':=by have k:=J (Zbq s q w);generalize bs s=S at*;generalize nS s=R at*;unfold ua at k;go_in;go_wp21;refine(k.o).mono ?_;rintro x w1 ⟨g,rfl,h1,p⟩;obtain⟨A,M,cap,rfl⟩:=Z7 h1;have l:=J h1;clear h1;go_wp2;go_returns;exact⟨_,rfl,l.o,p⟩
theorem Z5l (s:ax) (p:4096<s.length) (k:s.length<=1000000000) (w:aq):
  Calls prog 114 #[bs s] w (bM w (.tuple #[.slice none 0 0,(9:Int)])):=by have g:=J (Z6U s p k w);generalize bs s=S at*;unfold ua at g;go_in;go_wp21;refine aP g.o λw1 l=>?_;go_wp2;go_returns;exact⟨rfl,l⟩
theorem e_ {s:ax} {i:Nat} {t:Pc} (h:rR s i t) (q:s.length<=4096):t.len<=1000000/\t.dist<=1000000/\(t.dist=0/\1<=t.len\/1<=t.dist/\2<=t.len):=by rcases h with ⟨h1,g,_⟩|⟨h1,g,k,l,p,_⟩<;>omega
theorem ZbL (t:Pc) (l:List Pc) (x:Ms×En):XO (t::l) x=XO l (lB t x):=rfl
theorem wnew {p:Pl} {eb:Nat} {dv:aI} (q:BM B p) (t:B<=eb) (hd:∀g,dv.ownBlock=some g->B<=g):∀k,k<B->¬QA p eb dv k:=λk u l=>by rcases l with l|l|l|l|l|l|l;have:=q.kg;omega;have:=q.bb;omega;have:=q.bg;omega;have:=q.lg;omega;have:=q.dg;omega;exact O;have:=hd k l;omega
theorem Zex (s : ax) (q : s.length <= 4096) (f3 : s ≠ []) (w : aq) :
    Calls prog 76 #[bs s] w (bM w (.tuple #[bs (bi s.length++ji (XO (nS s) (m0,e0)).2),(0:Int)])):=by
  have b9:=J (RN s q w);have h5:(bs s).size=s:=Z0 s;have h8:=YU s;rw[cI f3] at h8;have a6:=J (λW=>Zj (s.length:Int) O O W);have g8:=rK s;rw[<-Z0] at g8;have c6:=J (λW=>Tk W);unfold sG at c6;obtain⟨e7,M,i6⟩:=bD (λW=>Vf W) (QL s) (λi t (h:rR s i t)=>e_ h q);obtain⟨n,d4⟩:=ay s.length;have b6:=J d4;rw[d4] at h5 a6 q g8⊢;rw[ep] at a6;have g4:=J (Z9 (bi n) (ji (XO (nS s) (m0,e0)).2));generalize bs s=S at*;obtain⟨l,g2⟩:=ay (nS s);rw[g2] at b9 M g4⊢;generalize bs (bi n)=NS at*;clear d4 g2 f3;go_in;go_wp21;refine(b9.o).mono ?_;rintro x w1 ⟨j5,rfl,d2,c8⟩;obtain⟨A,cap,rfl,_⟩:=Zh d2;go_wp21;refine aP (a6.o _) λj8 aa=>?_;go_wp21;refine(c6.o _).mono ?_;rintro x F ⟨p,rfl,f2,B,c9⟩;go_wp21;refine aP (e7.o _) λy ⟨a0,an⟩=>?_;have s1:=c8.size;have g7:=aa.size;have s3:=c9.size;have i3:=an.size;have c7:Below w1 w1 y:=(aa.trans (c9.mono g7)).trans (an.mono O);have f8:=Z6 d2 (Fr.of_below (S:=nob) c7) (λ_ _ f=>f);have b0:Below w w y:=c8.trans (c7.mono s1);have g1:BM w p:=⟨by have:=B.kb;omega,by have:=B.kg;omega,by have:=B.bb;omega,by have:=B.bg;omega,by have:=B.lb;omega,by have:=B.lg;omega,by have:=B.db;omega,by have:=B.dg;omega⟩
  have e5:kJ ((y.alloc (.cells (sG p) 193)).alloc (.cells #[(F,0)] 195)) p y.heap.size (y.heap.size+1) F (.slice none 0 0) (m0,e0):=
    ⟨(f2.below an).below (((bf y.heap.size y).alloc aU _).alloc (by simp) _),a0.below (((bf y.heap.size y).alloc aU _).alloc (by simp) _),(Bk.new _ _ _).alloc _,Bk.newN _ _ _ (by simp)⟩;have e6:=(f8.alloc (.cells (sG p) 193)).alloc (.cells #[.pointer (some ⟨F,0,none⟩)] 195);have f4:=(b0.alloc b0.size (.cells (sG p) 193)).alloc (co b0.size (by simp)) (.cells #[.pointer (some ⟨F,0,none⟩)] 195);obtain⟨d9,a8,d1,h3⟩:=dc e5 e6 f4 g1;have i4:w<=F.heap.size:=O;unfold sG at d9 a8 d1;clear e5 e6 f4 g1 d2 f8 c8 aa c9 an c7 b0 f2 B a0 s1 g7 s3 i3 b9 a6 c6 e7;have i0:Hid (∀k,k<l.length->∃b,A=some ⟨b,0,none⟩):=J (λk i1=>by obtain⟨g,c2,e,_⟩:=Uf a8.o O;injection e with h9 j1 j2;exact⟨g,h9⟩)
  have j4:l.length<=1000000:=by
    have key:∀(i:Nat) (l:List Pc),tL s i l->i+l.length<=s:=by
      intro i l h;induction h with
      |done=>simp
      |step h r ih=>have:=h.pos;simp only[gd];omega
    have:=key 0 l M.o;rw[b6.o] at this;omega
  go_wp2;generalize (y.alloc (.cells #[.pointer (some ⟨p.kb,0,none⟩),.pointer (some ⟨p.bb,0,none⟩),.pointer (some ⟨p.lb,0,none⟩),.pointer (some ⟨p.db,0,none⟩)] 193)).alloc (.cells #[.pointer (some ⟨F.heap.size,0,none⟩)] 195)=W5 at*;generalize y.heap.size+1=cb at*;generalize y.heap.size=mb at*;generalize F.heap.size=eb at*;go_loopw [31] (λb5 wx=>∃(k i:Nat) (dv:aI) (x:Ms×En),k<=l.length/\b5=(k:Int)/\Hid (kJ wx p mb cb eb dv x)/\Hid (fo x.1/\dE 0 x.2)/\Hid (XO (l.drop k) x=XO l (m0,e0))/\Hid (tL s i (l.drop k))/\Hid (x.2.out.length<=135*i)/\Hid (wx.ownsRow w 198 3 (.slice A l cap) l (qo l))/\Hid (Below w w wx)/\Hid (∀g,dv.ownBlock=some g->w.heap.size<=g)) (λb5 _=>(l.length-intOf b5).toNat);exact⟨0,0,_,(m0,e0),cf _,rfl,d9,J ⟨DO,xG⟩,J rfl,M,J (cf _),a8,d1,J Cx⟩;clear d9 a8 d1 M;obtain⟨k,i,dv,x,i1,rfl,u,E,a7,a3,I,R,hb,b2⟩:=hrel;by_cases ab:k<l.length
  . obtain⟨g,rfl⟩:=i0.o k ab;obtain⟨c1,c2,f5⟩:=Zn4 R.o ab;have g0:l.drop k=l[k]::l.drop (k+1):=kw ab;have b3:=a3.o;have b4:=a7.o;rw[g0] at b3 b4;obtain⟨t,g3⟩:=ay l[k];rw[g3] at b3 b4 c1 c2 f5;have Q:rR s i t/\tL s (i+t.len) (l.drop (k+1)):=by cases b3 with|step h r=>exact⟨h,r⟩
    obtain⟨Q,e8⟩:=Q;obtain⟨d7,d8,g5⟩:=i6.o i t Q;have f6:=Q.pos;rw[b6.o] at f6;have h1:=V1 d7 d8 O x;have g9:=Gx (p:=t) E.o.1 E.o.2;have f7:Below wr wr (wr.alloc (.cells (qY t) 198)):=(bf _ _).alloc aU _;have G:=Z8G (u.o.below f7) E.o.1 E.o.2 t d7 d8 g5 (by have:=I.o;omega)
    have b1 := J (λ(w' : aq) (h : Fr (QA p eb dv) (wr.alloc (.cells (qY t) 198)) w') => (⟨Z6 (R.o.alloc (.cells (qY t) 198)) h (λg z q => by have D:=R.o;rcases q with q|q|q|q|q|q|q;exact Z1 D u.o.ms.kn aY (q▸z);exact Z1 D u.o.ms.bt.st aY (q▸z);exact Z1 D u.o.ms.bt.nd aY (q▸z);exact Z1 D u.o.ms.ln.2 aY (q▸z);exact Z1 D u.o.ms.dn.2 aY (q▸z);exact Z1 D u.o.en.1 aY (q▸z);exact Zc6 D u.o.en.2 aY z q),
      (hb.o.alloc hb.o.size (.cells (qY t) 198)).trans (h.toBelow' (co hb.o.size (by simp)) (wnew h3.o i4 b2.o))⟩:w'.ownsRow w 198 3 (.slice (some ⟨g,0,none⟩) l cap) l (qo l)/\Below w w w'));have a4 := J (λ(d : aI) (h : Zu (wr.alloc (.cells (qY t) 198)) dv d) => (λg z => by rcases h with h|h;exact b2.o g (h▸z);have:=h g z;have:=hb.o.size;simp at*;omega:∀g,d.ownBlock=some g->w.heap.size<=g));have i2:Hid ((lB t x).2.out.length<=135*(i+t.len)):=J (by have:=I.o;omega);have c5:Hid (XO (l.drop (k+1)) (lB t x)=XO l (m0,e0)):=J b4;have M:=J e8;have h2:=J g9;have j0:(k:Int)<l:=O;have i9:(0:Int)<=k:=O;have G:=J G;unfold qY at G b1 a4;clear g0 b3 b4 g3 Q e8 d7 d8 g5 f6 h1 g9 f7 u E a7 a3 I R b2;obtain⟨j7,j6,tb⟩:=t;simp only at c1 c2 f5 G b1 a4;generalize (tb.toNat:Int)=TB at*;go_wp21;refine aP G.o λi5 ⟨h7,a2,g6,a1⟩=>?_;obtain⟨e9,f9⟩:=b1.o _ g6;obtain⟨h0,d3,b8,b7⟩:=dc e9 f9 (a4.o _ a1) a2;clear g6 a1 e9 f9 a2 b1 a4 G hb;go_wp2;refine⟨⟨k+1,_,h7,_,ab,ci,b7,h2,c5,M,i2,h0,d3,b8⟩,?_⟩;simp[intOf]<;>omega
  have h4:k=l.length:=O;subst h4;have d5:x=XO l (m0,e0):=by have:=a7.o;rw[wY] at this;exact this
  have i7:i<=n:=by
    have key:∀(i:Nat) (l:List Pc),tL s i l->i<=s.length:=by
      intro i l h;cases h with
      |done=>exact aU
      |step h r=>have:=h.pos;omega
    have:=key _ _ a3.o;rw[b6.o] at this;exact this
  have a5:=RK u.o.en E.o.2.low (by have:=I.o;omega);rw[d5] at a5;have a5:=J a5;have h6:=u.o.cc.cell 0;simp at h6;have i8:(bs (ji (XO l (m0,e0)).2)).size<=1000000:=by rw[Z0];unfold ji;rw[<-d5,bV];have:=I.o;have j3:(be 4 x.2.low).length=4:=(by rw[MN];rfl);omega
  generalize bs (ji (XO l (m0,e0)).2)=FS at*;clear d5 u E a7 a3 I R b2;go_wp21;refine ij a5.o hb λi5 d3=>?_;clear hb;go_wp2;go_returns;exact⟨by rw[<-g4.o];rfl,d3.o⟩
theorem Zey (w:aq):
  Calls prog 76 #[bs []] w (bM w (.tuple #[bs (bi 0),(0:Int)])):=by have q:=J (RN [] (cf _) w);have y:(bs ([]:ax)).size=0:=rfl;have t:=YU [];rw[dd rfl] at t;have k:=J (λW=>Zj 0 O O W);have e0:(0:Int).toNat=0:=rfl;rw[e0] at k;generalize bs []=S at*;generalize nS []=l at*;generalize bs (bi 0)=NS at*;go_in;go_wp21;refine(q.o).mono ?_;rintro x w1 ⟨z,rfl,p,g⟩;obtain⟨A,cap,rfl,_⟩:=Zh p;go_wp21;refine aP (k.o _) λB aa=>?_;have u:=J (g.trans (aa.mono g.size));clear p g aa;exact EP
theorem Z8F (s:ax) (p:4096<s.length) (l:s.length<=1000000000) (w:aq):
  Calls prog 76 #[bs s] w (bM w (.tuple #[bs [],(9:Int)])):=by have k:=J (Z5l s p l w);have g:bs ([]:ax)=⟨#[]⟩:=rfl;rw[g];generalize bs s=S at*;clear g;go_in;go_wp21;refine aP k.o λw1 z=>?_;exact ER
def mV (o:Option ax):aI:=match o with
 |some t=>.tuple #[bs t,(0:Int)]
 |none=>.tuple #[bs [],(9:Int)]
theorem RH (s:ax) (g:s.length<=1000000000) (w:aq):
  cK 76 #[bs s] w (bM w (mV (lx s))):=by unfold lx;by_cases h:4096<s.length;rw[aQ h];exact Z8F s h g w;rw[aD h];by_cases h0:s=[];subst h0;rw[aQ rfl,fg];exact Zey w;rw[aD h0];exact Zex s O h0 w
structure io (w:World) (p:Pl) (mb eb:Nat) (m:Ms) (d:De):Prop where
 ms:gj w p m
 de:dD w eb d
 mc:Bk w mb 193 (sG p)
def te (p:Pl) (eb:Nat):Nat->Prop:=λk=>k=p.kg\/k=p.bb\/k=p.bg\/k=p.lg\/k=p.dg\/k=eb
theorem ZfP {w:aq} {p:Pl} {m:Ms} (h:gj w p m) {eb b:Nat} {d:De} (u:dD w eb d) {t:TypeId} {l:Array aI} (hb:Bk w b t l) (h1:t≠325) (k:t≠3) (q:t≠249):¬te p eb b:=λg=>by rcases g with g|g|g|g|g|g;exact Bk.apart hb h.kn k g;exact Bk.apart hb h.bt.st q g;exact Bk.apart hb h.bt.nd k g;exact Bk.apart hb h.ln.2 k g;exact Bk.apart hb h.dn.2 k g;exact Bk.apart hb u h1 g
theorem io.next {w:aq} {p:Pl} {mb eb:Nat} {m k:Ms} {d g:De} (h:io w p mb eb m d) (q:Fr (te p eb) w w') (t:gj w' p k) (l:dD w' eb g):io w' p mb eb k g:=
 ⟨t,l,h.mc.fr q (ZfP h.ms h.de h.mc aY aY aY)⟩
theorem io.below {w:aq} {p:Pl} {mb eb:Nat} {m:Ms} {d:De} (h:io w p mb eb m d) (hb:Below w w w'):io w' p mb eb m d:=⟨h.ms.below hb,h.de.below hb,h.mc.below hb h.mc.lt⟩
theorem io.drew {w:aq} {p:Pl} {mb eb:Nat} {m:Ms} {d:De} (h:io w p mb eb m d):io w.drew p mb eb m d:=⟨h.ms.drew,h.de.drew,h.mc⟩
theorem io.keep {w:aq} {p:Pl} {mb eb:Nat} {m:Ms} {d:De} (h:io w p mb eb m d) (g:∀l T k,Bk w l T k->5≠T->Bk w' l T k):io w' p mb eb m d:=
 ⟨⟨g _ _ _ h.ms.ks aY,g _ _ _ h.ms.kn aY,⟨g _ _ _ h.ms.bt.st aY,g _ _ _ h.ms.bt.nd aY⟩,⟨g _ _ _ h.ms.ln.1 aY,g _ _ _ h.ms.ln.2 aY⟩,⟨g _ _ _ h.ms.dn.1 aY,g _ _ _ h.ms.dn.2 aY⟩,h.ms.a1,h.ms.a2,h.ms.a3,h.ms.a4,h.ms.a5,h.ms.a6⟩,
  g _ _ _ h.de aY,g _ _ _ h.mc aY⟩
theorem io.row {w:aq} {p:Pl} {mb eb:Nat} {m:Ms} {d:De} (h:io w p mb eb m d) (t:Fr (te p eb) w w') {v:aI} {xs:List aI} (l:w.ownsRow B 5 1 v n xs):w'.ownsRow B 5 1 v n xs:=
 Z6 l t (λg q k=>by rcases k with k|k|k|k|k|k;exact Z1 l h.ms.kn aY (k▸q);exact Z1 l h.ms.bt.st aY (k▸q);exact Z1 l h.ms.bt.nd aY (k▸q);exact Z1 l h.ms.ln.2 aY (k▸q);exact Z1 l h.ms.dn.2 aY (k▸q);exact Z1 l h.de aY (k▸q))
theorem Ig {p:Pl} {eb:Nat} {w wr:aq} (l:BM B p) (u:B<=eb) (hb:Below B w wr) (q:B<=wr) (t:Fr (te p eb) wr w'):Below B w w':=
 hb.trans (t.toBelow' q (λk y g=>by rcases g with g|g|g|g|g|g;have:=l.kg;omega;have:=l.bb;omega;have:=l.bg;omega;have:=l.lg;omega;have:=l.dg;omega;omega))
theorem Lc {p:Pl} {eb:Nat} (R:g=p.kg\/g=p.lg\/g=p.dg):∀k,vg g eb k->te p eb k:=λk h=>ND
theorem Zl7 (n:Nat) (t:List Nat) (d:De) (h:t.length=2 ^ n):Q5 n 0 1 t d=ej n 1 t d:=by obtain⟨a,b⟩:=VG n 0 1 (2 ^ n) (t:=t) (d:=d) O O;exact O2
theorem ZmD {m:Ms} {d:De} (h:fo m) (g:DV 0 d):fo (eX m d).2.1/\DV 0 (eX m d).2.2:=by obtain⟨a,b,c,_⟩:=DK 1 1 m.kind d h.k.1 Fg g;exact⟨⟨⟨a,b.trans h.k.2⟩,h.bl,h.b,h.l,h.d⟩,c⟩
theorem Zlr {m:Ms} {d:De} (h:fo m) (p:DV 0 d):fo (qd m d).2.1/\DV 0 (qd m d).2.2:=by obtain⟨t1,g⟩:=Gk h;obtain⟨a,b,c,_⟩:=DK 8 1 (se m) d t1 (by rw[g];decide) p;exact⟨⟨h.k,Rf,Wj h ⟨a,b.trans g⟩ _,h.l,h.d⟩,c⟩
theorem ZmG {m:Ms} {d:De} (h:fo m) (g:DV 0 d):fo (lu m d).2.1/\DV 0 (lu m d).2.2:=by obtain⟨a,b⟩:=Mc h.l g;exact⟨⟨h.k,h.bl,h.b,a,h.d⟩,b⟩
theorem ZlY {m:Ms} {d:De} (h:fo m) (g:DV 0 d):fo (pG m d).2.1/\DV 0 (pG m d).2.2:=by obtain⟨a,b⟩:=Mc h.d g;exact⟨⟨h.k,h.bl,h.b,h.l,a⟩,b⟩
section
variable {w:aq} {p:Pl} {mb eb:Nat} {m:Ms} {d:De}
theorem ZfT (h:io w p mb eb m d) (F:fo m) (u:DV 0 d):
  cK 215 #[(p.kb,0),(eb,0)] w λr w'=>r=.returned (((eX m d).1:Nat):Int)/\io w' p mb eb (eX m d).2.1 (eX m d).2.2/\Fr (te p eb) w w':=by refine(TL h.ms.kind O Fw Fw F.k.1 h.de (Bk.apart h.ms.ks h.de aY) u).mono ?_;rintro r w1 ⟨rfl,q,hd,l⟩;rw[Zl7 1 _ _ F.k.2] at q hd;rw[Zl7 1 _ _ F.k.2];have g:=l.mono (Lc (p:=p) (.inl rfl));exact⟨rfl,h.next g (h.ms.setK l (λk t=>t) (h.ms.offD h.de) q.nd) hd,g⟩
theorem Zft (h:io w p mb eb m d) (t:fo m) (y:DV 0 d):
  cK 216 #[(p.bb,0),(eb,0)] w λr w'=>r=.returned (.int .u8 (((qd m d).1.toNat:Nat):Int))/\io w' p mb eb (qd m d).2.1 (qd m d).2.2/\Fr (te p eb) w w':=by refine(Zec h.ms.bt t.b t.bl h.de y).mono ?_;rintro r w1 ⟨rfl,u,hd,q⟩;have l:Fr (te p eb) w w1:=q.mono (λk g=>by rcases g with h|h|h;exact .inr (.inl h);exact .inr (.inr (.inl h));exact .inr (.inr (.inr (.inr (.inr h)))));exact⟨rfl,h.next l (h.ms.setB q (λk g=>g) (h.ms.offD h.de) u) hd,l⟩
theorem ZjE (h:io w p mb eb m d) (u:fo m) (z:DV 0 d):
  cK 217 #[(p.lb,0),(eb,0)] w λr w'=>r=.returned (.int .i64 (lu m d).1)/\io w' p mb eb (lu m d).2.1 (lu m d).2.2/\Fr (te p eb) w w':=by refine(KZ h.ms.ln u.l h.de z).mono ?_;rintro r w1 ⟨rfl,y,hd,q⟩;have g:=q.mono (Lc (p:=p) (.inr (.inl rfl)));exact⟨rfl,h.next g (h.ms.setL q (λk t=>t) (h.ms.offD h.de) y) hd,g⟩
theorem ZfB (h:io w p mb eb m d) (t:fo m) (y:DV 0 d):
  cK 217 #[(p.db,0),(eb,0)] w λr w'=>r=.returned (.int .i64 (pG m d).1)/\io w' p mb eb (pG m d).2.1 (pG m d).2.2/\Fr (te p eb) w w':=by refine(KZ h.ms.dn t.d h.de y).mono ?_;rintro r w1 ⟨rfl,u,hd,l⟩;have g:=l.mono (Lc (p:=p) (.inr (.inr rfl)));exact⟨rfl,h.next g (h.ms.setD l (λk q=>q) (h.ms.offD h.de) u) hd,g⟩
theorem io.cells (h:io w p mb eb m d):w.cell? (mb,0)=(p.kb,0)/\w.cell? (mb,1)=(p.bb,0)/\w.cell? (mb,2)=(p.lb,0)/\w.cell? (mb,3)=(p.db,0):=
 ⟨h.mc.cell 0,h.mc.cell 1,h.mc.cell 2,h.mc.cell 3⟩
end
theorem Zb7 (d n:Nat) (o:ax):QD d (n+1) o=QD d n (o++[o.getD (o.length-d) 0]):=rfl
theorem Wy (o:ax) (c:cj):o.map bv++[.int .u8 (c.toNat:Int)]=(o++[c]).map bv:=by simp[bv]
def Ic (o:Option ax):aI:=match o with
 |some t=>.tuple #[bs t,true]
 |none=>.tuple #[bs [],false]
def slen (v:aI):Nat:=match v with
 |.slice _ n _=>n
 |_=>0
theorem Znh {f:Nat} {o:ax} {m:Ms} {d:De} (h:¬o.length<n):ru f n o m d=some o:=by
 cases f with
 |zero=>rfl
 |succ f=>rw[ru,aD h]
theorem Zlb:(prog.info? 5).map (λi=>(i.zero,i.size,i.bytes))=some (some (.int .u8 0),1,1):=dw
theorem Zbs (data:ax) (n:Nat) (s6:n<=4096) (w:aq):
  Calls prog 168 #[bs data,n] w (bM w (Ic (xY data n))):=by
 have f4:=J (λW=>Tk W);unfold sG at f4;have j7:=J (λW=>U' data W);have i3:Hid (ru n n [] m0 (d0 data)=xY data n):=J rfl;have n4:=d0_v data;obtain⟨R,l7⟩:=ay (xY data n);rw[l7] at i3⊢;generalize d0 data=j4 at*;generalize bs data=S at*;clear l7;go_in;go_wp21;refine(f4.o _).mono ?_;rintro x w1 ⟨p,rfl,k7,k9,g2⟩;go_wp21;refine aP (j7.o _) λa0 ⟨n1,aa⟩=>?_;have s1:=g2.size;have r3:=aa.size
 have e8:io (a0.alloc (.cells (sG p) 193)) p a0.heap.size w1 m0 j4:=
  ⟨(k7.below aa).below ((bf a0.heap.size a0).alloc aU _),n1.below ((bf a0.heap.size a0).alloc aU _),Bk.new _ _ _⟩;have a1:=(g2.trans (aa.mono s1)).alloc O (.cells (sG p) 193);obtain⟨a8,a5,b7⟩:=bD e8 a1 k9;have e6:w<=w1.heap.size:=O;have i8:Hid ((a0.alloc (.cells (sG p) 193)).ownsRow w 5 1 (.slice none 0 0) ([]:ax) (([]:ax).map bv)):=J Zl;have k4:=e8.cells;unfold sG at a8 a5 i8 k4;clear e8 a1 k7 k9 g2 n1 aa s1 r3 f4 j7;go_wp2;generalize (a0.alloc (.cells #[.pointer (some ⟨p.kb,0,none⟩),.pointer (some ⟨p.bb,0,none⟩),.pointer (some ⟨p.lb,0,none⟩),.pointer (some ⟨p.db,0,none⟩)] 193))=W5 at*;generalize a0.heap.size=mb at*;generalize w1.heap.size=eb at*;clear k4;go_loopw [8] (λc7 wx=>∃(f:Nat) (o:ax) (m:Ms) (d:De) (a7:aI),c7=a7/\Hid (io wx p mb eb m d)/\Hid (fo m/\DV 0 d)/\Hid (ru f n o m d=R)/\Hid (n<=o+f)/\Hid (o<=n)/\Hid (wx.ownsRow w 5 1 a7 o (o.map bv))/\Hid (Below w w wx)) (λc7 _=>n-slen c7);exact⟨n,[],m0,j4,_,rfl,a8,J ⟨DO,n4⟩,i3,J (by simp),J (cf _),i8,a5⟩;clear a8 a5 i8 i3 n4;obtain⟨f,o,m,d,a7,rfl,I,a6,c9,a3,l,F,hb⟩:=hrel;obtain⟨A,cap,rfl,_⟩:=Zh F.o;obtain⟨ol,e4⟩:=ay o.length;by_cases ab:o<n
 .obtain⟨f1,rfl⟩:∃g,f=g+1:=⟨f-1,by have:=a3.o;omega⟩;have B:=c9.o;rw[ru,aQ ab] at B;obtain⟨us,xX⟩:=ZmD a6.o.1 a6.o.2;have b1:=J (ZfT I.o a6.o.1 a6.o.2);obtain⟨c0,c1,c2,k6⟩:=I.o.cells;have p4:(ol:Int)<n:=O;have k:=J e4;have u:=F.o;rw[e4] at u⊢;have d4:=I;obtain⟨kk,n2⟩:=ay ((eX m d).1);rw[n2] at B b1;generalize (eX m d).2.1=m1 at*;generalize (eX m d).2.2=d1 at*;clear n2 I c9 ab e4;by_cases i1:kk=0;.subst i1;rw[aQ rfl] at B;have r6:((0:Nat):Int)=0:=rfl;rw[r6] at b1;obtain⟨k1,k2⟩:=Zlr us xX;have i9:=J (λ(W:aq) (h:io W p mb eb m1 d1)=>Zft h us xX);obtain⟨c,b4⟩:=ay ((qd m1 d1).1);rw[b4] at B i9;generalize (qd m1 d1).2.1=b5 at*;generalize (qd m1 d1).2.2=b3 at*;obtain⟨b0,c6,p8⟩:=bD B u (And.intro k1 k2);clear b4 B u F us xX k1 k2 c2 k6 a6;go_wp21;refine aP b1.o λb6 ⟨a2,a4⟩=>?_;have b9:=d4.o.row a4 c6.o;have b2:=Ig b7.o e6 hb.o hb.o.size a4;obtain⟨e0,g5,d8,d9⟩:=a2.cells;clear c0 c1 d8 d9 a4 b1 hb c6 d4;go_wp21;refine aP (i9.o _ a2) λs7 ⟨j5,g3⟩=>?_;have n6:=a2.row g3 b9;have an:=Ig b7.o e6 b2 b2.size g3;obtain⟨n3,r5,c4,y,a1,b8⟩:=ZU (P:=prog) 88 5 _ _ underlying88 Zlb rfl n6 an an.size (.int .u8 (c.toNat:Int)) rfl (by unfold maxLen;exact EY) EY;rw[Wy] at y;have G:ol+1=(o++[c]).length:=(by rw[bV,pg,k.o]);rw[G] at y;obtain⟨a8,i5,a5,g4⟩:=dc (j5.keep b8) y a1 c4;have f2:Hid (n<=(o++[c]).length+f1):=J (by rw[<-G];have:=a3.o;have:=k.o;omega);have f3:Hid ((o++[c]).length<=n):=J (by rw[<-G];omega);have f6:Hid (n-slen n3<n-ol):=J (by obtain⟨r7,k5,e,_⟩:=Zh y;rw[e];show n-(o++[c]).length<_;rw[<-G];omega);obtain⟨A5,o4,p5,rfl⟩:=Z7 y;generalize (c.toNat:Int)=C at*;clear e0 g5 g3 a2 b9 b2 j5 n6 an c4 y a1 b8 G a3 l i9;go_wp2_with (at_builtin;refine Z5 Ft rfl _ _ _ rfl _ _ (by rfl) (by rfl) g4.o ?_);refine⟨⟨f1,_,b5,b3,_,rfl,a8,p8,b0,f2,f3,i5,a5⟩,?_⟩;exact f6.o
  rw[aD i1] at B;have s0:((kk:Int)==0)=false:=oe;obtain⟨g0,g1⟩:=ZmG us xX;have g7:=J (λ(W:aq) (h:io W p mb eb m1 d1)=>ZjE h us xX);obtain⟨L,l3⟩:=ay ((lu m1 d1).1);rw[l3] at B g7;generalize (lu m1 d1).2.1=b5 at*;generalize (lu m1 d1).2.2=b3 at*;obtain⟨n0,k0⟩:=ZlY g0 g1;have j1:=J (λ(W:aq) (h:io W p mb eb b5 b3)=>ZfB h g0 g1);obtain⟨D,l2⟩:=ay ((pG b5 b3).1);rw[l2] at B j1;generalize (pG b5 b3).2.1=e5 at*;generalize (pG b5 b3).2.2=d7 at*;obtain⟨b0,c6,i7⟩:=bD B u (And.intro n0 k0);clear l3 l2 B u F us xX g0 g1 n0 k0 a6 i1;go_wp21;refine aP b1.o λb6 ⟨a2,a4⟩=>?_;have b9:=d4.o.row a4 c6.o;have b2:=Ig b7.o e6 hb.o hb.o.size a4;obtain⟨e0,g5,d8,d9⟩:=a2.cells;obtain⟨i4,d6,d5⟩:=bD b9 b2 a2;clear c0 c1 c2 k6 a4 b1 hb c6 d4 b9 b2 e0 g5 a2;go_wp2;go_cut [9,10] (λr4 q9 wx=>r4=L/\q9=D/\Hid (io wx p mb eb e5 d7)/\Hid (Fr (te p eb) b6 wx))
  case first=>
   have o1:b6.drew.cell? (mb,2)=(p.lb,0)/\b6.drew.cell? (mb,3)=(p.db,0):=⟨d8,d9⟩;have l8:io b6.drew p mb eb m1 d1:=d5.o.drew;clear b0 i7 i4 d6 d5 b7 a3 l
   go_region_held3 (λW=>W.cell? (mb,2)=(p.lb,0)/\W.cell? (mb,3)=(p.db,0)) (first|with_reducible assumption|with_reducible exact o1)
    (first
     |(go_at_call 217;with_reducible refine(g7.o _ qB).mono ?_;rintro r n5 ⟨rfl,k3,h9⟩;have r8:n5.cell? (mb,2)=(p.lb,0)/\n5.cell? (mb,3)=(p.db,0):=⟨k3.cells.2.2.1,k3.cells.2.2.2⟩)
     |(go_at_call 217;with_reducible refine(j1.o _ qB).mono ?_;rintro r wb ⟨rfl,f8,r1⟩;have r9:wb.cell? (mb,2)=(p.lb,0)/\wb.cell? (mb,3)=(p.db,0):=⟨f8.cells.2.2.1,f8.cells.2.2.2⟩))
   all_goals
    go_wp2;go_meet;case rel=>exact⟨rfl,rfl,J f8,J (((Fr.refl (te p eb) b6).drew.trans h9).trans r1)⟩
  obtain⟨rfl,rfl,e9,f7⟩:=hcut;have n7:=d5.o.row f7.o i4.o;have m9:=Ig b7.o e6 d6.o d6.o.size f7.o;have i6:=J n7;have f5:=J m9;clear n7 m9 f7 i4 d6 d5 g7 j1 d8 d9;cases E:zt n o L D with
  |true=>
   have o3:R=none:=by have:=b0.o;rw[E,aQ rfl] at this;exact this.symm
   subst o3;have g6:L<0\/(¬L<0/\(271<L\/(¬271<L/\((n:Int)-ol<L+2\/(¬(n:Int)-ol<L+2/\(D<0\/(¬D<0/\(ol:Int)<=D))))))):=by unfold zt at E;rw[k.o] at E;simp only[Bool.or_eq_true,fq] at E;omega
   have p3:ol<=4096:=EY;clear E b0 i7 a3 l i6 e9;have s4:bs ([]:ax)=⟨#[]⟩:=rfl;rcases g6 with h1|⟨h1,g8|⟨g8,g9|⟨g9,h0|⟨h0,l1⟩⟩⟩⟩
   all_goals
    go_wp2;go_returns;exact⟨rfl,f5.o⟩
  |false=>
   have g6:0<=L/\L<=271/\L+2<=(n:Int)-(ol:Int)/\0<=D/\D<(ol:Int):=by unfold zt at E;rw[k.o] at E;simp only[Bool.or_eq_false_iff,uJ] at E;omega
   have c8:=b0.o;rw[E,aD aY] at c8;obtain⟨a,rfl⟩:∃a:Nat,L=a:=⟨L.toNat,O⟩;obtain⟨b,rfl⟩:∃a:Nat,D=a:=⟨D.toNat,O⟩;rw[ep,ep] at c8;obtain⟨h1,g8,g9,h0,l1⟩:=g6;have p1:¬(a:Int)<0:=O;have n9:¬(271:Int)<a:=O;have o0:¬(n:Int)-ol<(a:Int)+2:=O;have h6:¬(b:Int)<0:=O;have h7:¬(ol:Int)<=b:=O;have q7:ol+a+2<=n:=O;have q0:b<ol:=O;have q8:((a+2:Nat):Int)=(a:Int)+2:=O;obtain⟨t,o2⟩:=ay (a+2);have l5:(a:Int)+2=(t:Int):=O;rw[o2] at c8;have o6:=J c8;have k8:Hid (QD (b+1) (t-0) o=QD (b+1) t o):=J (by rw[Nat.sub_zero]);have p3:ol<=4096:=EY;have l6:t<=4096:=O;have m8:n<=ol+f1+1:=(by have:=a3.o;have:=k.o;omega);have q6:ol+t<=n:=O;clear E b0 c8 h1 g8 g9 h0 l1 q8 a3 l;go_wp2;clear p1 n9 o0 h6 h7;go_loopw [8,65] (λc7 f9 j0=>∃(j:Nat) (q:ax) (a7:aI),j<=t/\f9=j/\c7=a7/\Hid (q=ol+j)/\Hid (QD (b+1) (t-j) q=QD (b+1) t o)/\Hid (j0.ownsRow w 5 1 a7 q (q.map bv))/\Hid (io j0 p mb eb e5 d7)/\Hid (Below w w j0)) (λ_ f9 _=>(t-intOf f9).toNat);exact⟨0,o,_,cf _,rfl,rfl,J (by rw[tS];exact k.o),k8,J (by rw[k.o];exact i6.o),e9,f5⟩;clear k8 i6 e9 f5;obtain⟨j,q,a7,s5,rfl,rfl,i2,e7,F,I,hb⟩:=hrel;obtain⟨M,z⟩:=ay q.length;have j8:M=ol+j:=(by rw[<-z];exact i2.o);obtain⟨g,k5,rfl,l0⟩:=C' F.o (by rw[z];omega);have u:=F.o;rw[z] at u⊢;by_cases p6:j<t
   .obtain⟨r,c4⟩:∃r,t-j=r+1:=⟨t-j-1,O⟩;have Q:=e7.o;rw[c4,Zb7,z] at Q;obtain⟨ix,j2⟩:=ay (M-(b+1));rw[j2] at Q;obtain⟨c,b4⟩:=ay (q.getD ix 0);rw[b4] at Q;have GP:ix<M:=O;have j3:(q.map bv)[ix]? =some (.int .u8 (c.toNat:Int)):=by rw[jX,fb (by rw[z];exact GP),<-b4];simp[List.getD,bv,z,GP]
    obtain⟨cc,_⟩:=C9 u ix _ j3;have m6:(M:Int)-b-1=(ix:Int):=O;have m4:(ix:Int)<M:=O;have l9:(0:Int)<=ix:=O;have p2:(j:Int)<t:=O;have m7:M<=10000:=O;obtain⟨n3,r5,c5,y,a1,b8⟩:=ZU (P:=prog) 88 5 _ _ underlying88 Zlb rfl u hb.o hb.o.size (.int .u8 (c.toNat:Int)) rfl fU O;rw[Wy] at y;have G:M+1=(q++[c]).length:=(by rw[bV,pg,z]);rw[G] at y;obtain⟨a8,i5,a5,g4⟩:=dc (I.o.keep b8) y a1 c5;have o8:Hid ((q++[c]).length=ol+(j+1)):=J (by rw[<-G];omega);have o5:Hid (QD (b+1) (t-(j+1)) (q++[c])=QD (b+1) t o):=J (by rw[show t-(j+1)=r by omega];exact Q);obtain⟨A5,o4,p5,rfl⟩:=Z7 y;generalize (c.toNat:Int)=C at*;clear i2 e7 F I hb u c4 Q j2 b4 j3 c5 y a1 b8 G z j8 l0;go_wp2_with (at_builtin;refine Z5 Ft rfl _ _ _ rfl _ _ (by rfl) (by rfl) g4.o ?_);refine⟨⟨j+1,_,_,p6,ci,rfl,o8,o5,i5,a8,a5⟩,?_⟩;simp[intOf]<;>omega
   have p9:j=t:=O;subst p9;have Q:=e7.o;rw[fh] at Q;have j6:q=QD (b+1) j o:=Q;have p2:¬(j:Int)<j:=O;have o7:Hid (ru f1 n q e5 d7=R):=J (by rw[j6];exact o6.o);have o9:Hid (n<=q+f1):=J (by rw[z];omega);have r2:Hid (q<=n):=J (by rw[z];omega);have f6:Hid (n-M<n-ol):=J O;have n8:Hid (wr.ownsRow w 5 1 (.slice (some ⟨g,0,none⟩) M k5) q (q.map bv)):=J (by rw[z];exact u);clear i2 e7 Q j6 z j8 l0 u;go_wp2;refine⟨⟨f1,q,e5,d7,_,rfl,I,i7,o7,o9,r2,n8,hb⟩,?_⟩;exact f6.o
 have i0:o=n:=(by have:=l.o;omega);have h8:R=some o:=(by rw[<-c9.o];exact Znh ab);subst h8;have p4:¬(ol:Int)<n:=O;have p7:=U5 (P:=prog) 88 9 5 underlying88 underlying5 underlying9 F.o;rw[e4] at p7⊢;have j9:Ic (some o)=.tuple #[bs o,true]:=rfl;have p0:=J j9;generalize bs o=OS at*;clear I a6 c9 a3 l F j9 i0 ab;go_wp2;go_returns;rw[p0.o];exact⟨rfl,hb.o⟩
end Go.Proofs.Y
namespace Wv
open Go.Proofs.Tryz 
theorem Zni:∀(f n:Nat) (o:ax) (m:Ms) (d:De) (s:ax),o<=n->ru f n o m d=some s->s.length<=n:=by
 intro f;induction f with
 |zero=>intro n o m d s h hs;injection hs with hs;rw[<-hs];exact h
 |succ f ih=>
  intro n o m d s h hs;rw[ru] at hs;split at hs
  .split at hs;exact ih n _ _ _ s (by rw[bV,pg];omega) hs;split at hs;cases hs;rename_i hb;refine ih n _ _ _ s ?_ hs
   have key:∀(d k:Nat) (o:ax),(QD d k o)=o.length+k:=by
    intro d k;induction k with
    |zero=>intro o;rfl
    |succ k ih=>intro o;show(QD d k (o++_)).length=_;rw[ih,bV,pg];omega
   rw[key];unfold zt at hb;simp only[Bool.or_eq_true,fq,not_or] at hb;omega
  injection hs with hs;rw[<-hs];exact h
end Wv
namespace Go.Proofs.Y
open Tryz Wv Go.RowKit
theorem Hu (a b:ax):(((bs a).toList !=(bs b).toList)= !decide (a=b))/\(((bs a).toList==(bs b).toList)=decide (a=b)):=by
 have g:((bs a).toList==(bs b).toList)=decide (a=b):=by rw[lN,beq_iff_eq,fq,ByteArray.toList_eq,ByteArray.toList_eq];exact Iff.rfl
 exact⟨by rw[bne,g],g⟩
def xZ (x:ax×Nat):aI:=.tuple #[bs x.1,x.2]
theorem RG (data:ax) (hd:data.length<=1000000000) (most:Int) (w:aq):
  Calls prog 126 #[bs data,most] w (bM w (xZ (qm data most))):=by
 have y:=J (ZT (bs data) w);have b5:(bs data).size<=1099511627776:=Cv;have I:=J (λ(W:aq) (b:Nat) (h:RV W b (bs data) 0)=>Zk h b5 4096);have c4:bs ([]:ax)=⟨#[]⟩:=rfl
 have E:qm data most=match dN data 4096 with
  |none=>([],12)
  |some (n,r)=>if most<(n:Int) then([],2) else match xY r n with
   |none=>([],12)
   |some s=>if lx s=some data then(s,0) else([],12):=rfl
 obtain⟨b3,a4⟩:=ay (qm data most);rw[a4] at E⊢;rcases R:dN data 4096 with _|q;rw[R] at E;simp only at E;subst E;obtain⟨e,c3,a6⟩:=Ux R;rw[show((4096:Nat):Int)=4096 from rfl] at a6;rw[a6] at I;have b7:((e:Int) !=0)=true:=eV;have F:xZ ([],12)=.tuple #[.string ⟨#[]⟩,(12:Int)]:=rfl;rw[F];generalize bs data=S at*;exact NG;obtain⟨n,r⟩:=q;rw[R] at E;simp only at E;obtain⟨k1,k2,k3⟩:=J0 R;rw[show((4096:Nat):Int)=4096 from rfl] at k1;rw[k1] at I;simp only at I;by_cases a8:most<(n:Int);rw[aQ a8] at E;subst E;have F:xZ ([],2)=.tuple #[.string ⟨#[]⟩,(2:Int)]:=rfl;rw[F];generalize bs data=S at*;generalize bs r=RS at*;exact NG;rw[aD a8] at E;have a1:(bs r).size=r:=Z0 r;have b4:Zb (bs r) 0 (r.length:Int)=(bs r,bs [],0):=by rw[Xr aU,pi,wY]
 have p:=J (λ(W:aq) (b:Nat) (h:RV W b (bs r) 0)=>ZA h (by rw[a1];omega));have l:=J (λ(W:aq) (b:Nat) (h:RV W b (bs r) 0)=>Zr h (by rw[a1];omega) (r.length:Int));rw[b4] at l;rw[a1] at p;simp only at l;have k:=J (λW=>Zbs r n k2 W);have b9:r.length<=1000000000:=O;generalize c5:bs r=RS at*;rcases a3:xY r n with _|s;.rw[a3] at E k;simp only at E;subst E;have F:xZ ([],12)=.tuple #[.string ⟨#[]⟩,(12:Int)]:=rfl;have a5:Ic none=.tuple #[.string ⟨#[]⟩,false]:=rfl;rw[a5] at k;rw[F];generalize bs data=S at*;generalize bs ([]:ax)=E0 at*;go_in;go_wp21;refine aP y.o λw1 ⟨h1,z⟩=>?_;go_wp21;refine aP (I.o _ _ h1) λw2 ⟨h2,b1⟩=>?_;have g:=J (Ze h2);have aa:=ZQ z aU b1;go_wp21;refine cp g.o ?_;go_wp21;refine cp (p.o _ _ h2) ?_;go_wp21;refine aP (l.o _ _ h2) λw3 ⟨a7,b2⟩=>?_;have M:=ZQ aa aU b2;go_wp21;refine aP (k.o _) λb8 an=>?_;have hb:=J (M.trans (an.mono M.size));go_wp2;go_returns;exact⟨rfl,hb.o⟩
 rw[a3] at E k;simp only at E;have a5:Ic (some s)=.tuple #[bs s,true]:=rfl;rw[a5] at k;have b6:s.length<=1000000000:=by have:=Zni n n [] m0 (d0 r) s (cf _) a3;omega
 have B:=J (λW=>RH s b6 W);rcases Q:lx s with _|t;.rw[Q,aD (by simp)] at E;subst E;have a2:mV none=.tuple #[.string ⟨#[]⟩,(9:Int)]:=rfl;rw[Q,a2] at B;have F:xZ ([],12)=.tuple #[.string ⟨#[]⟩,(12:Int)]:=rfl;rw[F];generalize bs data=S at*;generalize bs s=D at*;generalize bs ([]:ax)=E0 at*;go_in;go_wp21;refine aP y.o λw1 ⟨h1,z⟩=>?_;go_wp21;refine aP (I.o _ _ h1) λw2 ⟨h2,b1⟩=>?_;have g:=J (Ze h2);have aa:=ZQ z aU b1;go_wp21;refine cp g.o ?_;go_wp21;refine cp (p.o _ _ h2) ?_;go_wp21;refine aP (l.o _ _ h2) λw3 ⟨a7,b2⟩=>?_;have M:=ZQ aa aU b2;go_wp21;refine aP (k.o _) λb8 an=>?_;have hb:=M.trans (an.mono M.size);go_wp21;refine aP (B.o _) λb0 a0=>?_;have u:=J (hb.trans (a0.mono hb.size));exact EP
 have a2:mV (some t)=.tuple #[bs t,(0:Int)]:=rfl;rw[Q,a2] at B;rw[Q] at E;obtain⟨q1,q2⟩:=Hu t data;have a9:xZ b3=if t=data then .tuple #[bs s,(0:Int)] else .tuple #[.string ⟨#[]⟩,(12:Int)]:=by rw[E];by_cases h:t=data;rw[aQ rp,aQ h];rfl;rw[aD Ct,aD h];rfl
 rw[a9];by_cases G:t=data;rw[aQ G];rw[dd G] at q1 q2;exact Nn;rw[aD G];rw[cI G] at q1 q2;exact Nn
