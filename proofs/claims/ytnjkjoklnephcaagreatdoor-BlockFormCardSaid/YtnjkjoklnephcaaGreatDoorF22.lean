import Derived.Test.YtnjkjoklnephcaaGreatDoorF18
set_option linter.all false
set_option maxRecDepth 100000
set_option maxHeartbeats 0
theorem EY{P:Prop}(h:P:=by have:=l.o;have:=k.o;omega):P:=h
theorem EP{P:Prop}(h:P:=by go_wp2;go_returns;exact⟨rfl,u.o⟩):P:=h
theorem VY{P:Prop}(h:P:=by go_in;go_wp21;refine aP y.o λw1 ⟨h1,z⟩=>?_;go_wp21;refine aP (I.o _ _ h1) λw2 ⟨L,b1⟩=>?_;have g:=J (Ze L);have aa:=ZQ z aU b1;go_wp21;refine cp g.o ?_;go_wp2;go_returns;exact⟨rfl,aa⟩):P:=h
theorem IM{P:Prop}(h:P:=by generalize bs data=S at*;generalize bs s=D at*;generalize bs t=TT at*;generalize bs ([]:ax)=E0 at*;go_in;go_wp21;refine aP y.o λw1 ⟨h1,z⟩=>?_;go_wp21;refine aP (I.o _ _ h1) λw2 ⟨L,b1⟩=>?_;have g:=J (Ze L);have aa:=ZQ z aU b1;go_wp21;refine cp g.o ?_;go_wp21;refine cp (p.o _ _ L) ?_;go_wp21;refine aP (l.o _ _ L) λw3 ⟨a7,b2⟩=>?_;have M:=ZQ aa aU b2;go_wp21;refine aP (k.o _) λb8 an=>?_;have hb:=M.trans (an.mono M.size);go_wp21;refine aP (B.o _) λb0 a0=>?_;have u:=J (hb.trans (a0.mono hb.size));go_wp2;go_returns;exact⟨rfl,u.o⟩):P:=h
namespace Go.Proofs.Y
open Tryz Wv Go.RowKit
variable{B M T bb cb i ib j k n q sb:Nat}{l:List (Nat×Nat)}{v:aI}{w w':aq}{xs:List aI}
def Lq (q:Nat) (d:Option St) (tb:List St):List St:=List.replicate q dU++d.getD dU::tb
theorem Zof (q:Nat) (d:Option St) (tb:List St):(Lq q d tb)=q+tb.length+1:=by unfold Lq;rw[bV,iE,gd];omega
theorem Zqr (q:Nat) (d:Option St) (tb:List St):(Lq q d tb).getD q dU=d.getD dU:=by unfold Lq;rw[pf,pO (by simp),iE,fh];rfl
theorem Zoe (q:Nat) (d:Option St) (tb:List St) (h:1<=k):(Lq q d tb).getD (q+k) dU=tb.getD (k-1) dU:=by unfold Lq;rw[pf,pO (by simp),iE,Nat.add_sub_cancel_left];obtain⟨j,rfl⟩:∃j,k=j+1:=⟨k-1,O⟩;rw[List.getElem?_cons_succ,vI,pf]
theorem Zoh (q:Nat) (d:Option St) (tb:List St) (x:St):(Lq q d tb).set q x=Lq q (some x) tb:=by unfold Lq;rw[nj _ _ (by simp),iE,fh];rfl
theorem ZnS (q:Nat) (d:Option St) (tb:List St) (t:Pc) (h:1<=t.len):(if(!d.isSome||DS (zN (Lq q d tb) q t) ((Lq q d tb).getD q dU))=true then(Lq q d tb).set q (zN (Lq q d tb) q t) else Lq q d tb)=Lq q (kY tb d t) tb:=by have g:zN (Lq q d tb) q t=zG tb t:=(by unfold zN zG;rw[Zoe q d tb h]);rw[g,Zqr,Zoh];unfold kY;rcases d with _|c;rfl;simp only[Option.isSome_some,Bool.not_true,Bool.false_or,Option.getD_some];split<;>rfl
theorem Zog {d:Option St} {tb:List St} (j:∀x∈tb,x.cost<=M/\x.pcs<=M) (k:∀x,d=some x->x.cost<=M/\x.pcs<=M):∀x∈Lq q d tb,x.cost<=M/\x.pcs<=M:=by intro x g;unfold Lq at g;rcases lc.1 g with h|h;rw[List.eq_of_mem_replicate h];exact⟨cf _,cf _⟩;rcases jA.1 h with h|h;rcases d with _|c;rw[h];exact⟨cf _,cf _⟩;rw[h];exact k c rfl;exact j x h
theorem Zew {d:Option St} {tb:List St} (h:mg w T bb ib cb sb (Lq q d tb) q d.isSome) (B:q+tb.length=n) (G:n<=4096) (j:∀x∈tb,x.cost<=M/\x.pcs<=M) (E:M<=160000) (p:∀x,d=some x->x.cost<=M+38/\x.pcs<=M+38) (t:Pc) (h1:1<=t.len) (D:q+t.len<=n) (l:t.dist<=4096):
  cK 204 #[.agg (qY t),(bb,0),(ib,0),(cb,0),(sb,0)] w λx w'=>x=.returned (.tuple #[])/\mg w' T bb ib cb sb (Lq q (kY tb d t) tb) q (kY tb d t).isSome/\(∀x,kY tb d t=some x->x.cost<=M+38/\x.pcs<=M+38)/\Fr (λk=>k=T\/k=sb) w w':=by have F:=Zof q d tb;have Zpb:(kY tb d t).isSome=true:=(by obtain⟨x,g⟩:=F8 tb d t;rw[g];rfl);have z:=Zog (q:=q) (M:=M+38) (λx g=>by have:=j x g;omega) p;refine(ZiW h O (λx g=>by have:=z x g;omega) t O l h1 O).mono ?_;rintro x w' ⟨rfl,u,y⟩;rw[ZnS q d tb t h1] at u;rw[Zpb];exact⟨rfl,u,B_ j p (GC l O),y⟩
theorem ZnD:(prog.info? 282).map (λi=>(i.zero,i.size,i.bytes))=some (some (.agg #[(0:Int),(0:Int),(0:Int),(0:Int),.int .u8 0]),5,40):=dw
theorem Zbt (n:Nat):madeCells #[(0:Int),(0:Int),(0:Int),(0:Int),.int .u8 0] (n*5)=ou (List.replicate n dU):=by
 apply Array.ext_getElem?;intro i;unfold madeCells;rcases Nat.lt_or_ge i (n*5) with h|h
 .have g:i/5<(List.replicate n dU).length:=(by rw[iE];omega);obtain⟨a,b,c,d,e⟩:=Lx (List.replicate n dU) (i/5) g;have j:(List.replicate n dU).getD (i/5) dU=dU:=by rw[pf,fb g,Nb];rfl
  rw[j] at a b c d e;have hi:i=i/5*5+i % 5:=O;rw[Array.getElem?_map,Array.getElem?_range];rw[Vag h];rcases(show i % 5=0\/i % 5=1\/i % 5=2\/i % 5=3\/i % 5=4 by omega) with r|r|r|r|r
  all_goals
   rw[r] at hi;simp only[Cg,Array.size,List.size_toArray,gd,xa,Nat.reduceAdd,r]
  .rw[hi,Vcj,a];rfl
  .rw[hi,b];rfl
  .rw[hi,c];rfl
  .rw[hi,d];rfl
  rw[hi,e];rfl
 have h1:(ou (List.replicate n dU)).size<=i:=by unfold ou;simp only[List.size_toArray,List.length_flatMap,List.map_replicate,List.sum_replicate_nat];have:(BD dU).length=5:=rfl;rw[this];exact h
 rw[Array.getElem?_eq_none h1,Array.getElem?_map,Array.getElem?_range,aD O];rfl
theorem Zj1 (n:Nat) (l:n<=5000) (w:aq):(Instr.makeSlice 280 n n).run prog w=.ok (.slice (some (w,0)) n n) (w.alloc (.cells (ou (List.replicate n dU)) 282)):=by obtain⟨i,hi,k,j,d⟩:=info_parts ZnD;have g:=run_make (P:=prog) w 280 282 i _ underlying280 hi k .i64 .i64 (n:Int) (n:Int) O O (by rw[d];omega) O;rw[g,ep,j,<-Zbt];rfl
theorem VA (w:aq):Calls prog 203 #[(4096:Int)] w λx w'=>x=.returned true/\w=w':=xf
theorem Tj (w:aq):Calls prog 202 #[ua] w (bM w true):=by
 have d:=J (Bk.newN (w.alloc (.cells #[(9:Int),(12:Int),(1:Int),(1:Int)] 236)) 3 #[(9:Int),(12:Int),(1:Int),(1:Int)] (n:=w.heap.size+1) (by simp));have hb:=J (((bf w w).alloc aU (.cells #[(9:Int),(12:Int),(1:Int),(1:Int)] 236)).alloc (by simp) (.cells #[(9:Int),(12:Int),(1:Int),(1:Int)] 3));unfold ua;go_in;go_wp2;generalize (w.alloc (.cells #[(9:Int),(12:Int),(1:Int),(1:Int)] 236)).alloc (.cells #[(9:Int),(12:Int),(1:Int),(1:Int)] 3)=W0 at*;go_loopw [15] (λg wr=>∃k:Nat,k<=4/\g=k/\wr=W0) (λg _=>(4-intOf g).toNat);exact⟨0,O,rfl,rfl⟩;obtain⟨k,l,rfl,rfl⟩:=hrel;have c0:=d.o.cell 0;have c1:=d.o.cell 1;have c2:=d.o.cell 2;have j:=d.o.cell 3;simp at c0 c1 c2 j;rcases(show k=0\/k=1\/k=2\/k=3\/k=4 by omega) with rfl|rfl|rfl|rfl|rfl;.go_wp2;refine⟨⟨1,O,rfl,mG⟩,?_⟩;simp[intOf]
 .go_wp2;refine⟨⟨2,O,rfl,mG⟩,?_⟩;simp[intOf]
 .go_wp2;refine⟨⟨3,O,rfl,mG⟩,?_⟩;simp[intOf]
 .go_wp2;refine⟨⟨4,O,rfl,mG⟩,?_⟩;simp[intOf]
 go_wp2;go_returns;exact⟨rfl,hb.o⟩
def pcL (t:Pc):List aI:=[.int .i64 (t.len:Int),.int .i64 (t.dist:Int),.int .u8 (t.byte.toNat:Int)]
def qo (l:List Pc):List aI:=l.flatMap pcL
structure wK (w:World) (T bb ib cb:Nat) (L:List St) (iv:Int):Prop where
 tb:Bk w T 282 (ou L)
 best:Bk w bb 280 #[.slice (some ⟨T,0,none⟩) L.length L.length]
 i:Bk w ib 3 #[iv]
 c:Bk w cb 236 #[(9:Int),(12:Int),(1:Int),(1:Int)]
theorem wK.below {L:List St} {iv:Int} (h:wK w T bb ib cb L iv) (hb:Below w w w'):wK w' T bb ib cb L iv:=
 ⟨h.tb.below hb h.tb.lt,h.best.below hb h.best.lt,h.i.below hb h.i.lt,h.c.below hb h.c.lt⟩
theorem wK.try {L:List St} (h:wK w T bb ib cb L (i:Int)):mg (w.alloc (.cells #[false] 4)) T bb ib cb w L i false:=
 ⟨h.tb.alloc _,h.best.alloc _,h.i.alloc _,h.c.alloc _,Bk.new _ _ _⟩
def Lk (s:ax) (k:Nat):List St:=List.replicate k dU++pL s (s.length-k)
theorem Zlk (s:ax) (q:Nat):Lk s (q+1)=Lq q none (pL s (s.length-(q+1))):=by unfold Lk Lq;rw[List.replicate_succ',er];rfl
theorem Zhi (s:ax):List.replicate (s.length+1) dU=Lk s s.length:=by unfold Lk;rw[fh,List.replicate_succ'];rfl
theorem Zlj (s:ax) (q:Nat) (g:q<s) {x:St} (d:(vi s q).foldl (kY (pL s (s.length-(q+1)))) none=some x):Lq q (some x) (pL s (s.length-(q+1)))=Lk s q:=by unfold Lk Lq;have e:s.length-q=(s.length-(q+1))+1:=O;rw[e];show _=_++(xy s (s.length-1-(s.length-(q+1))) _::_);rw[show s.length-1-(s.length-(q+1))=q by omega];unfold xy;rw[d]
theorem OZ (s:ax) (h:k<=s):(Lk s k)=s.length+1:=by unfold Lk;rw[bV,iE,M_];omega
theorem K' {cap g:Nat} {o:List (Nat×Nat)} (h:w.ownsRow B 287 2 (.slice (some (g,0)) n cap) n (lq o)) (p:k<o):w.cell? ⟨g,k*2,none⟩=((o.getD k (0,0)).1:Int)/\w.cell? ⟨g,k*2+1,none⟩=((o.getD k (0,0)).2:Int):=by
 have key:∀(o:List (Nat×Nat)) (k:Nat),k<o.length->(lq o)[k*2]? =((o.getD k (0,0)).1:Int)/\(lq o)[k*2+1]? =((o.getD k (0,0)).2:Int):=by
  intro o;induction o with
  |nil=>intro k h;simp at h
  |cons c r ih=>
   intro k h;cases k with
   |zero=>exact⟨rfl,rfl⟩
   |succ k=>
    obtain⟨a,b⟩:=ih k Ct;have j:(lq (c::r))[(k+1)*2]? =(lq r)[k*2]? :=by unfold lq;rw[sW,pO (by show 2<=_;omega)];congr 1;show(k+1)*2-2=_;omega
    have l:(lq (c::r))[(k+1)*2+1]? =(lq r)[k*2+1]? :=by unfold lq;rw[sW,pO (by show 2<=_;omega)];congr 1;show(k+1)*2+1-2=_;omega
    rw[j,l,IB];exact⟨a,b⟩
 obtain⟨a,b⟩:=key o k p;have h1:=h.cells (g:=g) rfl _ _ a;have d:=h.cells (g:=g) rfl _ _ b;rw[Go.WideShapes.add_plain,jK] at h1 d;exact⟨h1,d⟩
def Ie (v:aI) (w:aq):Nat:=match v with
 |.pointer (some a)=>match w.cell? a with
  |some (.int _ n)=>(n+1).toNat
  |_=>0
 |_=>0
theorem r_ {a:Addr} {k:IntKind} {n:Int} (h:w.cell? a=some (.int k n)):Ie (.pointer (some a)) w=(n+1).toNat:=by unfold Ie;simp only;rw[h]
theorem Zjd {w1:aq} (g:Bk w1 cb 236 #[(9:Int),(12:Int),(1:Int),(1:Int)]) {L:List St} {m:Nat} (d:L=m) (iv:Int):
  wK (((w1.alloc (.cells (ou L) 282)).alloc (.cells #[.slice (some (w1,0)) m m] 280)).alloc (.cells #[iv] 3)) w1.heap.size (w1.heap.size+1) (w1.heap.size+1+1) cb L iv/\
  Below w1.heap.size w1 (((w1.alloc (.cells (ou L) 282)).alloc (.cells #[.slice (some (w1,0)) m m] 280)).alloc (.cells #[iv] 3)):=by
 subst d
 exact⟨⟨((Bk.new _ _ _).alloc _).alloc _,(Bk.newN _ _ _ (by simp)).alloc _,Bk.newN _ _ _ (by simp),((g.alloc _).alloc _).alloc _⟩,
  (((bf w1 w1).alloc aU _).alloc (by simp) _).alloc fj _⟩
theorem VK {wr wx:aq} (h:Below B w wr) (g:B<=wr) (j:Fr (λk=>k=T\/k=sb) wr wx) (h1:B<=T) (l:B<=sb):Below B w wx:=
 h.trans (j.toBelow' g (λk p d=>by rcases d with d|d<;>omega))
theorem ZpP {L:List St} {seen:Bool} (h:w.ownsRow B 287 2 v n xs) (l:mg w T bb ib cb sb L i seen) (p:Fr (λk=>k=T\/k=sb) w w'):w'.ownsRow B 287 2 v n xs:=
 Z6 h p (λg j d=>by rcases d with d|d;exact Z1 h l.tb aY (d▸j);exact Z1 h l.sn aY (d▸j))
def Ip (n q:Nat) (l:List (Nat×Nat)):Prop:=∀c∈l,2<=c.1/\q+c.1<=n/\c.2<=4096
theorem Zdh {s:ax} (k:q<=s):Ip s q (rD s q):=λc g=>by obtain⟨h1,j,_,_,d,_⟩:=(K9 s q).1 c g;have:XV s q<=s.length-q:=Nat.min_le_right _ _;exact⟨h1,O,d⟩
theorem ZlD (s:ax) (i most:Nat):∀p b o,(pB s i most p b o).length<=o.length+p:=by
 intro p;induction p with
 |zero=>intro b o;exact aU
 |succ p ih=>intro b o;rw[pB];split;exact O;split;have:=ih b o;omega;split;have:=ih (oM s p i most) (o++[(oM s p i most,i-p)]);rw[bV,pg] at this;omega;have:=ih b o;omega
theorem ZhJ (s:ax) (i:Nat):(rD s i)<=i:=by have:=ZlD s i (XV s i) i 1 [];unfold rD;simpa using this
theorem U6 (h:Ip n q l) (d:j<l):2<=(l.getD j (0,0)).1/\q+(l.getD j (0,0)).1<=n/\(l.getD j (0,0)).2<=4096:=by rw[pf,fb d];exact h _ (dt _)
theorem Zg9 (h:Ip n q l) (d:j<l):1<=Bl l j/\Bl l j<=n+1:=by unfold Bl;split;obtain⟨a,b,_⟩:=U6 h (j:=j-1) O;omega;omega
theorem Uf {base size:Nat} {e:TypeId} (h:w.ownsRow base e size v n xs) (u:0<n):∃g cap,v=.slice (some ⟨g,0,none⟩) n cap/\n<=cap:=by rcases h.2 with ⟨_,q⟩|⟨k,d,j,p,hb,t,l,_⟩;exact O;exact⟨k,d,p,l⟩
theorem ZqO:(prog.info? 198).map (λi=>(i.zero,i.size,i.bytes))=some (some (.agg #[(0:Int),(0:Int),.int .u8 0]),3,24):=dw
theorem Zbq (s:ax) (g8:s.length<=4096) (w:aq):
  Calls prog 158 #[ua,bs s,(4096:Int)] w λx w'=>∃a5,x=.returned (.tuple #[a5,(0:Int)])/\w'.ownsRow w 198 3 a5 (bC s) (qo (bC s))/\Below w w w':=by
 obtain⟨f2,k5,d3⟩:=bD (λW=>Tj W) (λW=>VA W) (λi (hi:i<=s.length) W=>Zbw s g8 i hi W);have l3:(bs s).size=s:=Z0 s;obtain⟨n,g6⟩:=ay s.length;have d1:=λW=>Zj1 (n+1) O W;have r7:((n+1:Nat):Int)=(n:Int)+1:=O;rw[r7] at d1;obtain⟨o6,n7,b0,i0,d7,j2⟩:=fA (Bk.new w 236 #[(9:Int),(12:Int),(1:Int),(1:Int)]) ((bf w w).alloc aU (.cells #[(9:Int),(12:Int),(1:Int),(1:Int)] 236)) (yY s) (λq a3 x g9=>Zlj s q a3 (x:=x) g9) (λq=>Zlk s q) (λq (a3:q<s.length)=>Zgw s (s.length-(q+1)) O);have i3:=J (λq (a3:q<=s.length)=>Zdh a3);have o3:=J (λk=>M_ s k);obtain⟨S,m7⟩:=ay (bs s);have e5:=J (Zhi s);have f4:(Lk s s).length=s+1:=OZ s aU;rw[m7] at l3 d3 b0⊢;rw[g6] at l3 g8 d3 b0 e5 i0 d7 j2 i3 f4;have v1:¬(4096:Int)<S.size:=O;have s2:decide ((4096:Int)<n)=false:=cI O;have I:=J g6;rw[e5.o] at d1;have p0:=J f4;clear g6 m7 f4;unfold ua at f2⊢;go_in;go_wp21;refine aP (f2.o _) λw1 c4=>?_;go_wp21;refine cp (k5.o _) ?_;have r1:=d1 w1;have q7:=c4.size;rw[World.size_alloc] at q7;obtain⟨B,l1⟩:=Zjd (o6.o.below c4 (by simp)) p0.o ((n:Int)-1);have l5:=(n7.o.trans (c4.mono (by simp))).trans (l1.mono O);have o5:=J B;have o1:=J l5;clear B l1 l5 o6 n7 c4 f2 k5 d1;generalize ou (Lk s n)=ST at*;go_wp2;generalize ((w1.alloc (.cells ST 282)).alloc (.cells #[.slice (some ⟨w1.heap.size,0,none⟩) (n+1) (n+1)] 280)).alloc (.cells #[((n:Int)-1:Int)] 3)=W0 at*;clear r1;have l0:w.heap.size<=w1.heap.size:=O;generalize w1.heap.size+1+1=h5 at*;generalize w1.heap.size+1=bb at*;generalize w1.heap.size=T at*;go_loopw [9] (λi5 wr=>∃(k ib:Nat),k<=n/\i5=.pointer (some (ib,0))/\Hid (wK wr T bb ib w (Lk s k) ((k:Int)-1))/\Hid (Below w w wr)) (λi5 wr=>Ie i5 wr);exact⟨n,h5,aU,rfl,o5,o1⟩;clear o5 o1;obtain⟨k,ib,s1,rfl,B,hb⟩:=hrel;have R:=B.o.i.cell 0;have n5:=B.o.i.lt;have j9:=B.o.best.lt;have o2:=B.o.tb.lt;have m2:=B.o.c.lt;simp at R;have i4:=J (r_ R);by_cases ab:0<k
 .obtain⟨q,rfl⟩:∃q,k=q+1:=⟨k-1,O⟩;have i1:((q+1:Nat):Int)-1=(q:Int):=O;rw[i1] at R B i4;have a3:q<n:=O;have h9:=B.o.try;rw[d7.o] at h9;have h8:=i0.o q a3;have o4:=j2.o q a3;have n2:=i3.o q O;have r6:=o3.o (n-(q+1));generalize pL s (n-(q+1))=tb at*;have k4:q+tb.length=n:=O;have m6:38*(n-(q+1))<=160000:=O;have g1:=ZhJ s q;have b4:vi s q=ui (rD s q).reverse++[vu s q]:=rfl;rw[b4] at h8;have k2:=J (d3.o q O (wr.alloc (.cells #[false] 4)));generalize rD s q=l at*;obtain⟨X,f8⟩:∃X,(ui l.reverse++[vu s q]).foldl (kY tb) none=some X:=by rw[rk];exact F8 _ _ _
  obtain⟨k1,p8,j4⟩:=bD f8 (h8 X f8) (λ(W:aq) (u:Option St) (h:mg W T bb ib w wr (Lq q u tb) q u.isSome) hc t h1 h2 h3=>Zew h k4 g8 o4 m6 hc t h1 h2 h3);have k6:=hb.o.size;obtain⟨e7,k8,k7⟩:=bD (hb.o.alloc k6 (.cells #[false] 4)) h9 n2;clear h9 f8 h8 o4 n2 r6 k4 m6 b4 B;go_wp21;refine(k2.o).mono ?_;rintro x t7 ⟨a5,rfl,L,aa⟩;obtain⟨A,cap,rfl,_⟩:=Zh L;obtain⟨c8,h6,b9⟩:=bD (k8.o.below aa) (K4 L (show w.heap.size<=_ by rw[World.size_alloc];omega)) (e7.o.trans (aa.mono e7.o.size));have v4:l.length<=4096:=O;have h0:Hid ((ui ((l.take l).reverse)++[vu s q]).foldl (kY tb) none=some X):=(by rw[Vbq];exact k1);have r9:Hid (∀k,k<l.length->∃b,A=some ⟨b,0,none⟩):=J (λk s1=>by obtain⟨g,c2,e,_⟩:=Uf h6.o O;injection e with f3 u9 v0;exact⟨g,f3⟩);clear k8 L aa e7 k2 R n5 j9 o2 m2 k1 g1;go_wp2;have k3:w<=wr.heap.size:=k6;generalize wr.heap.size=sb at*;go_loopw [13] (λh7 wx=>∃(kk:Nat) (u:Option St),kk<=l/\h7=((kk:Int)-1:Int)/\Hid (mg wx T bb ib w sb (Lq q u tb) q u.isSome)/\Hid (wx.ownsRow w 287 2 (.slice A l cap) l (lq l))/\Hid ((ui ((l.take kk).reverse)++[vu s q]).foldl (kY tb) u=some X)/\Hid (∀x,u=some x->x.cost<=38*(n-(q+1))+38/\x.pcs<=38*(n-(q+1))+38)/\Hid (Below w w wx)) (λh7 _=>(intOf h7+1).toNat);exact⟨l.length,none,aU,rfl,c8,h6,h0,J (λx g9=>by cases g9),b9⟩;clear c8 h6 h0 b9;obtain⟨kk,u,o0,rfl,E,D,Q,M,G⟩:=hrel;by_cases c3:0<kk
  .obtain⟨j,rfl⟩:∃j,kk=j+1:=⟨kk-1,O⟩;have s4:((j+1:Nat):Int)-1=(j:Int):=O;rw[s4];have a8:j<l.length:=O;obtain⟨g,rfl⟩:=r9.o j a8;obtain⟨t3,t8,o7⟩:=U6 k7.o a8;have b5:=Zci a8;have t9:=Zg9 k7.o a8;have y:=Q.o;rw[b5] at y;obtain⟨c1,c2⟩:=K' D.o a8;obtain⟨hi,n8⟩:=ay ((l.getD j (0,0)).1);obtain⟨d,hd⟩:=ay ((l.getD j (0,0)).2);obtain⟨a1,d6⟩:=ay (Bl l j);rw[n8] at t3 t8 c1 y;rw[hd] at o7 c2 y;rw[d6] at t9 y;have F:=J y;have u2:(j:Int)<l:=O;have v3:(0:Int)<=j:=O;have b7:=J d6;have d8:=J hd;clear b5 Q y n8 hd d6 ab o0 c3;go_upto_if 53 with fail;go_cut [14] (λs8 i6=>s8=a1/\wr=i6)
   case first=>
    clear E F M G c1 c2;by_cases g0:0<j
    .have s0:(0:Int)<j:=O;have f3:(j:Int)-1=((j-1:Nat):Int):=O;obtain⟨c1,c2⟩:=K' D.o (k:=j-1) O;have b8:(l.getD (j-1) (0,0)).1=a1:=by rw[<-b7.o];unfold Bl;rw[Vag g0]
     rw[b8] at c1;have r5:((j-1:Nat):Int)<(l.length:Int):=O;obtain⟨s5,j8⟩:=ay (j-1);rw[j8] at f3 c1 c2 r5;have m8:(0:Int)<=s5:=O;clear D b7 j8 b8;go_wp2;go_meet;case rel=>exact⟨rfl,rfl⟩
    have q8:j=0:=O;subst q8;have b8:a1=1:=(by rw[<-b7.o];rfl);subst b8;clear D b7;go_wp2;go_meet;case rel=>exact⟨rfl,rfl⟩
   obtain⟨rfl,rfl⟩:=hcut;clear b7;have r8:j<=l.length:=O;go_wp2;go_loopw [15] (λd4 i7=>∃(m:Nat) (u:Option St),m<=hi/\d4=m/\Hid (mg i7 T bb ib w sb (Lq q u tb) q u.isSome)/\Hid (i7.ownsRow w 287 2 (.slice (some ⟨g,0,none⟩) l cap) l (lq l))/\Hid (((sq m a1 d++ui ((l.take j).reverse))++[vu s q]).foldl (kY tb) u=some X)/\Hid (∀x,u=some x->x.cost<=38*(n-(q+1))+38/\x.pcs<=38*(n-(q+1))+38)/\Hid (Below w w i7)) (λd4 _=>(intOf d4).toNat);exact⟨hi,u,aU,rfl,E,D,F,M,G⟩;clear c1 c2 E D F M G;obtain⟨m,u,g5,rfl,E,D,Q,M,G⟩:=hrel;by_cases s6:a1<m;.have l9:=Zdu (d:=d) s6;have y:=Q.o;rw[l9] at y;have F:Hid (((sq (m-1) a1 d++ui ((l.take j).reverse))++[vu s q]).foldl (kY tb) (kY tb u ⟨m,d,0⟩)=some X):=J y;have z:=j4.o wr u E.o M.o ⟨m,d,0⟩ dz dz dz;unfold qY at z;simp only at z;have e0:(((0:cj).toNat:Nat):Int)=0:=rfl;rw[e0] at z;have z:=J z;obtain⟨c1,c2⟩:=K' D.o a8;rw[d8.o] at c2;have q0:(a1:Int)<m:=O;have em:(m:Int)-1=((m-1:Nat):Int):=O;obtain⟨n6,l7⟩:=ay (m-1);rw[l7] at em F;have p9:n6<=hi:=O;have n3:=E;clear l9 Q y e0 l7 E M c1;go_wp21;refine aP z.o λa6 ⟨a2,l2,a7⟩=>?_;obtain⟨p6,t6,r4,p4⟩:=dc a2 l2 (ZpP D.o n3.o a7) (VK G.o G.o.size a7 l0 k3);clear a2 l2 a7 D n3 G z;go_wp2;refine⟨⟨n6,_,p9,by first|rfl|(congr 1),p6,r4,F,t6,p4⟩,?_⟩;simp[intOf]<;>omega
   have y:=Q.o;rw[Zil O,pU] at y;have F:=J y;have q0:¬(a1:Int)<m:=O;clear Q y;go_wp2;refine⟨⟨j,u,r8,by first|rfl|go_num,E,D,F,M,G⟩,?_⟩;simp[intOf]<;>omega
  have q6:kk=0:=O;subst q6;have j6:kY tb u (vu s q)=some X:=Q.o;have z:=j4.o wr u E.o M.o (vu s q) (Na 1) (by show q+1<=n;omega) (cf _);have g7:q<S.size:=O;have s3:(q:Int)<S.size:=O;have v7:(0:Int)<=q:=O;have b3:=b0.o q O g7;have m5:qY (vu s q)= #[.int .i64 1,.int .i64 0,.int .u8 ((s.getD q 0).toNat:Int)]:=rfl;rw[m5,<-b3,j6,p8.o] at z;have z:=J z;have i9:((0:Nat):Int)-1= -1:=rfl;rw[i9];obtain⟨_,R,_⟩:=E.o.cells;clear Q j6 m5 b3 D M b0 o0 c3;go_wp21;refine aP z.o λa6 ⟨a2,_,a7⟩=>?_;obtain⟨_,r3,_⟩:=a2.cells;have e4:=VK G.o G.o.size a7 l0 k3;have f7:Hid (wK (a6.alloc (.cells #[((q:Int)-1:Int)] 3)) T bb a6.heap.size w (Lk s q) ((q:Int)-1)):=J ⟨a2.tb.alloc _,a2.best.alloc _,Bk.new _ _ _,a2.c.alloc _⟩;have p3:=J (e4.alloc e4.size (.cells #[((q:Int)-1:Int)] 3));have t1:Hid (Ie (.pointer (some (a6.heap.size,0))) (a6.alloc (.cells #[((q:Int)-1:Int)] 3))=((q:Int)-1+1).toNat):=J (r_ ((Bk.new a6 3 #[((q:Int)-1:Int)]).cell 0));clear a2 a7 e4 E G z R;go_wp2;refine⟨⟨q,a6.heap.size,O,rfl,f7,p3⟩,?_⟩;rw[t1.o,i4.o];omega
 have c3:k=0:=O;subst c3;have a9:=B.o;have i9:((0:Nat):Int)-1= -1:=rfl;rw[i9] at R;have j0:Lk s 0=qL s:=(by unfold Lk qL;rw[Nat.sub_zero];rfl);rw[j0] at a9;have p1:=J a9;have c7:(qL s)=n+1:=by rw[<-j0,<-I.o];exact OZ s (cf _)
 have u4:=J c7;have m4:Hid ([]++ss s n 0=bC s):=J (by rw[pU,<-I.o];rfl);obtain⟨u0,p2,d9,o9⟩:=dc (λi (h:i<n)=>(Vs (by rw[I.o];exact h):rR s i ((qL s).getD i dU).first)) (λf i (h:i<n)=>(Z8r (by rw[I.o];exact h):ss s (f+1) i=((qL s).getD i dU).first::ss s f (i+((qL s).getD i dU).first.len))) (λf=>(Zbj og:ss s f n=[])) (λi (h:i<n+1)=>Lx (qL s) i (by rw[c7];exact h));have a4:=a9.best;rw[c7] at a4;have j3:=J a4;have k9:=J a9.tb;have b6:Hid (wr.ownsRow w 198 3 (.slice none 0 0) ([]:List Pc) (qo [])):=J Zl;clear a9 B j0 i4 c7 a4 n5 j9 o2 m2 d7 i0 j2 i3 o3 d3 b0 e5;go_wp2;clear R;go_loopw [16,17] (λs7 d5 wx=>∃(i f:Nat) (o:List Pc) (a5:aI),i<=n/\d5=(i:Int)/\s7=a5/\Hid (n<=i+f)/\Hid (o.length<=i)/\Hid (Bk wx T 282 (ou (qL s)))/\Hid (Bk wx bb 280 #[.slice (some (T,0)) (n+1) (n+1)])/\Hid (wx.ownsRow w 198 3 a5 o (qo o))/\Hid (o++ss s f i=bC s)/\Hid (Below w w wx)) (λ_ d5 _=>(n-intOf d5).toNat);exact⟨0,n,[],_,cf _,rfl,rfl,J O,J aU,k9,j3,b6,m4,hb⟩;clear k9 j3 b6 m4 hb;obtain⟨i,f,o,a5,hi,rfl,rfl,f9,c5,b2,a4,L,c9,hb⟩:=hrel;obtain⟨A,cap,rfl,_⟩:=Zh L.o;by_cases ab:i<n;.obtain⟨f1,rfl⟩:∃g,f=g+1:=⟨f-1,by have:=f9.o;omega⟩;have l6:=u0.o i ab;have b1:=l6.pos;rw[I.o] at b1;have i8:=p2.o f1 i ab;obtain⟨_,_,c6,f5,f6⟩:=o9.o i O;obtain⟨p,n0⟩:=ay (((qL s).getD i dU).first);rw[n0] at b1 i8 c6 f5 f6;have a0:=c9.o;rw[i8] at a0;have F:Hid ((o++[p])++ss s f1 (i+p.len)=bC s):=J (by rw[er];exact a0);have q2:=(b2.o.cell (i*5+2)).trans c6;have q3:=(b2.o.cell (i*5+3)).trans f5;have q4:=(b2.o.cell (i*5+4)).trans f6;have t2:=a4.o.cell 0;simp at t2;have u7:(i:Int)<n+1:=O;have m9:(i:Int)<n:=O;have v2:(0:Int)<=i:=O;obtain⟨v6,t7,n1,d2,k0,e9,_⟩:=Vn (P:=prog) 186 198 _ _ 3 underlying186 ZqO rfl O L.o hb.o hb.o.size [.int .i64 (p.len:Int),.int .i64 (p.dist:Int),.int .u8 (p.byte.toNat:Int)] rfl sX (by unfold maxLen;have:=c5.o;omega) (by have:=c5.o;omega);have h4:=e9 _ _ _ b2.o aY;have aa:=e9 _ _ _ a4.o aY;have v5:=(h4.cell (i*5+2)).trans c6;have t5:=aa.cell 0;simp at t5;have n4:o+1=(o++[p]).length:=(by simp);have m3:qo o++[.int .i64 (p.len:Int),.int .i64 (p.dist:Int),.int .u8 (p.byte.toNat:Int)]=qo (o++[p]):=(by simp[qo,pcL]);rw[n4,m3] at d2;obtain⟨p7,c8,b9,p5,q9⟩:=ii d2 h4 aa k0 n1;have l8:Hid (n<=i+p.len+f1):=J (by have:=f9.o;omega);have n9:Hid ((o++[p]).length<=i+p.len):=J (by have:=c5.o;exact fj);obtain⟨A2,u3,u6,rfl⟩:=Z7 d2;clear l6 i8 c6 f5 f6 n0 c9 a0 d2 h4 aa k0 n1 f9 c5 e9 n4 m3 L;obtain⟨m,g5⟩:=ay (i+p.len);rw[g5] at F l8 n9 b1;have u5:(i:Int)+p.len=(m:Int):=O;have e6:m<=n:=b1.2;have u1:i<m:=O;clear b1 g5;go_wp2_with (at_builtin;refine Z5 Ft rfl _ _ _ rfl _ _ (by rfl) (by rfl) q9.o ?_);refine⟨⟨m,f1,o++[p],_,e6,by first|rfl|(congr 1),rfl,l8,n9,c8,b9,p7,F,p5⟩,?_⟩;simp[intOf]<;>omega
 have e6:i=n:=O;subst e6;have a0:=c9.o;rw[d9.o,fg] at a0;have e8:=L.o;rw[a0] at e8;have t4:=J e8;rw[a0];clear c9 a0 L e8 b2 a4;go_wp2;go_returns;exact⟨_,rfl,t4.o,hb.o⟩
end Go.Proofs.Y
namespace Wv
open Go.Proofs.Tryz Go Go.RowKit
theorem Zc6 {w:aq} {B t:Nat} {e k:TypeId} {sz j n D:Nat} {v q:aI} {xs E:List aI} (h:w.ownsRow B e sz v n xs) (y:w.ownsRow t k j q D E) (u:e≠k) {g:Nat} (p:v.ownBlock=some g):q.ownBlock≠some g:=by rcases h.2 with ⟨rfl,_⟩|⟨l,cap,d,rfl,_,z,_⟩;simp[Value.ownBlock] at p;have:l=g:=(by simpa [Value.ownBlock] using p);subst this;exact Z1 y (show Bk w l e d from z) (Ne.symm u)
end Wv
namespace Go.Proofs.Y
open Tryz Wv Go.RowKit
variable{B g n:Nat}{w':aq}
theorem Zn4 {w:aq} {cap:Nat} {o:List Pc} (h:w.ownsRow B 198 3 (.slice (some (g,0)) n cap) n (qo o)) {k:Nat} (t:k<o):w.cell? ⟨g,k*3,none⟩=(o[k].len:Int)/\w.cell? ⟨g,k*3+1,none⟩=(o[k].dist:Int)/\w.cell? ⟨g,k*3+2,none⟩=some (.int .u8 (o[k].byte.toNat:Int)):=by
 have key:∀(o:List Pc) (k:Nat) (t:k<o),(qo o)[k*3]? =(o[k].len:Int)/\(qo o)[k*3+1]? =(o[k].dist:Int)/\(qo o)[k*3+2]? =some (.int .u8 (o[k].byte.toNat:Int)):=by
  intro o;induction o with
  |nil=>intro k h;simp at h
  |cons c r ih=>
   intro k h;cases k with
   |zero=>exact⟨rfl,rfl,rfl⟩
   |succ k=>
    obtain⟨a,b,d⟩:=ih k Ct;have l:∀j,(qo (c::r))[(k+1)*3+j]? =(qo r)[k*3+j]? :=λj=>by unfold qo;rw[sW,pO (by show 3<=_;omega)];congr 1;show(k+1)*3+j-3=_;omega
    have e0:=l 0;simp only[Vcj] at e0;rw[e0,l,l];exact⟨a,b,d⟩
 obtain⟨a,b,d⟩:=key o k t;have h1:=h.cells (g:=g) rfl _ _ a;have p:=h.cells (g:=g) rfl _ _ b;have q:=h.cells (g:=g) rfl _ _ d;rw[Go.WideShapes.add_plain,jK] at h1 p q;exact⟨h1,p,q⟩
theorem Z6U (s:ax) (q:4096<s.length) (p:s.length<=1000000000) (w:aq):
  Calls prog 158 #[ua,bs s,(4096:Int)] w (bM w (.tuple #[.slice none 0 0,(9:Int)])):=by have d:=J (λW=>Tj W);have k:=J (λW=>VA W);have l:(bs s).size=s:=Z0 s;have t:(4096:Int)<((bs s).size:Int):=O;have j:=J ((bf w w).alloc aU (.cells #[(9:Int),(12:Int),(1:Int),(1:Int)] 236));generalize bs s=S at*;clear l q p;unfold ua at d⊢;go_in;go_wp21;refine aP (d.o _) λw1 g=>?_;go_wp21;refine cp (k.o _) ?_;have u:=J (j.o.trans (g.mono (by simp)));clear g j;exact EP
theorem RN (s:ax) (l:s.length<=4096) (w:aq):
  Calls prog 114 #[bs s] w λx w'=>∃d,x=.returned (.tuple #[d,(0:Int)])/\w'.ownsRow w 198 3 d (bC s) (qo (bC s))/\Below w w w':=by have g:=J (Zbq s l w);generalize bs s=S at*;generalize bC s=R at*;unfold ua at g;go_in;go_wp21;refine(g.o).mono ?_;rintro x w1 ⟨d,rfl,h1,k⟩;obtain⟨A,M,cap,rfl⟩:=Z7 h1;have j:=J h1;clear h1;go_wp2;go_returns;exact⟨_,rfl,j.o,k⟩
theorem Z5l (s:ax) (k:4096<s.length) (g:s.length<=1000000000) (w:aq):
  Calls prog 114 #[bs s] w (bM w (.tuple #[.slice none 0 0,(9:Int)])):=by have d:=J (Z6U s k g w);generalize bs s=S at*;unfold ua at d;go_in;go_wp21;refine aP d.o λw1 j=>?_;go_wp2;go_returns;exact⟨rfl,j⟩
theorem e_ {s:ax} {i:Nat} {t:Pc} (h:rR s i t) (l:s.length<=4096):t.len<=1000000/\t.dist<=1000000/\(t.dist=0/\1<=t.len\/1<=t.dist/\2<=t.len):=by rcases h with ⟨h1,d,_⟩|⟨h1,d,g,j,k,_⟩<;>omega
theorem ZbL (t:Pc) (l:List Pc) (x:Ms×En):XO (t::l) x=XO l (lB t x):=rfl
theorem wnew {p:Pl} {eb:Nat} {dv:aI} (j:BM B p) (l:B<=eb) (hd:∀g,dv.ownBlock=some g->B<=g):∀k,k<B->¬QA p eb dv k:=λk q d=>by rcases d with d|d|d|d|d|d|d;have:=j.kg;omega;have:=j.bb;omega;have:=j.bg;omega;have:=j.lg;omega;have:=j.dg;omega;exact O;have:=hd k d;omega
theorem Zex (s : ax) (j : s.length <= 4096) (e8 : s ≠ []) (w : aq) :
    Calls prog 76 #[bs s] w (bM w (.tuple #[bs (bi s.length++ji (XO (bC s) (m0,e0)).2),(0:Int)])):=by
  have b6:=J (RN s j w);have h2:(bs s).size=s:=Z0 s;have h5:=YU s;rw[cI e8] at h5;have a4:=J (λW=>Zj (s.length:Int) O O W);have g5:=rK s;rw[<-Z0] at g5;have b8:=J (λW=>Tk W);unfold sG at b8;obtain⟨d9,I,i4⟩:=bD (λW=>Vf W) (QL s) (λi t (h:rR s i t)=>e_ h j);obtain⟨n,d1⟩:=ay s.length;have b3:=J d1;rw[d1] at h2 a4 j g5⊢;rw[ep] at a4;have g1:=J (Z9 (bi n) (ji (XO (bC s) (m0,e0)).2));generalize bs s=S at*;obtain⟨l,f9⟩:=ay (bC s);rw[f9] at b6 I g1⊢;generalize bs (bi n)=NS at*;clear d1 f9 e8;go_in;go_wp21;refine(b6.o).mono ?_;rintro x w1 ⟨j3,rfl,c7,c9⟩;obtain⟨A,cap,rfl,_⟩:=Zh c7;go_wp21;refine aP (a4.o _) λj6 aa=>?_;go_wp21;refine(b8.o _).mono ?_;rintro x E ⟨p,rfl,e7,z,c5⟩;go_wp21;refine aP (d9.o _) λu ⟨Q,an⟩=>?_;have s1:=c9.size;have g4:=aa.size;have i0:=c5.size;have i1:=an.size;have b9:Below w1 w1 u:=(aa.trans (c5.mono g4)).trans (an.mono O);have f5:=Z6 c7 (Fr.of_below (S:=nob) b9) (λ_ _ f=>f);have a7:Below w w u:=c9.trans (b9.mono s1);have f8:BM w p:=⟨by have:=z.kb;omega,by have:=z.kg;omega,by have:=z.bb;omega,by have:=z.bg;omega,by have:=z.lb;omega,by have:=z.lg;omega,by have:=z.db;omega,by have:=z.dg;omega⟩
  have d7:kJ ((u.alloc (.cells (sG p) 193)).alloc (.cells #[(E,0)] 195)) p u.heap.size (u.heap.size+1) E (.slice none 0 0) (m0,e0):=
    ⟨(e7.below an).below (((bf u.heap.size u).alloc aU _).alloc (by simp) _),Q.below (((bf u.heap.size u).alloc aU _).alloc (by simp) _),(Bk.new _ _ _).alloc _,Bk.newN _ _ _ (by simp)⟩;have d8:=(f5.alloc (.cells (sG p) 193)).alloc (.cells #[.pointer (some ⟨E,0,none⟩)] 195);have e9:=(a7.alloc a7.size (.cells (sG p) 193)).alloc (co a7.size (by simp)) (.cells #[.pointer (some ⟨E,0,none⟩)] 195);obtain⟨d5,a6,c6,h0⟩:=dc d7 d8 e9 f8;have i2:w<=E.heap.size:=O;unfold sG at d5 a6 c6;clear d7 d8 e9 f8 c7 f5 c9 aa c5 an b9 a7 e7 z Q s1 g4 i0 i1 b6 a4 b8 d9;have h7:Hid (∀k,k<l.length->∃b,A=some ⟨b,0,none⟩):=J (λk h8=>by obtain⟨g,c2,e,_⟩:=Uf a6.o O;injection e with h6 i9 j0;exact⟨g,h6⟩)
  have j2:l.length<=1000000:=by
    have key:∀(i:Nat) (l:List Pc),tL s i l->i+l.length<=s:=by
      intro i l h;induction h with
      |done=>simp
      |step h r ih=>have:=h.pos;simp only[gd];omega
    have:=key 0 l I.o;rw[b3.o] at this;omega
  go_wp2;generalize (u.alloc (.cells #[.pointer (some ⟨p.kb,0,none⟩),.pointer (some ⟨p.bb,0,none⟩),.pointer (some ⟨p.lb,0,none⟩),.pointer (some ⟨p.db,0,none⟩)] 193)).alloc (.cells #[.pointer (some ⟨E.heap.size,0,none⟩)] 195)=W5 at*;generalize u.heap.size+1=cb at*;generalize u.heap.size=mb at*;generalize E.heap.size=eb at*;go_loopw [31] (λb2 wx=>∃(k i:Nat) (dv:aI) (x:Ms×En),k<=l.length/\b2=(k:Int)/\Hid (kJ wx p mb cb eb dv x)/\Hid (fo x.1/\dE 0 x.2)/\Hid (XO (l.drop k) x=XO l (m0,e0))/\Hid (tL s i (l.drop k))/\Hid (x.2.out.length<=135*i)/\Hid (wx.ownsRow w 198 3 (.slice A l cap) l (qo l))/\Hid (Below w w wx)/\Hid (∀g,dv.ownBlock=some g->w.heap.size<=g)) (λb2 _=>(l.length-intOf b2).toNat);exact⟨0,0,_,(m0,e0),cf _,rfl,d5,J ⟨DO,xG⟩,J rfl,I,J (cf _),a6,c6,J Cx⟩;clear d5 a6 c6 I;obtain⟨k,i,dv,x,h8,rfl,q,D,a5,a1,G,M,hb,a9⟩:=hrel;by_cases ab:k<l.length
  . obtain⟨g,rfl⟩:=h7.o k ab;obtain⟨c1,c2,f2⟩:=Zn4 M.o ab;have f7:l.drop k=l[k]::l.drop (k+1):=kw ab;have b0:=a1.o;have b1:=a5.o;rw[f7] at b0 b1;obtain⟨t,g0⟩:=ay l[k];rw[g0] at b0 b1 c1 c2 f2;have L:rR s i t/\tL s (i+t.len) (l.drop (k+1)):=by cases b0 with|step h r=>exact⟨h,r⟩
    obtain⟨L,e5⟩:=L;obtain⟨d3,d4,g2⟩:=i4.o i t L;have f3:=L.pos;rw[b3.o] at f3;have g8:=V1 d3 d4 O x;have g6:=Gx (p:=t) D.o.1 D.o.2;have f4:Below wr wr (wr.alloc (.cells (qY t) 198)):=(bf _ _).alloc aU _;have F:=Z8G (q.o.below f4) D.o.1 D.o.2 t d3 d4 g2 (by have:=G.o;omega)
    have a8 := J (λ(w' : aq) (h : Fr (QA p eb dv) (wr.alloc (.cells (qY t) 198)) w') => (⟨Z6 (M.o.alloc (.cells (qY t) 198)) h (λg y j => by have B:=M.o;rcases j with j|j|j|j|j|j|j;exact Z1 B q.o.ms.kn aY (j▸y);exact Z1 B q.o.ms.bt.st aY (j▸y);exact Z1 B q.o.ms.bt.nd aY (j▸y);exact Z1 B q.o.ms.ln.2 aY (j▸y);exact Z1 B q.o.ms.dn.2 aY (j▸y);exact Z1 B q.o.en.1 aY (j▸y);exact Zc6 B q.o.en.2 aY y j),
      (hb.o.alloc hb.o.size (.cells (qY t) 198)).trans (h.toBelow' (co hb.o.size (by simp)) (wnew h0.o i2 a9.o))⟩:w'.ownsRow w 198 3 (.slice (some ⟨g,0,none⟩) l cap) l (qo l)/\Below w w w'));have a2 := J (λ(d : aI) (h : Zu (wr.alloc (.cells (qY t) 198)) dv d) => (λg y => by rcases h with h|h;exact a9.o g (h▸y);have:=h g y;have:=hb.o.size;simp at*;omega:∀g,d.ownBlock=some g->w.heap.size<=g));have h9:Hid ((lB t x).2.out.length<=135*(i+t.len)):=J (by have:=G.o;omega);have b7:Hid (XO (l.drop (k+1)) (lB t x)=XO l (m0,e0)):=J b1;have I:=J e5;have g9:=J g6;have i8:(k:Int)<l:=O;have i7:(0:Int)<=k:=O;have F:=J F;unfold qY at F a8 a2;clear f7 b0 b1 g0 L e5 d3 d4 g2 f3 g8 g6 f4 q D a5 a1 G M a9;obtain⟨j5,j4,tb⟩:=t;simp only at c1 c2 f2 F a8 a2;generalize (tb.toNat:Int)=TB at*;go_wp21;refine aP F.o λi3 ⟨h4,a0,g3,R⟩=>?_;obtain⟨e6,f6⟩:=a8.o _ g3;obtain⟨g7,c8,b5,b4⟩:=dc e6 f6 (a2.o _ R) a0;clear g3 R e6 f6 a0 a8 a2 F hb;go_wp2;refine⟨⟨k+1,_,h4,_,ab,ci,b4,g9,b7,I,h9,g7,c8,b5⟩,?_⟩;simp[intOf]<;>omega
  have h1:k=l.length:=O;subst h1;have d2:x=XO l (m0,e0):=by have:=a5.o;rw[wY] at this;exact this
  have i5:i<=n:=by
    have key:∀(i:Nat) (l:List Pc),tL s i l->i<=s.length:=by
      intro i l h;cases h with
      |done=>exact aU
      |step h r=>have:=h.pos;omega
    have:=key _ _ a1.o;rw[b3.o] at this;exact this
  have a3:=RK q.o.en D.o.2.low (by have:=G.o;omega);rw[d2] at a3;have a3:=J a3;have h3:=q.o.cc.cell 0;simp at h3;have i6:(bs (ji (XO l (m0,e0)).2)).size<=1000000:=by rw[Z0];unfold ji;rw[<-d2,bV];have:=G.o;have j1:(be 4 x.2.low).length=4:=(by rw[MN];rfl);omega
  generalize bs (ji (XO l (m0,e0)).2)=FS at*;clear d2 q D a5 a1 G M a9;go_wp21;refine ij a3.o hb λi3 c8=>?_;clear hb;go_wp2;go_returns;exact⟨by rw[<-g1.o];rfl,c8.o⟩
theorem Zey (w:aq):
  Calls prog 76 #[bs []] w (bM w (.tuple #[bs (bi 0),(0:Int)])):=by have k:=J (RN [] (cf _) w);have q:(bs ([]:ax)).size=0:=rfl;have p:=YU [];rw[dd rfl] at p;have g:=J (λW=>Zj 0 O O W);have e0:(0:Int).toNat=0:=rfl;rw[e0] at g;generalize bs []=S at*;generalize bC []=l at*;generalize bs (bi 0)=NS at*;go_in;go_wp21;refine(k.o).mono ?_;rintro x w1 ⟨t,rfl,j,d⟩;obtain⟨A,cap,rfl,_⟩:=Zh j;go_wp21;refine aP (g.o _) λy aa=>?_;have u:=J (d.trans (aa.mono d.size));clear j d aa;exact EP
theorem Z8F (s:ax) (k:4096<s.length) (j:s.length<=1000000000) (w:aq):
  Calls prog 76 #[bs s] w (bM w (.tuple #[bs [],(9:Int)])):=by have g:=J (Z5l s k j w);have d:bs ([]:ax)=⟨#[]⟩:=rfl;rw[d];generalize bs s=S at*;clear d;go_in;go_wp21;refine aP g.o λw1 z=>?_;exact wz
def mV (o:Option ax):aI:=match o with
 |some t=>.tuple #[bs t,(0:Int)]
 |none=>.tuple #[bs [],(9:Int)]
theorem RH (s:ax) (d:s.length<=1000000000) (w:aq):
  cK 76 #[bs s] w (bM w (mV (lx s))):=by unfold lx;by_cases h:4096<s.length;rw[Vag h];exact Z8F s h d w;rw[aD h];by_cases h0:s=[];subst h0;rw[Vag rfl,fg];exact Zey w;rw[aD h0];exact Zex s O h0 w
structure io (w:World) (p:Pl) (mb eb:Nat) (m:Ms) (d:De):Prop where
 ms:gj w p m
 de:dD w eb d
 mc:Bk w mb 193 (sG p)
def te (p:Pl) (eb:Nat):Nat->Prop:=λk=>k=p.kg\/k=p.bb\/k=p.bg\/k=p.lg\/k=p.dg\/k=eb
theorem ZfP {w:aq} {p:Pl} {m:Ms} (h:gj w p m) {eb b:Nat} {d:De} (q:dD w eb d) {t:TypeId} {k:Array aI} (hb:Bk w b t k) (h1:t≠325) (j:t≠3) (l:t≠249):¬te p eb b:=λg=>by rcases g with g|g|g|g|g|g;exact Bk.apart hb h.kn j g;exact Bk.apart hb h.bt.st l g;exact Bk.apart hb h.bt.nd j g;exact Bk.apart hb h.ln.2 j g;exact Bk.apart hb h.dn.2 j g;exact Bk.apart hb q h1 g
theorem io.next {w:aq} {p:Pl} {mb eb:Nat} {m j:Ms} {d g:De} (h:io w p mb eb m d) (l:Fr (te p eb) w w') (q:gj w' p j) (k:dD w' eb g):io w' p mb eb j g:=
 ⟨q,k,h.mc.fr l (ZfP h.ms h.de h.mc aY aY aY)⟩
theorem io.below {w:aq} {p:Pl} {mb eb:Nat} {m:Ms} {d:De} (h:io w p mb eb m d) (hb:Below w w w'):io w' p mb eb m d:=⟨h.ms.below hb,h.de.below hb,h.mc.below hb h.mc.lt⟩
theorem io.drew {w:aq} {p:Pl} {mb eb:Nat} {m:Ms} {d:De} (h:io w p mb eb m d):io w.drew p mb eb m d:=⟨h.ms.drew,h.de.drew,h.mc⟩
theorem io.keep {w:aq} {p:Pl} {mb eb:Nat} {m:Ms} {d:De} (h:io w p mb eb m d) (g:∀k T j,Bk w k T j->5≠T->Bk w' k T j):io w' p mb eb m d:=
 ⟨⟨g _ _ _ h.ms.ks aY,g _ _ _ h.ms.kn aY,⟨g _ _ _ h.ms.bt.st aY,g _ _ _ h.ms.bt.nd aY⟩,⟨g _ _ _ h.ms.ln.1 aY,g _ _ _ h.ms.ln.2 aY⟩,⟨g _ _ _ h.ms.dn.1 aY,g _ _ _ h.ms.dn.2 aY⟩,h.ms.a1,h.ms.a2,h.ms.a3,h.ms.a4,h.ms.a5,h.ms.a6⟩,
  g _ _ _ h.de aY,g _ _ _ h.mc aY⟩
theorem io.row {w:aq} {p:Pl} {mb eb:Nat} {m:Ms} {d:De} (h:io w p mb eb m d) (q:Fr (te p eb) w w') {v:aI} {xs:List aI} (k:w.ownsRow B 5 1 v n xs):w'.ownsRow B 5 1 v n xs:=
 Z6 k q (λg l j=>by rcases j with j|j|j|j|j|j;exact Z1 k h.ms.kn aY (j▸l);exact Z1 k h.ms.bt.st aY (j▸l);exact Z1 k h.ms.bt.nd aY (j▸l);exact Z1 k h.ms.ln.2 aY (j▸l);exact Z1 k h.ms.dn.2 aY (j▸l);exact Z1 k h.de aY (j▸l))
theorem Ig {p:Pl} {eb:Nat} {w wr:aq} (g:BM B p) (q:B<=eb) (hb:Below B w wr) (j:B<=wr) (l:Fr (te p eb) wr w'):Below B w w':=
 hb.trans (l.toBelow' j (λk t d=>by rcases d with d|d|d|d|d|d;have:=g.kg;omega;have:=g.bb;omega;have:=g.bg;omega;have:=g.lg;omega;have:=g.dg;omega;omega))
theorem Lc {p:Pl} {eb:Nat} (R:g=p.kg\/g=p.lg\/g=p.dg):∀k,vg g eb k->te p eb k:=λk h=>ND
theorem v_ (n:Nat) (t:List Nat) (d:De) (h:t.length=2 ^ n):Q5 n 0 1 t d=ej n 1 t d:=by obtain⟨a,b⟩:=VG n 0 1 (2 ^ n) (t:=t) (d:=d) O O;exact O2
theorem ZmD {m:Ms} {d:De} (h:fo m) (g:DV 0 d):fo (eX m d).2.1/\DV 0 (eX m d).2.2:=by obtain⟨a,b,c,_⟩:=DK 1 1 m.kind d h.k.1 Fg g;exact⟨⟨⟨a,b.trans h.k.2⟩,h.bl,h.b,h.l,h.d⟩,c⟩
theorem Zlr {m:Ms} {d:De} (h:fo m) (j:DV 0 d):fo (qd m d).2.1/\DV 0 (qd m d).2.2:=by obtain⟨t1,g⟩:=Gk h;obtain⟨a,b,c,_⟩:=DK 8 1 (se m) d t1 (by rw[g];decide) j;exact⟨⟨h.k,Rf,Wj h ⟨a,b.trans g⟩ _,h.l,h.d⟩,c⟩
theorem ZmG {m:Ms} {d:De} (h:fo m) (g:DV 0 d):fo (lu m d).2.1/\DV 0 (lu m d).2.2:=by obtain⟨a,b⟩:=Mc h.l g;exact⟨⟨h.k,h.bl,h.b,a,h.d⟩,b⟩
theorem ZlY {m:Ms} {d:De} (h:fo m) (g:DV 0 d):fo (pG m d).2.1/\DV 0 (pG m d).2.2:=by obtain⟨a,b⟩:=Mc h.d g;exact⟨⟨h.k,h.bl,h.b,h.l,a⟩,b⟩
section
variable {w:aq} {p:Pl} {mb eb:Nat} {m:Ms} {d:De}
theorem ZfT (h:io w p mb eb m d) (F:fo m) (t:DV 0 d):
  cK 215 #[(p.kb,0),(eb,0)] w λr w'=>r=.returned (((eX m d).1:Nat):Int)/\io w' p mb eb (eX m d).2.1 (eX m d).2.2/\Fr (te p eb) w w':=by refine(TL h.ms.kind O Fw Fw F.k.1 h.de (Bk.apart h.ms.ks h.de aY) t).mono ?_;rintro r w1 ⟨rfl,l,hd,j⟩;rw[v_ 1 _ _ F.k.2] at l hd;rw[v_ 1 _ _ F.k.2];have g:=j.mono (Lc (p:=p) (.inl rfl));exact⟨rfl,h.next g (h.ms.setK j (λk q=>q) (h.ms.offD h.de) l.nd) hd,g⟩
theorem Zft (h:io w p mb eb m d) (q:fo m) (u:DV 0 d):
  cK 216 #[(p.bb,0),(eb,0)] w λr w'=>r=.returned (.int .u8 (((qd m d).1.toNat:Nat):Int))/\io w' p mb eb (qd m d).2.1 (qd m d).2.2/\Fr (te p eb) w w':=by refine(Zec h.ms.bt q.b q.bl h.de u).mono ?_;rintro r w1 ⟨rfl,t,hd,l⟩;have j:Fr (te p eb) w w1:=l.mono (λk g=>by rcases g with h|h|h;exact .inr (.inl h);exact .inr (.inr (.inl h));exact .inr (.inr (.inr (.inr (.inr h)))));exact⟨rfl,h.next j (h.ms.setB l (λk g=>g) (h.ms.offD h.de) t) hd,j⟩
theorem ZjE (h:io w p mb eb m d) (t:fo m) (y:DV 0 d):
  cK 217 #[(p.lb,0),(eb,0)] w λr w'=>r=.returned (.int .i64 (lu m d).1)/\io w' p mb eb (lu m d).2.1 (lu m d).2.2/\Fr (te p eb) w w':=by refine(KZ h.ms.ln t.l h.de y).mono ?_;rintro r w1 ⟨rfl,u,hd,j⟩;have g:=j.mono (Lc (p:=p) (.inr (.inl rfl)));exact⟨rfl,h.next g (h.ms.setL j (λk q=>q) (h.ms.offD h.de) u) hd,g⟩
theorem ZfB (h:io w p mb eb m d) (q:fo m) (u:DV 0 d):
  cK 217 #[(p.db,0),(eb,0)] w λr w'=>r=.returned (.int .i64 (pG m d).1)/\io w' p mb eb (pG m d).2.1 (pG m d).2.2/\Fr (te p eb) w w':=by refine(KZ h.ms.dn q.d h.de u).mono ?_;rintro r w1 ⟨rfl,t,hd,j⟩;have g:=j.mono (Lc (p:=p) (.inr (.inr rfl)));exact⟨rfl,h.next g (h.ms.setD j (λk l=>l) (h.ms.offD h.de) t) hd,g⟩
theorem io.cells (h:io w p mb eb m d):w.cell? (mb,0)=(p.kb,0)/\w.cell? (mb,1)=(p.bb,0)/\w.cell? (mb,2)=(p.lb,0)/\w.cell? (mb,3)=(p.db,0):=
 ⟨h.mc.cell 0,h.mc.cell 1,h.mc.cell 2,h.mc.cell 3⟩
end
theorem Zb7 (d n:Nat) (o:ax):QD d (n+1) o=QD d n (o++[o.getD (o.length-d) 0]):=rfl
theorem Wy (o:ax) (c:cj):o.map bv++[.int .u8 (c.toNat:Int)]=(o++[c]).map bv:=by simp[bv]
def Ic (o:Option ax):aI:=match o with
 |some t=>.tuple #[bs t,true]
 |none=>.tuple #[bs [],false]
def slen (v:aI):Nat:=match v with
 |.slice _ n _=>n
 |_=>0
theorem Znh {f:Nat} {o:ax} {m:Ms} {d:De} (h:¬o.length<n):ru f n o m d=some o:=by
 cases f with
 |zero=>rfl
 |succ f=>rw[ru,aD h]
theorem Zlb:(prog.info? 5).map (λi=>(i.zero,i.size,i.bytes))=some (some (.int .u8 0),1,1):=dw
theorem Zbs (data:ax) (n:Nat) (s3:n<=4096) (w:aq):
  Calls prog 168 #[bs data,n] w (bM w (Ic (xY data n))):=by
 have f3:=J (λW=>Tk W);unfold sG at f3;have j6:=J (λW=>U' data W);have i3:Hid (ru n n [] m0 (d0 data)=xY data n):=J rfl;have n2:=d0_v data;obtain⟨R,l6⟩:=ay (xY data n);rw[l6] at i3⊢;generalize d0 data=j3 at*;generalize bs data=S at*;clear l6;go_in;go_wp21;refine(f3.o _).mono ?_;rintro x w1 ⟨p,rfl,k6,k8,g5⟩;go_wp21;refine aP (j6.o _) λa0 ⟨m9,aa⟩=>?_;have s1:=g5.size;have q9:=aa.size
 have e7:io (a0.alloc (.cells (sG p) 193)) p a0.heap.size w1 m0 j3:=
  ⟨(k6.below aa).below ((bf a0.heap.size a0).alloc aU _),m9.below ((bf a0.heap.size a0).alloc aU _),Bk.new _ _ _⟩;have a1:=(g5.trans (aa.mono s1)).alloc O (.cells (sG p) 193);obtain⟨a8,a5,b6⟩:=bD e7 a1 k8;have e5:w<=w1.heap.size:=O;have i8:Hid ((a0.alloc (.cells (sG p) 193)).ownsRow w 5 1 (.slice none 0 0) ([]:ax) (([]:ax).map bv)):=J Zl;have k3:=e7.cells;unfold sG at a8 a5 i8 k3;clear e7 a1 k6 k8 g5 m9 aa s1 q9 f3 j6;go_wp2;generalize (a0.alloc (.cells #[.pointer (some ⟨p.kb,0,none⟩),.pointer (some ⟨p.bb,0,none⟩),.pointer (some ⟨p.lb,0,none⟩),.pointer (some ⟨p.db,0,none⟩)] 193))=W5 at*;generalize a0.heap.size=mb at*;generalize w1.heap.size=eb at*;clear k3;go_loopw [8] (λc6 wx=>∃(f:Nat) (o:ax) (m:Ms) (d:De) (a7:aI),c6=a7/\Hid (io wx p mb eb m d)/\Hid (fo m/\DV 0 d)/\Hid (ru f n o m d=R)/\Hid (n<=o+f)/\Hid (o<=n)/\Hid (wx.ownsRow w 5 1 a7 o (o.map bv))/\Hid (Below w w wx)) (λc6 _=>n-slen c6);exact⟨n,[],m0,j3,_,rfl,a8,J ⟨DO,n2⟩,i3,J (by simp),J (cf _),i8,a5⟩;clear a8 a5 i8 i3 n2;obtain⟨f,o,m,d,a7,rfl,I,a6,c8,a3,l,F,hb⟩:=hrel;obtain⟨A,cap,rfl,_⟩:=Zh F.o;obtain⟨ol,d9⟩:=ay o.length;by_cases ab:o<n
 .obtain⟨f1,rfl⟩:∃g,f=g+1:=⟨f-1,by have:=a3.o;omega⟩;have B:=c8.o;rw[ru,Vag ab] at B;obtain⟨us,xX⟩:=ZmD a6.o.1 a6.o.2;have b0:=J (ZfT I.o a6.o.1 a6.o.2);obtain⟨c0,c1,c2,k5⟩:=I.o.cells;have p2:(ol:Int)<n:=O;have k:=J d9;have u:=F.o;rw[d9] at u⊢;have c9:=I;obtain⟨kk,n0⟩:=ay ((eX m d).1);rw[n0] at B b0;generalize (eX m d).2.1=m1 at*;generalize (eX m d).2.2=d1 at*;clear n0 I c8 ab d9;by_cases i1:kk=0;.subst i1;rw[Vag rfl] at B;have r4:((0:Nat):Int)=0:=rfl;rw[r4] at b0;obtain⟨k0,k1⟩:=Zlr us xX;have f8:=J (λ(W:aq) (h:io W p mb eb m1 d1)=>Zft h us xX);obtain⟨c,b3⟩:=ay ((qd m1 d1).1);rw[b3] at B f8;generalize (qd m1 d1).2.1=b4 at*;generalize (qd m1 d1).2.2=b2 at*;obtain⟨a9,c5,p6⟩:=bD B u (And.intro k0 k1);clear b3 B u F us xX k0 k1 c2 k5 a6;go_wp21;refine aP b0.o λb5 ⟨a2,a4⟩=>?_;have b8:=c9.o.row a4 c5.o;have b1:=Ig b6.o e5 hb.o hb.o.size a4;obtain⟨e0,g4,d7,d8⟩:=a2.cells;clear c0 c1 d7 d8 a4 b0 hb c5 c9;go_wp21;refine aP (f8.o _ a2) λs4 ⟨j4,g2⟩=>?_;have n4:=a2.row g2 b8;have an:=Ig b6.o e5 b1 b1.size g2;obtain⟨n1,r3,b9,y,a1,b7⟩:=ZU (P:=prog) 88 5 _ _ underlying88 Zlb rfl n4 an an.size (.int .u8 (c.toNat:Int)) rfl (by unfold maxLen;exact EY) EY;rw[Wy] at y;have G:ol+1=(o++[c]).length:=(by rw[bV,pg,k.o]);rw[G] at y;obtain⟨a8,i5,a5,g3⟩:=dc (j4.keep b7) y a1 b9;have e9:Hid (n<=(o++[c]).length+f1):=J (by rw[<-G];have:=a3.o;have:=k.o;omega);have f2:Hid ((o++[c]).length<=n):=J (by rw[<-G];omega);have f5:Hid (n-slen n1<n-ol):=J (by obtain⟨r5,k4,e,_⟩:=Zh y;rw[e];show n-(o++[c]).length<_;rw[<-G];omega);obtain⟨A5,o2,p3,rfl⟩:=Z7 y;generalize (c.toNat:Int)=C at*;clear e0 g4 g2 a2 b8 b1 j4 n4 an b9 y a1 b7 G a3 l f8;go_wp2_with (at_builtin;refine Z5 Ft rfl _ _ _ rfl _ _ (by rfl) (by rfl) g3.o ?_);refine⟨⟨f1,_,b4,b2,_,rfl,a8,p6,a9,e9,f2,i5,a5⟩,?_⟩;exact f5.o
  rw[aD i1] at B;have r8:((kk:Int)==0)=false:=oe;obtain⟨g0,g1⟩:=ZmG us xX;have g7:=J (λ(W:aq) (h:io W p mb eb m1 d1)=>ZjE h us xX);obtain⟨L,l2⟩:=ay ((lu m1 d1).1);rw[l2] at B g7;generalize (lu m1 d1).2.1=b4 at*;generalize (lu m1 d1).2.2=b2 at*;obtain⟨m8,j9⟩:=ZlY g0 g1;have j0:=J (λ(W:aq) (h:io W p mb eb b4 b2)=>ZfB h g0 g1);obtain⟨D,l1⟩:=ay ((pG b4 b2).1);rw[l1] at B j0;generalize (pG b4 b2).2.1=e4 at*;generalize (pG b4 b2).2.2=d6 at*;obtain⟨a9,c5,i7⟩:=bD B u (And.intro m8 j9);clear l2 l1 B u F us xX g0 g1 m8 j9 a6 i1;go_wp21;refine aP b0.o λb5 ⟨a2,a4⟩=>?_;have b8:=c9.o.row a4 c5.o;have b1:=Ig b6.o e5 hb.o hb.o.size a4;obtain⟨e0,g4,d7,d8⟩:=a2.cells;obtain⟨i4,d5,d4⟩:=bD b8 b1 a2;clear c0 c1 c2 k5 a4 b0 hb c5 c9 b8 b1 e0 g4 a2;go_wp2;go_cut [9,10] (λr1 q7 wx=>r1=L/\q7=D/\Hid (io wx p mb eb e4 d6)/\Hid (Fr (te p eb) b5 wx))
  case first=>
   have n9:b5.drew.cell? (mb,2)=(p.lb,0)/\b5.drew.cell? (mb,3)=(p.db,0):=⟨d7,d8⟩;have l7:io b5.drew p mb eb m1 d1:=d4.o.drew;clear a9 i7 i4 d5 d4 b6 a3 l
   go_region_held3 (λW=>W.cell? (mb,2)=(p.lb,0)/\W.cell? (mb,3)=(p.db,0)) (first|with_reducible assumption|with_reducible exact n9)
    (first
     |(go_at_call 217;with_reducible refine(g7.o _ qB).mono ?_;rintro r n3 ⟨rfl,k2,h9⟩;have r6:n3.cell? (mb,2)=(p.lb,0)/\n3.cell? (mb,3)=(p.db,0):=⟨k2.cells.2.2.1,k2.cells.2.2.2⟩)
     |(go_at_call 217;with_reducible refine(j0.o _ qB).mono ?_;rintro r wb ⟨rfl,f7,r2⟩;have r7:wb.cell? (mb,2)=(p.lb,0)/\wb.cell? (mb,3)=(p.db,0):=⟨f7.cells.2.2.1,f7.cells.2.2.2⟩))
   all_goals
    go_wp2;go_meet;case rel=>exact⟨rfl,rfl,J f7,J (((Fr.refl (te p eb) b5).drew.trans h9).trans r2)⟩
  obtain⟨rfl,rfl,e8,f6⟩:=hcut;have n5:=d4.o.row f6.o i4.o;have m7:=Ig b6.o e5 d5.o d5.o.size f6.o;have i6:=J n5;have f4:=J m7;clear n5 m7 f6 i4 d5 d4 g7 j0 d7 d8;cases E:zt n o L D with
  |true=>
   have o1:R=none:=by have:=a9.o;rw[E,Vag rfl] at this;exact this.symm
   subst o1;have g6:L<0\/(¬L<0/\(271<L\/(¬271<L/\((n:Int)-ol<L+2\/(¬(n:Int)-ol<L+2/\(D<0\/(¬D<0/\(ol:Int)<=D))))))):=by unfold zt at E;rw[k.o] at E;simp only[Bool.or_eq_true,fq] at E;omega
   have p1:ol<=4096:=EY;clear E a9 i7 a3 l i6 e8;have r9:bs ([]:ax)=⟨#[]⟩:=rfl;rcases g6 with h1|⟨h1,g8|⟨g8,g9|⟨g9,h0|⟨h0,l0⟩⟩⟩⟩
   all_goals
    go_wp2;go_returns;exact⟨rfl,f4.o⟩
  |false=>
   have g6:0<=L/\L<=271/\L+2<=(n:Int)-(ol:Int)/\0<=D/\D<(ol:Int):=by unfold zt at E;rw[k.o] at E;simp only[Bool.or_eq_false_iff,Vbp] at E;omega
   have c7:=a9.o;rw[E,aD aY] at c7;obtain⟨a,rfl⟩:∃a:Nat,L=a:=⟨L.toNat,O⟩;obtain⟨b,rfl⟩:∃a:Nat,D=a:=⟨D.toNat,O⟩;rw[ep,ep] at c7;obtain⟨h1,g8,g9,h0,l0⟩:=g6;have o9:¬(a:Int)<0:=O;have n7:¬(271:Int)<a:=O;have n8:¬(n:Int)-ol<(a:Int)+2:=O;have h6:¬(b:Int)<0:=O;have h7:¬(ol:Int)<=b:=O;have q0:ol+a+2<=n:=O;have p8:b<ol:=O;have q6:((a+2:Nat):Int)=(a:Int)+2:=O;obtain⟨t,o0⟩:=ay (a+2);have l3:(a:Int)+2=(t:Int):=O;rw[o0] at c7;have o4:=J c7;have k7:Hid (QD (b+1) (t-0) o=QD (b+1) t o):=J (by rw[Nat.sub_zero]);have p1:ol<=4096:=EY;have l5:t<=4096:=O;have m6:n<=ol+f1+1:=(by have:=a3.o;have:=k.o;omega);have p9:ol+t<=n:=O;clear E a9 c7 h1 g8 g9 h0 l0 q6 a3 l;go_wp2;clear o9 n7 n8 h6 h7;go_loopw [8,65] (λc6 f9 i9=>∃(j:Nat) (q:ax) (a7:aI),j<=t/\f9=j/\c6=a7/\Hid (q=ol+j)/\Hid (QD (b+1) (t-j) q=QD (b+1) t o)/\Hid (i9.ownsRow w 5 1 a7 q (q.map bv))/\Hid (io i9 p mb eb e4 d6)/\Hid (Below w w i9)) (λ_ f9 _=>(t-intOf f9).toNat);exact⟨0,o,_,cf _,rfl,rfl,J (by rw[Vcj];exact k.o),k7,J (by rw[k.o];exact i6.o),e8,f4⟩;clear k7 i6 e8 f4;obtain⟨j,q,a7,s0,rfl,rfl,i2,e6,F,I,hb⟩:=hrel;obtain⟨M,z⟩:=ay q.length;have j7:M=ol+j:=(by rw[<-z];exact i2.o);obtain⟨g,k4,rfl,k9⟩:=C' F.o (by rw[z];omega);have u:=F.o;rw[z] at u⊢;by_cases p4:j<t
   .obtain⟨r,b9⟩:∃r,t-j=r+1:=⟨t-j-1,O⟩;have Q:=e6.o;rw[b9,Zb7,z] at Q;obtain⟨ix,j1⟩:=ay (M-(b+1));rw[j1] at Q;obtain⟨c,b3⟩:=ay (q.getD ix 0);rw[b3] at Q;have GP:ix<M:=O;have j2:(q.map bv)[ix]? =some (.int .u8 (c.toNat:Int)):=by rw[jX,fb (by rw[z];exact GP),<-b3];simp[List.getD,bv,z,GP]
    obtain⟨cc,_⟩:=C9 u ix _ j2;have m4:(M:Int)-b-1=(ix:Int):=O;have l9:(ix:Int)<M:=O;have l8:(0:Int)<=ix:=O;have p0:(j:Int)<t:=O;have m5:M<=10000:=O;obtain⟨n1,r3,c4,y,a1,b7⟩:=ZU (P:=prog) 88 5 _ _ underlying88 Zlb rfl u hb.o hb.o.size (.int .u8 (c.toNat:Int)) rfl fU O;rw[Wy] at y;have G:M+1=(q++[c]).length:=(by rw[bV,pg,z]);rw[G] at y;obtain⟨a8,i5,a5,g3⟩:=dc (I.o.keep b7) y a1 c4;have o6:Hid ((q++[c]).length=ol+(j+1)):=J (by rw[<-G];omega);have o3:Hid (QD (b+1) (t-(j+1)) (q++[c])=QD (b+1) t o):=J (by rw[show t-(j+1)=r by omega];exact Q);obtain⟨A5,o2,p3,rfl⟩:=Z7 y;generalize (c.toNat:Int)=C at*;clear i2 e6 F I hb u b9 Q j1 b3 j2 c4 y a1 b7 G z j7 k9;go_wp2_with (at_builtin;refine Z5 Ft rfl _ _ _ rfl _ _ (by rfl) (by rfl) g3.o ?_);refine⟨⟨j+1,_,_,p4,ci,rfl,o6,o3,i5,a8,a5⟩,?_⟩;simp[intOf]<;>omega
   have p7:j=t:=O;subst p7;have Q:=e6.o;rw[fh] at Q;have j5:q=QD (b+1) j o:=Q;have p0:¬(j:Int)<j:=O;have o5:Hid (ru f1 n q e4 d6=R):=J (by rw[j5];exact o4.o);have o7:Hid (n<=q+f1):=J (by rw[z];omega);have q8:Hid (q<=n):=J (by rw[z];omega);have f5:Hid (n-M<n-ol):=J O;have n6:Hid (wr.ownsRow w 5 1 (.slice (some ⟨g,0,none⟩) M k4) q (q.map bv)):=J (by rw[z];exact u);clear i2 e6 Q j5 z j7 k9 u;go_wp2;refine⟨⟨f1,q,e4,d6,_,rfl,I,i7,o5,o7,q8,n6,hb⟩,?_⟩;exact f5.o
 have i0:o=n:=(by have:=l.o;omega);have h8:R=some o:=(by rw[<-c8.o];exact Znh ab);subst h8;have p2:¬(ol:Int)<n:=O;have p5:=U5 (P:=prog) 88 9 5 underlying88 underlying5 underlying9 F.o;rw[d9] at p5⊢;have j8:Ic (some o)=.tuple #[bs o,true]:=rfl;have o8:=J j8;generalize bs o=OS at*;clear I a6 c8 a3 l F j8 i0 ab;go_wp2;go_returns;rw[o8.o];exact⟨rfl,hb.o⟩
end Go.Proofs.Y
namespace Wv
open Go.Proofs.Tryz 
theorem Zni:∀(f n:Nat) (o:ax) (m:Ms) (d:De) (s:ax),o<=n->ru f n o m d=some s->s.length<=n:=by
 intro f;induction f with
 |zero=>intro n o m d s h hs;injection hs with hs;rw[<-hs];exact h
 |succ f ih=>
  intro n o m d s h hs;rw[ru] at hs;split at hs
  .split at hs;exact ih n _ _ _ s (by rw[bV,pg];omega) hs;split at hs;cases hs;rename_i hb;refine ih n _ _ _ s ?_ hs
   have key:∀(d k:Nat) (o:ax),(QD d k o)=o.length+k:=by
    intro d k;induction k with
    |zero=>intro o;rfl
    |succ k ih=>intro o;show(QD d k (o++_)).length=_;rw[ih,bV,pg];omega
   rw[key];unfold zt at hb;simp only[Bool.or_eq_true,fq,not_or] at hb;omega
  injection hs with hs;rw[<-hs];exact h
end Wv
namespace Go.Proofs.Y
open Tryz Wv Go.RowKit
theorem Hu (a b:ax):(((bs a).toList !=(bs b).toList)= !decide (a=b))/\(((bs a).toList==(bs b).toList)=decide (a=b)):=by
 have d:((bs a).toList==(bs b).toList)=decide (a=b):=by rw[lN,beq_iff_eq,fq,ByteArray.toList_eq,ByteArray.toList_eq];exact Iff.rfl
 exact⟨by rw[bne,d],d⟩
def xZ (x:ax×Nat):aI:=.tuple #[bs x.1,x.2]
theorem RG (data:ax) (hd:data.length<=1000000000) (most:Int) (w:aq):
  Calls prog 126 #[bs data,most] w (bM w (xZ (qm data most))):=by
 have y:=J (ZT (bs data) w);have b3:(bs data).size<=1099511627776:=Cv;have I:=J (λ(W:aq) (b:Nat) (h:RV W b (bs data) 0)=>Zk h b3 4096);have b9:bs ([]:ax)=⟨#[]⟩:=rfl
 have d:qm data most=match dN data 4096 with
  |none=>([],12)
  |some (n,r)=>if most<(n:Int) then([],2) else match xY r n with
   |none=>([],12)
   |some s=>if lx s=some data then(s,0) else([],12):=rfl
 obtain⟨a8,a2⟩:=ay (qm data most);rw[a2] at d⊢;rcases G:dN data 4096 with _|q;rw[G] at d;simp only at d;subst d;obtain⟨e,b7,a4⟩:=Ux G;rw[show((4096:Nat):Int)=4096 from rfl] at a4;rw[a4] at I;have b5:((e:Int) !=0)=true:=eV;have j:xZ ([],12)=.tuple #[.string ⟨#[]⟩,(12:Int)]:=rfl;rw[j];generalize bs data=S at*;exact VY;obtain⟨n,r⟩:=q;rw[G] at d;simp only at d;obtain⟨k1,k2,k3⟩:=J0 G;rw[show((4096:Nat):Int)=4096 from rfl] at k1;rw[k1] at I;simp only at I;by_cases a5:most<(n:Int);rw[Vag a5] at d;subst d;have j:xZ ([],2)=.tuple #[.string ⟨#[]⟩,(2:Int)]:=rfl;rw[j];generalize bs data=S at*;generalize bs r=RS at*;exact VY;rw[aD a5] at d;have Q:(bs r).size=r:=Z0 r;have a9:Zb (bs r) 0 (r.length:Int)=(bs r,bs [],0):=by rw[Xr aU,Vbq,wY]
 have p:=J (λ(W:aq) (b:Nat) (h:RV W b (bs r) 0)=>ZA h (by rw[Q];omega));have l:=J (λ(W:aq) (b:Nat) (h:RV W b (bs r) 0)=>Zr h (by rw[Q];omega) (r.length:Int));rw[a9] at l;rw[Q] at p;simp only at l;have k:=J (λW=>Zbs r n k2 W);have b6:r.length<=1000000000:=O;generalize c3:bs r=RS at*;rcases a1:xY r n with _|s;.rw[a1] at d k;simp only at d;subst d;have j:xZ ([],12)=.tuple #[.string ⟨#[]⟩,(12:Int)]:=rfl;have a3:Ic none=.tuple #[.string ⟨#[]⟩,false]:=rfl;rw[a3] at k;rw[j];generalize bs data=S at*;generalize bs ([]:ax)=E0 at*;go_in;go_wp21;refine aP y.o λw1 ⟨h1,z⟩=>?_;go_wp21;refine aP (I.o _ _ h1) λw2 ⟨L,b1⟩=>?_;have g:=J (Ze L);have aa:=ZQ z aU b1;go_wp21;refine cp g.o ?_;go_wp21;refine cp (p.o _ _ L) ?_;go_wp21;refine aP (l.o _ _ L) λw3 ⟨a7,b2⟩=>?_;have M:=ZQ aa aU b2;go_wp21;refine aP (k.o _) λb8 an=>?_;have hb:=J (M.trans (an.mono M.size));go_wp2;go_returns;exact⟨rfl,hb.o⟩
 rw[a1] at d k;simp only at d;have a3:Ic (some s)=.tuple #[bs s,true]:=rfl;rw[a3] at k;have b4:s.length<=1000000000:=by have:=Zni n n [] m0 (d0 r) s (cf _) a1;omega
 have B:=J (λW=>RH s b4 W);rcases F:lx s with _|t;.rw[F,aD (by simp)] at d;subst d;have R:mV none=.tuple #[.string ⟨#[]⟩,(9:Int)]:=rfl;rw[F,R] at B;have j:xZ ([],12)=.tuple #[.string ⟨#[]⟩,(12:Int)]:=rfl;rw[j];generalize bs data=S at*;generalize bs s=D at*;generalize bs ([]:ax)=E0 at*;go_in;go_wp21;refine aP y.o λw1 ⟨h1,z⟩=>?_;go_wp21;refine aP (I.o _ _ h1) λw2 ⟨L,b1⟩=>?_;have g:=J (Ze L);have aa:=ZQ z aU b1;go_wp21;refine cp g.o ?_;go_wp21;refine cp (p.o _ _ L) ?_;go_wp21;refine aP (l.o _ _ L) λw3 ⟨a7,b2⟩=>?_;have M:=ZQ aa aU b2;go_wp21;refine aP (k.o _) λb8 an=>?_;have hb:=M.trans (an.mono M.size);go_wp21;refine aP (B.o _) λb0 a0=>?_;have u:=J (hb.trans (a0.mono hb.size));exact EP
 have R:mV (some t)=.tuple #[bs t,(0:Int)]:=rfl;rw[F,R] at B;rw[F] at d;obtain⟨q1,q2⟩:=Hu t data;have a6:xZ a8=if t=data then .tuple #[bs s,(0:Int)] else .tuple #[.string ⟨#[]⟩,(12:Int)]:=by rw[d];by_cases h:t=data;rw[Vag rp,Vag h];rfl;rw[aD Ct,aD h];rfl
 rw[a6];by_cases E:t=data;rw[Vag E];rw[dd E] at q1 q2;exact IM;rw[aD E];rw[cI E] at q1 q2;exact IM
