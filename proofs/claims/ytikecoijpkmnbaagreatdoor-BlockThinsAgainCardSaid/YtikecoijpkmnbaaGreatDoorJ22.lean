import Derived.Test.YtikecoijpkmnbaaGreatDoorJ18
set_option linter.all false
set_option maxRecDepth 100000
set_option maxHeartbeats 0
theorem EY{P:Prop}(h:P:=by have:=l.o;have:=k.o;omega):P:=h
theorem EP{P:Prop}(h:P:=by go_wp2;go_returns;exact⟨rfl,u.o⟩):P:=h
namespace Go.Proofs.Y
open Tryz Wv Go.RowKit
variable{B M T bb cb i ib j k n q sb:Nat}{l:List (Nat×Nat)}{v:aI}{w w':aq}{xs:List aI}
def Lq (q:Nat) (g:Option St) (tb:List St):List St:=List.replicate q dU++g.getD dU::tb
theorem Zof (q:Nat) (g:Option St) (tb:List St):(Lq q g tb)=q+tb.length+1:=by unfold Lq;rw[Vab,iE,gd];omega
theorem Zqr (q:Nat) (g:Option St) (tb:List St):(Lq q g tb).getD q dU=g.getD dU:=by unfold Lq;rw[pf,pO (by simp),iE,fh];rfl
theorem Zoe (q:Nat) (g:Option St) (tb:List St) (h:1<=k):(Lq q g tb).getD (q+k) dU=tb.getD (k-1) dU:=by unfold Lq;rw[pf,pO (by simp),iE,Nat.add_sub_cancel_left];obtain⟨j,rfl⟩:∃j,k=j+1:=⟨k-1,O⟩;rw[List.getElem?_cons_succ,vI,pf]
theorem Zoh (q:Nat) (g:Option St) (tb:List St) (x:St):(Lq q g tb).set q x=Lq q (some x) tb:=by unfold Lq;rw[nj _ _ (by simp),iE,fh];rfl
theorem ZnS (q:Nat) (g:Option St) (tb:List St) (t:Pc) (h:1<=t.len):(if(!g.isSome||DS (zN (Lq q g tb) q t) ((Lq q g tb).getD q dU))=true then(Lq q g tb).set q (zN (Lq q g tb) q t) else Lq q g tb)=Lq q (kY tb g t) tb:=by have k:zN (Lq q g tb) q t=zG tb t:=(by unfold zN zG;rw[Zoe q g tb h]);rw[k,Zqr,Zoh];unfold kY;rcases g with _|c;rfl;simp only[Option.isSome_some,Bool.not_true,Bool.false_or,Option.getD_some];split<;>rfl
theorem Zog {g:Option St} {tb:List St} (l:∀x∈tb,x.cost<=M/\x.pcs<=M) (p:∀x,g=some x->x.cost<=M/\x.pcs<=M):∀x∈Lq q g tb,x.cost<=M/\x.pcs<=M:=by intro x k;unfold Lq at k;rcases lc.1 k with h|h;rw[List.eq_of_mem_replicate h];exact⟨cf _,cf _⟩;rcases jA.1 h with h|h;rcases g with _|c;rw[h];exact⟨cf _,cf _⟩;rw[h];exact p c rfl;exact l x h
theorem Zew {g:Option St} {tb:List St} (h:mg w T bb ib cb sb (Lq q g tb) q g.isSome) (E:q+tb.length=n) (Q:n<=4096) (p:∀x∈tb,x.cost<=M/\x.pcs<=M) (G:M<=160000) (y:∀x,g=some x->x.cost<=M+38/\x.pcs<=M+38) (t:Pc) (h1:1<=t.len) (F:q+t.len<=n) (u:t.dist<=4096):
  cK 193 #[.agg (qY t),(bb,0),(ib,0),(cb,0),(sb,0)] w λx w'=>x=.returned (.tuple #[])/\mg w' T bb ib cb sb (Lq q (kY tb g t) tb) q (kY tb g t).isSome/\(∀x,kY tb g t=some x->x.cost<=M+38/\x.pcs<=M+38)/\Fr (λk=>k=T\/k=sb) w w':=by have I:=Zof q g tb;have Zpb:(kY tb g t).isSome=true:=(by obtain⟨x,l⟩:=F8 tb g t;rw[l];rfl);have D:=Zog (q:=q) (M:=M+38) (λx l=>by have:=p x l;omega) y;refine(ZiW h O (λx l=>by have:=D x l;omega) t O u h1 O).mono ?_;rintro x w' ⟨rfl,z,B⟩;rw[ZnS q g tb t h1] at z;rw[Zpb];exact⟨rfl,z,B_ p y (GC u O),B⟩
theorem ZnD:(prog.info? 277).map (λi=>(i.zero,i.size,i.bytes))=some (some (.agg #[(0:Int),(0:Int),(0:Int),(0:Int),.int .u8 0]),5,40):=dw
theorem Zbt (n:Nat):madeCells #[(0:Int),(0:Int),(0:Int),(0:Int),.int .u8 0] (n*5)=ou (List.replicate n dU):=by
 apply Array.ext_getElem?;intro i;unfold madeCells;rcases Nat.lt_or_ge i (n*5) with h|h
 .have g:i/5<(List.replicate n dU).length:=(by rw[iE];omega);obtain⟨a,b,c,d,e⟩:=Z92 (List.replicate n dU) (i/5) g;have k:(List.replicate n dU).getD (i/5) dU=dU:=by rw[pf,fb g,Nb];rfl
  rw[k] at a b c d e;have hi:i=i/5*5+i % 5:=O;rw[Array.getElem?_map,Array.getElem?_range];rw[Vag h];rcases(show i % 5=0\/i % 5=1\/i % 5=2\/i % 5=3\/i % 5=4 by omega) with r|r|r|r|r
  all_goals
   rw[r] at hi;simp only[Cg,Array.size,List.size_toArray,gd,xa,Nat.reduceAdd,r]
  .rw[hi,tS,a];rfl
  .rw[hi,b];rfl
  .rw[hi,c];rfl
  .rw[hi,d];rfl
  rw[hi,e];rfl
 have h1:(ou (List.replicate n dU)).size<=i:=by unfold ou;simp only[List.size_toArray,List.length_flatMap,List.map_replicate,List.sum_replicate_nat];have:(BD dU).length=5:=rfl;rw[this];exact h
 rw[Array.getElem?_eq_none h1,Array.getElem?_map,Array.getElem?_range,Vae O];rfl
theorem Zj1 (n:Nat) (q:n<=5000) (w:aq):(Instr.makeSlice 275 n n).run prog w=.ok (.slice (some (w,0)) n n) (w.alloc (.cells (ou (List.replicate n dU)) 277)):=by obtain⟨i,hi,p,l,g⟩:=info_parts ZnD;have k:=run_make (P:=prog) w 275 277 i _ underlying275 hi p .i64 .i64 (n:Int) (n:Int) O O (by rw[g];omega) O;rw[k,ep,l,<-Zbt];rfl
theorem VA (w:aq):Calls prog 192 #[(4096:Int)] w λx w'=>x=.returned true/\w=w':=xf
theorem Tj (w:aq):Calls prog 191 #[ua] w (bM w true):=by
 have g:=J (Bk.newN (w.alloc (.cells #[(9:Int),(12:Int),(1:Int),(1:Int)] 231)) 3 #[(9:Int),(12:Int),(1:Int),(1:Int)] (n:=w.heap.size+1) (by simp));have hb:=J (((bf w w).alloc aU (.cells #[(9:Int),(12:Int),(1:Int),(1:Int)] 231)).alloc (by simp) (.cells #[(9:Int),(12:Int),(1:Int),(1:Int)] 3));unfold ua;go_in;go_wp2;generalize (w.alloc (.cells #[(9:Int),(12:Int),(1:Int),(1:Int)] 231)).alloc (.cells #[(9:Int),(12:Int),(1:Int),(1:Int)] 3)=W0 at*;go_loopw [15] (λl wr=>∃k:Nat,k<=4/\l=k/\wr=W0) (λl _=>(4-intOf l).toNat);exact⟨0,O,rfl,rfl⟩;obtain⟨k,q,rfl,rfl⟩:=hrel;have c0:=g.o.cell 0;have c1:=g.o.cell 1;have c2:=g.o.cell 2;have p:=g.o.cell 3;simp at c0 c1 c2 p;rcases(show k=0\/k=1\/k=2\/k=3\/k=4 by omega) with rfl|rfl|rfl|rfl|rfl;.go_wp2;refine⟨⟨1,O,rfl,mG⟩,?_⟩;simp[intOf]
 .go_wp2;refine⟨⟨2,O,rfl,mG⟩,?_⟩;simp[intOf]
 .go_wp2;refine⟨⟨3,O,rfl,mG⟩,?_⟩;simp[intOf]
 .go_wp2;refine⟨⟨4,O,rfl,mG⟩,?_⟩;simp[intOf]
 go_wp2;go_returns;exact⟨rfl,hb.o⟩
def pcL (t:Pc):List aI:=[.int .i64 (t.len:Int),.int .i64 (t.dist:Int),.int .u8 (t.byte.toNat:Int)]
def qo (l:List Pc):List aI:=l.flatMap pcL
structure wK (w:World) (T bb ib cb:Nat) (L:List St) (iv:Int):Prop where
 tb:Bk w T 277 (ou L)
 best:Bk w bb 275 #[.slice (some ⟨T,0,none⟩) L.length L.length]
 i:Bk w ib 3 #[iv]
 c:Bk w cb 231 #[(9:Int),(12:Int),(1:Int),(1:Int)]
theorem wK.below {L:List St} {iv:Int} (h:wK w T bb ib cb L iv) (hb:Below w w w'):wK w' T bb ib cb L iv:=
 ⟨h.tb.below hb h.tb.lt,h.best.below hb h.best.lt,h.i.below hb h.i.lt,h.c.below hb h.c.lt⟩
theorem wK.try {L:List St} (h:wK w T bb ib cb L (i:Int)):mg (w.alloc (.cells #[false] 4)) T bb ib cb w L i false:=
 ⟨h.tb.alloc _,h.best.alloc _,h.i.alloc _,h.c.alloc _,Bk.new _ _ _⟩
def Lk (s:ax) (k:Nat):List St:=List.replicate k dU++pL s (s.length-k)
theorem Zlk (s:ax) (q:Nat):Lk s (q+1)=Lq q none (pL s (s.length-(q+1))):=by unfold Lk Lq;rw[List.replicate_succ',er];rfl
theorem Zhi (s:ax):List.replicate (s.length+1) dU=Lk s s.length:=by unfold Lk;rw[fh,List.replicate_succ'];rfl
theorem Zlj (s:ax) (q:Nat) (k:q<s) {x:St} (g:(vi s q).foldl (kY (pL s (s.length-(q+1)))) none=some x):Lq q (some x) (pL s (s.length-(q+1)))=Lk s q:=by unfold Lk Lq;have e:s.length-q=(s.length-(q+1))+1:=O;rw[e];show _=_++(xy s (s.length-1-(s.length-(q+1))) _::_);rw[show s.length-1-(s.length-(q+1))=q by omega];unfold xy;rw[g]
theorem OZ (s:ax) (h:k<=s):(Lk s k)=s.length+1:=by unfold Lk;rw[Vab,iE,M_];omega
theorem K' {cap g:Nat} {o:List (Nat×Nat)} (h:w.ownsRow B 282 2 (.slice (some (g,0)) n cap) n (lq o)) (t:k<o):w.cell? ⟨g,k*2,none⟩=((o.getD k (0,0)).1:Int)/\w.cell? ⟨g,k*2+1,none⟩=((o.getD k (0,0)).2:Int):=by
 have key:∀(o:List (Nat×Nat)) (k:Nat),k<o.length->(lq o)[k*2]? =((o.getD k (0,0)).1:Int)/\(lq o)[k*2+1]? =((o.getD k (0,0)).2:Int):=by
  intro o;induction o with
  |nil=>intro k h;simp at h
  |cons c r ih=>
   intro k h;cases k with
   |zero=>exact⟨rfl,rfl⟩
   |succ k=>
    obtain⟨a,b⟩:=ih k Ct;have p:(lq (c::r))[(k+1)*2]? =(lq r)[k*2]? :=by unfold lq;rw[sW,pO (by show 2<=_;omega)];congr 1;show(k+1)*2-2=_;omega
    have q:(lq (c::r))[(k+1)*2+1]? =(lq r)[k*2+1]? :=by unfold lq;rw[sW,pO (by show 2<=_;omega)];congr 1;show(k+1)*2+1-2=_;omega
    rw[p,q,IB];exact⟨a,b⟩
 obtain⟨a,b⟩:=key o k t;have h1:=h.cells (g:=g) rfl _ _ a;have l:=h.cells (g:=g) rfl _ _ b;rw[Go.WideShapes.add_plain,jK] at h1 l;exact⟨h1,l⟩
def Ie (v:aI) (w:aq):Nat:=match v with
 |.pointer (some a)=>match w.cell? a with
  |some (.int _ n)=>(n+1).toNat
  |_=>0
 |_=>0
theorem r_ {a:Addr} {k:IntKind} {n:Int} (h:w.cell? a=some (.int k n)):Ie (.pointer (some a)) w=(n+1).toNat:=by unfold Ie;simp only;rw[h]
theorem Zjd {w1:aq} (k:Bk w1 cb 231 #[(9:Int),(12:Int),(1:Int),(1:Int)]) {L:List St} {m:Nat} (g:L=m) (iv:Int):
  wK (((w1.alloc (.cells (ou L) 277)).alloc (.cells #[.slice (some (w1,0)) m m] 275)).alloc (.cells #[iv] 3)) w1.heap.size (w1.heap.size+1) (w1.heap.size+1+1) cb L iv/\
  Below w1.heap.size w1 (((w1.alloc (.cells (ou L) 277)).alloc (.cells #[.slice (some (w1,0)) m m] 275)).alloc (.cells #[iv] 3)):=by
 subst g
 exact⟨⟨((Bk.new _ _ _).alloc _).alloc _,(Bk.newN _ _ _ (by simp)).alloc _,Bk.newN _ _ _ (by simp),((k.alloc _).alloc _).alloc _⟩,
  (((bf w1 w1).alloc aU _).alloc (by simp) _).alloc fj _⟩
theorem VK {wr wx:aq} (h:Below B w wr) (l:B<=wr) (p:Fr (λk=>k=T\/k=sb) wr wx) (h1:B<=T) (q:B<=sb):Below B w wx:=
 h.trans (p.toBelow' l (λk t g=>by rcases g with g|g<;>omega))
theorem ZpP {L:List St} {seen:Bool} (h:w.ownsRow B 282 2 v n xs) (q:mg w T bb ib cb sb L i seen) (t:Fr (λk=>k=T\/k=sb) w w'):w'.ownsRow B 282 2 v n xs:=
 Z6 h t (λg p l=>by rcases l with l|l;exact Z1 h q.tb aY (l▸p);exact Z1 h q.sn aY (l▸p))
def Ip (n q:Nat) (l:List (Nat×Nat)):Prop:=∀c∈l,2<=c.1/\q+c.1<=n/\c.2<=4096
theorem Zdh {s:ax} (p:q<=s):Ip s q (rD s q):=λc k=>by obtain⟨h1,l,_,_,g,_⟩:=(K9 s q).1 c k;have:XV s q<=s.length-q:=Nat.min_le_right _ _;exact⟨h1,O,g⟩
theorem ZlD (s:ax) (i most:Nat):∀p b o,(pB s i most p b o).length<=o.length+p:=by
 intro p;induction p with
 |zero=>intro b o;exact aU
 |succ p ih=>intro b o;rw[pB];split;exact O;split;have:=ih b o;omega;split;have:=ih (oM s p i most) (o++[(oM s p i most,i-p)]);rw[Vab,pg] at this;omega;have:=ih b o;omega
theorem ZhJ (s:ax) (i:Nat):(rD s i)<=i:=by have:=ZlD s i (XV s i) i 1 [];unfold rD;simpa using this
theorem U6 (h:Ip n q l) (g:j<l):2<=(l.getD j (0,0)).1/\q+(l.getD j (0,0)).1<=n/\(l.getD j (0,0)).2<=4096:=by rw[pf,fb g];exact h _ (dt _)
theorem Zg9 (h:Ip n q l) (g:j<l):1<=Bl l j/\Bl l j<=n+1:=by unfold Bl;split;obtain⟨a,b,_⟩:=U6 h (j:=j-1) O;omega;omega
theorem Uf {base size:Nat} {e:TypeId} (h:w.ownsRow base e size v n xs) (z:0<n):∃g cap,v=.slice (some ⟨g,0,none⟩) n cap/\n<=cap:=by rcases h.2 with ⟨_,u⟩|⟨p,k,l,t,hb,y,q,_⟩;exact O;exact⟨p,k,t,q⟩
theorem ZqO:(prog.info? 198).map (λi=>(i.zero,i.size,i.bytes))=some (some (.agg #[(0:Int),(0:Int),.int .u8 0]),3,24):=dw
theorem Zbq (s:ax) (g9:s.length<=4096) (w:aq):
  Calls prog 148 #[ua,bs s,(4096:Int)] w λx w'=>∃a6,x=.returned (.tuple #[a6,(0:Int)])/\w'.ownsRow w 198 3 a6 (parse s) (qo (parse s))/\Below w w w':=by
 obtain⟨f3,k4,d4⟩:=bD (λW=>Tj W) (λW=>VA W) (λi (hi:i<=s.length) W=>Zbw s g9 i hi W);have l2:(bs s).size=s:=Z0 s;obtain⟨n,g7⟩:=ay s.length;have d2:=λW=>Zj1 (n+1) O W;have r7:((n+1:Nat):Int)=(n:Int)+1:=O;rw[r7] at d2;obtain⟨o6,n6,b1,i3,d8,j3⟩:=fA (Bk.new w 231 #[(9:Int),(12:Int),(1:Int),(1:Int)]) ((bf w w).alloc aU (.cells #[(9:Int),(12:Int),(1:Int),(1:Int)] 231)) (yY s) (λq a4 x h4=>Zlj s q a4 (x:=x) h4) (λq=>Zlk s q) (λq (a4:q<s.length)=>Zgw s (s.length-(q+1)) O);have i4:=J (λq (a4:q<=s.length)=>Zdh a4);have o3:=J (λk=>M_ s k);obtain⟨S,m7⟩:=ay (bs s);have e6:=J (Zhi s);have f5:(Lk s s).length=s+1:=OZ s aU;rw[m7] at l2 d4 b1⊢;rw[g7] at l2 g9 d4 b1 e6 i3 d8 j3 i4 f5;have v3:¬(4096:Int)<S.size:=O;have s2:decide ((4096:Int)<n)=false:=Vai O;have a0:=J g7;rw[e6.o] at d2;have p0:=J f5;clear g7 m7 f5;unfold ua at f3⊢;go_in;go_wp21;refine aP (f3.o _) λw1 c5=>?_;go_wp21;refine cp (k4.o _) ?_;have r1:=d2 w1;have q7:=c5.size;rw[World.size_alloc] at q7;obtain⟨B,l0⟩:=Zjd (o6.o.below c5 (by simp)) p0.o ((n:Int)-1);have l3:=(n6.o.trans (c5.mono (by simp))).trans (l0.mono O);have o5:=J B;have o1:=J l3;clear B l0 l3 o6 n6 c5 f3 k4 d2;generalize ou (Lk s n)=ST at*;go_wp2;generalize ((w1.alloc (.cells ST 277)).alloc (.cells #[.slice (some ⟨w1.heap.size,0,none⟩) (n+1) (n+1)] 275)).alloc (.cells #[((n:Int)-1:Int)] 3)=W0 at*;clear r1;have k9:w.heap.size<=w1.heap.size:=O;generalize w1.heap.size+1+1=h6 at*;generalize w1.heap.size+1=bb at*;generalize w1.heap.size=T at*;go_loopw [9] (λi6 wr=>∃(k ib:Nat),k<=n/\i6=.pointer (some (ib,0))/\Hid (wK wr T bb ib w (Lk s k) ((k:Int)-1))/\Hid (Below w w wr)) (λi6 wr=>Ie i6 wr);exact⟨n,h6,aU,rfl,o5,o1⟩;clear o5 o1;obtain⟨k,ib,s1,rfl,B,hb⟩:=hrel;have R:=B.o.i.cell 0;have n4:=B.o.i.lt;have j8:=B.o.best.lt;have o2:=B.o.tb.lt;have l9:=B.o.c.lt;simp at R;have i5:=J (r_ R);by_cases ab:0<k
 .obtain⟨q,rfl⟩:∃q,k=q+1:=⟨k-1,O⟩;have i1:((q+1:Nat):Int)-1=(q:Int):=O;rw[i1] at R B i5;have a4:q<n:=O;have i0:=B.o.try;rw[d8.o] at i0;have h9:=i3.o q a4;have o4:=j3.o q a4;have o0:=i4.o q O;have r6:=o3.o (n-(q+1));generalize pL s (n-(q+1))=tb at*;have k3:q+tb.length=n:=O;have m5:38*(n-(q+1))<=160000:=O;have g5:=ZhJ s q;have b5:vi s q=ui (rD s q).reverse++[vu s q]:=rfl;rw[b5] at h9;have k1:=J (d4.o q O (wr.alloc (.cells #[false] 4)));generalize rD s q=l at*;obtain⟨X,f9⟩:∃X,(ui l.reverse++[vu s q]).foldl (kY tb) none=some X:=by rw[rk];exact F8 _ _ _
  obtain⟨k0,p8,j5⟩:=bD f9 (h9 X f9) (λ(W:aq) (u:Option St) (h:mg W T bb ib w wr (Lq q u tb) q u.isSome) hc t h1 h2 h3=>Zew h k3 g9 o4 m5 hc t h1 h2 h3);have k5:=hb.o.size;obtain⟨e8,k7,k6⟩:=bD (hb.o.alloc k5 (.cells #[false] 4)) i0 o0;clear i0 f9 h9 o4 o0 r6 k3 m5 b5 B;go_wp21;refine(k1.o).mono ?_;rintro x t8 ⟨a6,rfl,I,aa⟩;obtain⟨A,cap,rfl,_⟩:=Zh I;obtain⟨c9,h7,c3⟩:=bD (k7.o.below aa) (K4 I (show w.heap.size<=_ by rw[World.size_alloc];omega)) (e8.o.trans (aa.mono e8.o.size));have v6:l.length<=4096:=O;have h0:Hid ((ui ((l.take l).reverse)++[vu s q]).foldl (kY tb) none=some X):=(by rw[pi];exact k0);have r9:Hid (∀k,k<l.length->∃b,A=some ⟨b,0,none⟩):=J (λk s1=>by obtain⟨g,c2,e,_⟩:=Uf h7.o O;injection e with f4 v1 v2;exact⟨g,f4⟩);clear k7 I aa e8 k1 R n4 j8 o2 l9 k0 g5;go_wp2;have k2:w<=wr.heap.size:=k5;generalize wr.heap.size=sb at*;go_loopw [13] (λh8 wx=>∃(kk:Nat) (u:Option St),kk<=l/\h8=((kk:Int)-1:Int)/\Hid (mg wx T bb ib w sb (Lq q u tb) q u.isSome)/\Hid (wx.ownsRow w 282 2 (.slice A l cap) l (lq l))/\Hid ((ui ((l.take kk).reverse)++[vu s q]).foldl (kY tb) u=some X)/\Hid (∀x,u=some x->x.cost<=38*(n-(q+1))+38/\x.pcs<=38*(n-(q+1))+38)/\Hid (Below w w wx)) (λh8 _=>(intOf h8+1).toNat);exact⟨l.length,none,aU,rfl,c9,h7,h0,J (λx h4=>by cases h4),c3⟩;clear c9 h7 h0 c3;obtain⟨kk,u,n9,rfl,E,D,Q,M,G⟩:=hrel;by_cases c4:0<kk
  .obtain⟨j,rfl⟩:∃j,kk=j+1:=⟨kk-1,O⟩;have s5:((j+1:Nat):Int)-1=(j:Int):=O;rw[s5];have a9:j<l.length:=O;obtain⟨g,rfl⟩:=r9.o j a9;obtain⟨t4,u0,o7⟩:=U6 k6.o a9;have b6:=Zci a9;have u1:=Zg9 k6.o a9;have y:=Q.o;rw[b6] at y;obtain⟨c1,c2⟩:=K' D.o a9;obtain⟨hi,n7⟩:=ay ((l.getD j (0,0)).1);obtain⟨d,hd⟩:=ay ((l.getD j (0,0)).2);obtain⟨a2,d7⟩:=ay (Bl l j);rw[n7] at t4 u0 c1 y;rw[hd] at o7 c2 y;rw[d7] at u1 y;have F:=J y;have u4:(j:Int)<l:=O;have v5:(0:Int)<=j:=O;have b8:=J d7;have d9:=J hd;clear b6 Q y n7 hd d7 ab n9 c4;go_upto_if 53 with fail;go_cut [14] (λt1 i7=>t1=a2/\wr=i7)
   case first=>
    clear E F M G c1 c2;by_cases g1:0<j
    .have s0:(0:Int)<j:=O;have f4:(j:Int)-1=((j-1:Nat):Int):=O;obtain⟨c1,c2⟩:=K' D.o (k:=j-1) O;have b9:(l.getD (j-1) (0,0)).1=a2:=by rw[<-b8.o];unfold Bl;rw[Vag g1]
     rw[b9] at c1;have r5:((j-1:Nat):Int)<(l.length:Int):=O;obtain⟨s6,j7⟩:=ay (j-1);rw[j7] at f4 c1 c2 r5;have m8:(0:Int)<=s6:=O;clear D b8 j7 b9;go_wp2;go_meet;case rel=>exact⟨rfl,rfl⟩
    have q8:j=0:=O;subst q8;have b9:a2=1:=(by rw[<-b8.o];rfl);subst b9;clear D b8;go_wp2;go_meet;case rel=>exact⟨rfl,rfl⟩
   obtain⟨rfl,rfl⟩:=hcut;clear b8;have r8:j<=l.length:=O;go_wp2;go_loopw [15] (λd5 i8=>∃(m:Nat) (u:Option St),m<=hi/\d5=m/\Hid (mg i8 T bb ib w sb (Lq q u tb) q u.isSome)/\Hid (i8.ownsRow w 282 2 (.slice (some ⟨g,0,none⟩) l cap) l (lq l))/\Hid (((sq m a2 d++ui ((l.take j).reverse))++[vu s q]).foldl (kY tb) u=some X)/\Hid (∀x,u=some x->x.cost<=38*(n-(q+1))+38/\x.pcs<=38*(n-(q+1))+38)/\Hid (Below w w i8)) (λd5 _=>(intOf d5).toNat);exact⟨hi,u,aU,rfl,E,D,F,M,G⟩;clear c1 c2 E D F M G;obtain⟨m,u,g6,rfl,E,D,Q,M,G⟩:=hrel;by_cases s7:a2<m;.have l8:=Zdu (d:=d) s7;have y:=Q.o;rw[l8] at y;have F:Hid (((sq (m-1) a2 d++ui ((l.take j).reverse))++[vu s q]).foldl (kY tb) (kY tb u ⟨m,d,0⟩)=some X):=J y;have z:=j5.o wr u E.o M.o ⟨m,d,0⟩ dz dz dz;unfold qY at z;simp only at z;have e0:(((0:cj).toNat:Nat):Int)=0:=rfl;rw[e0] at z;have z:=J z;obtain⟨c1,c2⟩:=K' D.o a9;rw[d9.o] at c2;have q0:(a2:Int)<m:=O;have em:(m:Int)-1=((m-1:Nat):Int):=O;obtain⟨n5,l6⟩:=ay (m-1);rw[l6] at em F;have p9:n5<=hi:=O;have n2:=E;clear l8 Q y e0 l6 E M c1;go_wp21;refine aP z.o λa7 ⟨a3,l1,a8⟩=>?_;obtain⟨p6,t7,r4,p4⟩:=dc a3 l1 (ZpP D.o n2.o a8) (VK G.o G.o.size a8 k9 k2);clear a3 l1 a8 D n2 G z;go_wp2;refine⟨⟨n5,_,p9,by first|rfl|(congr 1),p6,r4,F,t7,p4⟩,?_⟩;simp[intOf]<;>omega
   have y:=Q.o;rw[Zil O,pU] at y;have F:=J y;have q0:¬(a2:Int)<m:=O;clear Q y;go_wp2;refine⟨⟨j,u,r8,by first|rfl|go_num,E,D,F,M,G⟩,?_⟩;simp[intOf]<;>omega
  have q6:kk=0:=O;subst q6;have j6:kY tb u (vu s q)=some X:=Q.o;have z:=j5.o wr u E.o M.o (vu s q) (Na 1) (by show q+1<=n;omega) (cf _);have g8:q<S.size:=O;have s4:(q:Int)<S.size:=O;have v9:(0:Int)<=q:=O;have b4:=b1.o q O g8;have m4:qY (vu s q)= #[.int .i64 1,.int .i64 0,.int .u8 ((s.getD q 0).toNat:Int)]:=rfl;rw[m4,<-b4,j6,p8.o] at z;have z:=J z;have j0:((0:Nat):Int)-1= -1:=rfl;rw[j0];obtain⟨_,R,_⟩:=E.o.cells;clear Q j6 m4 b4 D M b1 n9 c4;go_wp21;refine aP z.o λa7 ⟨a3,_,a8⟩=>?_;obtain⟨_,r3,_⟩:=a3.cells;have e5:=VK G.o G.o.size a8 k9 k2;have f8:Hid (wK (a7.alloc (.cells #[((q:Int)-1:Int)] 3)) T bb a7.heap.size w (Lk s q) ((q:Int)-1)):=J ⟨a3.tb.alloc _,a3.best.alloc _,Bk.new _ _ _,a3.c.alloc _⟩;have p3:=J (e5.alloc e5.size (.cells #[((q:Int)-1:Int)] 3));have t2:Hid (Ie (.pointer (some (a7.heap.size,0))) (a7.alloc (.cells #[((q:Int)-1:Int)] 3))=((q:Int)-1+1).toNat):=J (r_ ((Bk.new a7 3 #[((q:Int)-1:Int)]).cell 0));clear a3 a8 e5 E G z R;go_wp2;refine⟨⟨q,a7.heap.size,O,rfl,f8,p3⟩,?_⟩;rw[t2.o,i5.o];omega
 have c4:k=0:=O;subst c4;have b0:=B.o;have j0:((0:Nat):Int)-1= -1:=rfl;rw[j0] at R;have j2:Lk s 0=qL s:=(by unfold Lk qL;rw[Nat.sub_zero];rfl);rw[j2] at b0;have p1:=J b0;have c8:(qL s)=n+1:=by rw[<-j2,<-a0.o];exact OZ s (cf _)
 have u6:=J c8;have m3:Hid ([]++ss s n 0=parse s):=J (by rw[pU,<-a0.o];rfl);obtain⟨u2,p2,e4,o9⟩:=dc (λi (h:i<n)=>(Vs (by rw[a0.o];exact h):rR s i ((qL s).getD i dU).first)) (λf i (h:i<n)=>(Z8r (by rw[a0.o];exact h):ss s (f+1) i=((qL s).getD i dU).first::ss s f (i+((qL s).getD i dU).first.len))) (λf=>(Zbj og:ss s f n=[])) (λi (h:i<n+1)=>Z92 (qL s) i (by rw[c8];exact h));have a5:=b0.best;rw[c8] at a5;have j4:=J a5;have k8:=J b0.tb;have b7:Hid (wr.ownsRow w 198 3 (.slice none 0 0) ([]:List Pc) (qo [])):=J Zl;clear b0 B j2 i5 c8 a5 n4 j8 o2 l9 d8 i3 j3 i4 o3 d4 b1 e6;go_wp2;clear R;go_loopw [16,17] (λs8 d6 wx=>∃(i f:Nat) (o:List Pc) (a6:aI),i<=n/\d6=(i:Int)/\s8=a6/\Hid (n<=i+f)/\Hid (o.length<=i)/\Hid (Bk wx T 277 (ou (qL s)))/\Hid (Bk wx bb 275 #[.slice (some (T,0)) (n+1) (n+1)])/\Hid (wx.ownsRow w 198 3 a6 o (qo o))/\Hid (o++ss s f i=parse s)/\Hid (Below w w wx)) (λ_ d6 _=>(n-intOf d6).toNat);exact⟨0,n,[],_,cf _,rfl,rfl,J O,J aU,k8,j4,b7,m3,hb⟩;clear k8 j4 b7 m3 hb;obtain⟨i,f,o,a6,hi,rfl,rfl,g0,c6,b3,a5,I,d1,hb⟩:=hrel;obtain⟨A,cap,rfl,_⟩:=Zh I.o;by_cases ab:i<n;.obtain⟨f1,rfl⟩:∃g,f=g+1:=⟨f-1,by have:=g0.o;omega⟩;have l5:=u2.o i ab;have b2:=l5.pos;rw[a0.o] at b2;have i9:=p2.o f1 i ab;obtain⟨_,_,c7,f6,f7⟩:=o9.o i O;obtain⟨p,n0⟩:=ay (((qL s).getD i dU).first);rw[n0] at b2 i9 c7 f6 f7;have a1:=d1.o;rw[i9] at a1;have F:Hid ((o++[p])++ss s f1 (i+p.len)=parse s):=J (by rw[er];exact a1);have q2:=(b3.o.cell (i*5+2)).trans c7;have q3:=(b3.o.cell (i*5+3)).trans f6;have q4:=(b3.o.cell (i*5+4)).trans f7;have t3:=a5.o.cell 0;simp at t3;have v0:(i:Int)<n+1:=O;have m9:(i:Int)<n:=O;have v4:(0:Int)<=i:=O;obtain⟨v8,t8,n1,d3,j9,f2,_⟩:=Vn (P:=prog) 186 198 _ _ 3 underlying186 ZqO rfl O I.o hb.o hb.o.size [.int .i64 (p.len:Int),.int .i64 (p.dist:Int),.int .u8 (p.byte.toNat:Int)] rfl sX (by unfold maxLen;have:=c6.o;omega) (by have:=c6.o;omega);have h5:=f2 _ _ _ b3.o aY;have aa:=f2 _ _ _ a5.o aY;have v7:=(h5.cell (i*5+2)).trans c7;have t6:=aa.cell 0;simp at t6;have n3:o+1=(o++[p]).length:=(by simp);have m2:qo o++[.int .i64 (p.len:Int),.int .i64 (p.dist:Int),.int .u8 (p.byte.toNat:Int)]=qo (o++[p]):=(by simp[qo,pcL]);rw[n3,m2] at d3;obtain⟨p7,c9,c3,p5,q9⟩:=ii d3 h5 aa j9 n1;have l7:Hid (n<=i+p.len+f1):=J (by have:=g0.o;omega);have n8:Hid ((o++[p]).length<=i+p.len):=J (by have:=c6.o;exact fj);obtain⟨A2,u5,u9,rfl⟩:=Z7 d3;clear l5 i9 c7 f6 f7 n0 d1 a1 d3 h5 aa j9 n1 g0 c6 f2 n3 m2 I;obtain⟨m,g6⟩:=ay (i+p.len);rw[g6] at F l7 n8 b2;have u7:(i:Int)+p.len=(m:Int):=O;have e7:m<=n:=b2.2;have u3:i<m:=O;clear b2 g6;go_wp2_with (at_builtin;refine Z5 Ft rfl _ _ _ rfl _ _ (by rfl) (by rfl) q9.o ?_);refine⟨⟨m,f1,o++[p],_,e7,by first|rfl|(congr 1),rfl,l7,n8,c9,c3,p7,F,p5⟩,?_⟩;simp[intOf]<;>omega
 have e7:i=n:=O;subst e7;have a1:=d1.o;rw[e4.o,fg] at a1;have e9:=I.o;rw[a1] at e9;have t5:=J e9;rw[a1];clear d1 a1 I e9 b3 a5;go_wp2;go_returns;exact⟨_,rfl,t5.o,hb.o⟩
end Go.Proofs.Y
namespace Wv
open Go.Proofs.Tryz Go Go.RowKit
theorem Zc6 {w:aq} {B y:Nat} {e p:TypeId} {sz l n F:Nat} {v u:aI} {xs G:List aI} (h:w.ownsRow B e sz v n xs) (D:w.ownsRow y p l u F G) (z:e≠p) {g:Nat} (t:v.ownBlock=some g):u.ownBlock≠some g:=by rcases h.2 with ⟨rfl,_⟩|⟨q,cap,k,rfl,_,E,_⟩;simp[Value.ownBlock] at t;have:q=g:=(by simpa [Value.ownBlock] using t);subst this;exact Z1 D (show Bk w q e k from E) (Ne.symm z)
end Wv
namespace Go.Proofs.Y
open Tryz Wv Go.RowKit
variable{B g n:Nat}{w':aq}
theorem Zn4 {w:aq} {cap:Nat} {o:List Pc} (h:w.ownsRow B 198 3 (.slice (some (g,0)) n cap) n (qo o)) {k:Nat} (t:k<o):w.cell? ⟨g,k*3,none⟩=(o[k].len:Int)/\w.cell? ⟨g,k*3+1,none⟩=(o[k].dist:Int)/\w.cell? ⟨g,k*3+2,none⟩=some (.int .u8 (o[k].byte.toNat:Int)):=by
 have key:∀(o:List Pc) (k:Nat) (t:k<o),(qo o)[k*3]? =(o[k].len:Int)/\(qo o)[k*3+1]? =(o[k].dist:Int)/\(qo o)[k*3+2]? =some (.int .u8 (o[k].byte.toNat:Int)):=by
  intro o;induction o with
  |nil=>intro k h;simp at h
  |cons c r ih=>
   intro k h;cases k with
   |zero=>exact⟨rfl,rfl,rfl⟩
   |succ k=>
    obtain⟨a,b,d⟩:=ih k Ct;have l:∀j,(qo (c::r))[(k+1)*3+j]? =(qo r)[k*3+j]? :=λj=>by unfold qo;rw[sW,pO (by show 3<=_;omega)];congr 1;show(k+1)*3+j-3=_;omega
    have e0:=l 0;simp only[tS] at e0;rw[e0,l,l];exact⟨a,b,d⟩
 obtain⟨a,b,d⟩:=key o k t;have h1:=h.cells (g:=g) rfl _ _ a;have p:=h.cells (g:=g) rfl _ _ b;have q:=h.cells (g:=g) rfl _ _ d;rw[Go.WideShapes.add_plain,jK] at h1 p q;exact⟨h1,p,q⟩
theorem Z6U (s:ax) (y:4096<s.length) (t:s.length<=1000000000) (w:aq):
  Calls prog 148 #[ua,bs s,(4096:Int)] w (bM w (.tuple #[.slice none 0 0,(9:Int)])):=by have g:=J (λW=>Tj W);have p:=J (λW=>VA W);have q:(bs s).size=s:=Z0 s;have z:(4096:Int)<((bs s).size:Int):=O;have l:=J ((bf w w).alloc aU (.cells #[(9:Int),(12:Int),(1:Int),(1:Int)] 231));generalize bs s=S at*;clear q y t;unfold ua at g⊢;go_in;go_wp21;refine aP (g.o _) λw1 k=>?_;go_wp21;refine cp (p.o _) ?_;have u:=J (l.o.trans (k.mono (by simp)));clear k l;exact EP
theorem RN (s:ax) (q:s.length<=4096) (w:aq):
  Calls prog 111 #[bs s] w λx w'=>∃g,x=.returned (.tuple #[g,(0:Int)])/\w'.ownsRow w 198 3 g (parse s) (qo (parse s))/\Below w w w':=by have k:=J (Zbq s q w);generalize bs s=S at*;generalize parse s=R at*;unfold ua at k;go_in;go_wp21;refine(k.o).mono ?_;rintro x w1 ⟨g,rfl,h1,p⟩;obtain⟨A,M,cap,rfl⟩:=Z7 h1;have l:=J h1;clear h1;go_wp2;go_returns;exact⟨_,rfl,l.o,p⟩
theorem Z5l (s:ax) (p:4096<s.length) (k:s.length<=1000000000) (w:aq):
  Calls prog 111 #[bs s] w (bM w (.tuple #[.slice none 0 0,(9:Int)])):=by have g:=J (Z6U s p k w);generalize bs s=S at*;unfold ua at g;go_in;go_wp21;refine aP g.o λw1 l=>?_;go_wp2;go_returns;exact⟨rfl,l⟩
theorem e_ {s:ax} {i:Nat} {t:Pc} (h:rR s i t) (q:s.length<=4096):t.len<=1000000/\t.dist<=1000000/\(t.dist=0/\1<=t.len\/1<=t.dist/\2<=t.len):=by rcases h with ⟨h1,g,_⟩|⟨h1,g,k,l,p,_⟩<;>omega
theorem ZbL (t:Pc) (l:List Pc) (x:Ms×En):XO (t::l) x=XO l (lB t x):=rfl
theorem wnew {p:Pl} {eb:Nat} {dv:aI} (q:BM B p) (t:B<=eb) (hd:∀g,dv.ownBlock=some g->B<=g):∀k,k<B->¬QA p eb dv k:=λk u l=>by rcases l with l|l|l|l|l|l|l;have:=q.kg;omega;have:=q.bb;omega;have:=q.bg;omega;have:=q.lg;omega;have:=q.dg;omega;exact O;have:=hd k l;omega
theorem Zex (s : ax) (q : s.length <= 4096) (f2 : s ≠ []) (w : aq) :
    Calls prog 78 #[bs s] w (bM w (.tuple #[bs (bi s.length++ji (XO (parse s) (m0,e0)).2),(0:Int)])):=by
  have b8:=J (RN s q w);have h4:(bs s).size=s:=Z0 s;have h7:=YU s;rw[Vai f2] at h7;have a6:=J (λW=>Zj (s.length:Int) O O W);have g7:=rK s;rw[<-Z0] at g7;have c5:=J (λW=>Tk W);unfold setC at c5;obtain⟨e6,M,i5⟩:=bD (λW=>Vf W) (QL s) (λi t (h:rR s i t)=>e_ h q);obtain⟨n,d3⟩:=ay s.length;have b5:=J d3;rw[d3] at h4 a6 q g7⊢;rw[ep] at a6;have g3:=J (Z9 (bi n) (ji (XO (parse s) (m0,e0)).2));generalize bs s=S at*;obtain⟨l,g1⟩:=ay (parse s);rw[g1] at b8 M g3⊢;generalize bs (bi n)=NS at*;clear d3 g1 f2;go_in;go_wp21;refine(b8.o).mono ?_;rintro x w1 ⟨j4,rfl,c9,d2⟩;obtain⟨A,cap,rfl,_⟩:=Zh c9;go_wp21;refine aP (a6.o _) λj7 aa=>?_;go_wp21;refine(c5.o _).mono ?_;rintro x F ⟨p,rfl,e9,B,c7⟩;go_wp21;refine aP (e6.o _) λy ⟨a0,an⟩=>?_;have s1:=d2.size;have g6:=aa.size;have s3:=c7.size;have i2:=an.size;have c6:Below w1 w1 y:=(aa.trans (c7.mono g6)).trans (an.mono O);have f7:=Z6 c9 (Fr.of_below (S:=nob) c6) (λ_ _ f=>f);have a9:Below w w y:=d2.trans (c6.mono s1);have g0:BM w p:=⟨by have:=B.kb;omega,by have:=B.kg;omega,by have:=B.bb;omega,by have:=B.bg;omega,by have:=B.lb;omega,by have:=B.lg;omega,by have:=B.db;omega,by have:=B.dg;omega⟩
  have d9:kJ ((y.alloc (.cells (setC p) 193)).alloc (.cells #[(F,0)] 195)) p y.heap.size (y.heap.size+1) F (.slice none 0 0) (m0,e0):=
    ⟨(e9.below an).below (((bf y.heap.size y).alloc aU _).alloc (by simp) _),a0.below (((bf y.heap.size y).alloc aU _).alloc (by simp) _),(Bk.new _ _ _).alloc _,Bk.newN _ _ _ (by simp)⟩;have e5:=(f7.alloc (.cells (setC p) 193)).alloc (.cells #[.pointer (some ⟨F,0,none⟩)] 195);have f3:=(a9.alloc a9.size (.cells (setC p) 193)).alloc (co a9.size (by simp)) (.cells #[.pointer (some ⟨F,0,none⟩)] 195);obtain⟨d8,a8,c8,h2⟩:=dc d9 e5 f3 g0;have i3:w<=F.heap.size:=O;unfold setC at d8 a8 c8;clear d9 e5 f3 g0 c9 f7 d2 aa c7 an c6 a9 e9 B a0 s1 g6 s3 i2 b8 a6 c5 e6;have h9:Hid (∀k,k<l.length->∃b,A=some ⟨b,0,none⟩):=J (λk i0=>by obtain⟨g,c2,e,_⟩:=Uf a8.o O;injection e with h8 j0 j1;exact⟨g,h8⟩)
  have j3:l.length<=1000000:=by
    have key:∀(i:Nat) (l:List Pc),tL s i l->i+l.length<=s:=by
      intro i l h;induction h with
      |done=>simp
      |step h r ih=>have:=h.pos;simp only[gd];omega
    have:=key 0 l M.o;rw[b5.o] at this;omega
  go_wp2;generalize (y.alloc (.cells #[.pointer (some ⟨p.kb,0,none⟩),.pointer (some ⟨p.bb,0,none⟩),.pointer (some ⟨p.lb,0,none⟩),.pointer (some ⟨p.db,0,none⟩)] 193)).alloc (.cells #[.pointer (some ⟨F.heap.size,0,none⟩)] 195)=W5 at*;generalize y.heap.size+1=cb at*;generalize y.heap.size=mb at*;generalize F.heap.size=eb at*;go_loopw [31] (λb4 wx=>∃(k i:Nat) (dv:aI) (x:Ms×En),k<=l.length/\b4=(k:Int)/\Hid (kJ wx p mb cb eb dv x)/\Hid (fo x.1/\dE 0 x.2)/\Hid (XO (l.drop k) x=XO l (m0,e0))/\Hid (tL s i (l.drop k))/\Hid (x.2.out.length<=135*i)/\Hid (wx.ownsRow w 198 3 (.slice A l cap) l (qo l))/\Hid (Below w w wx)/\Hid (∀g,dv.ownBlock=some g->w.heap.size<=g)) (λb4 _=>(l.length-intOf b4).toNat);exact⟨0,0,_,(m0,e0),cf _,rfl,d8,J ⟨Zez,xG⟩,J rfl,M,J (cf _),a8,c8,J W4f⟩;clear d8 a8 c8 M;obtain⟨k,i,dv,x,i0,rfl,u,E,a7,a3,I,R,hb,b1⟩:=hrel;by_cases ab:k<l.length
  . obtain⟨g,rfl⟩:=h9.o k ab;obtain⟨c1,c2,f4⟩:=Zn4 R.o ab;have f9:l.drop k=l[k]::l.drop (k+1):=kw ab;have b2:=a3.o;have b3:=a7.o;rw[f9] at b2 b3;obtain⟨t,g2⟩:=ay l[k];rw[g2] at b2 b3 c1 c2 f4;have Q:rR s i t/\tL s (i+t.len) (l.drop (k+1)):=by cases b2 with|step h r=>exact⟨h,r⟩
    obtain⟨Q,e7⟩:=Q;obtain⟨d5,d7,g4⟩:=i5.o i t Q;have f5:=Q.pos;rw[b5.o] at f5;have h0:=V1 d5 d7 O x;have g8:=Gx (p:=t) E.o.1 E.o.2;have f6:Below wr wr (wr.alloc (.cells (qY t) 198)):=(bf _ _).alloc aU _;have G:=Z8G (u.o.below f6) E.o.1 E.o.2 t d5 d7 g4 (by have:=I.o;omega)
    have b0 := J (λ(w' : aq) (h : Fr (QA p eb dv) (wr.alloc (.cells (qY t) 198)) w') => (⟨Z6 (R.o.alloc (.cells (qY t) 198)) h (λg z q => by have D:=R.o;rcases q with q|q|q|q|q|q|q;exact Z1 D u.o.ms.kn aY (q▸z);exact Z1 D u.o.ms.bt.st aY (q▸z);exact Z1 D u.o.ms.bt.nd aY (q▸z);exact Z1 D u.o.ms.ln.2 aY (q▸z);exact Z1 D u.o.ms.dn.2 aY (q▸z);exact Z1 D u.o.en.1 aY (q▸z);exact Zc6 D u.o.en.2 aY z q),
      (hb.o.alloc hb.o.size (.cells (qY t) 198)).trans (h.toBelow' (co hb.o.size (by simp)) (wnew h2.o i3 b1.o))⟩:w'.ownsRow w 198 3 (.slice (some ⟨g,0,none⟩) l cap) l (qo l)/\Below w w w'));have a4 := J (λ(d : aI) (h : Zu (wr.alloc (.cells (qY t) 198)) dv d) => (λg z => by rcases h with h|h;exact b1.o g (h▸z);have:=h g z;have:=hb.o.size;simp at*;omega:∀g,d.ownBlock=some g->w.heap.size<=g));have i1:Hid ((lB t x).2.out.length<=135*(i+t.len)):=J (by have:=I.o;omega);have b9:Hid (XO (l.drop (k+1)) (lB t x)=XO l (m0,e0)):=J b3;have M:=J e7;have h1:=J g8;have i9:(k:Int)<l:=O;have i8:(0:Int)<=k:=O;have G:=J G;unfold qY at G b0 a4;clear f9 b2 b3 g2 Q e7 d5 d7 g4 f5 h0 g8 f6 u E a7 a3 I R b1;obtain⟨j6,j5,tb⟩:=t;simp only at c1 c2 f4 G b0 a4;generalize (tb.toNat:Int)=TB at*;go_wp21;refine aP G.o λi4 ⟨h6,a2,g5,a1⟩=>?_;obtain⟨e8,f8⟩:=b0.o _ g5;obtain⟨g9,d1,b7,b6⟩:=dc e8 f8 (a4.o _ a1) a2;clear g5 a1 e8 f8 a2 b0 a4 G hb;go_wp2;refine⟨⟨k+1,_,h6,_,ab,ci,b6,h1,b9,M,i1,g9,d1,b7⟩,?_⟩;simp[intOf]<;>omega
  have h3:k=l.length:=O;subst h3;have d4:x=XO l (m0,e0):=by have:=a7.o;rw[wY] at this;exact this
  have i6:i<=n:=by
    have key:∀(i:Nat) (l:List Pc),tL s i l->i<=s.length:=by
      intro i l h;cases h with
      |done=>exact aU
      |step h r=>have:=h.pos;omega
    have:=key _ _ a3.o;rw[b5.o] at this;exact this
  have a5:=RK u.o.en E.o.2.low (by have:=I.o;omega);rw[d4] at a5;have a5:=J a5;have h5:=u.o.cc.cell 0;simp at h5;have i7:(bs (ji (XO l (m0,e0)).2)).size<=1000000:=by rw[Z0];unfold ji;rw[<-d4,Vab];have:=I.o;have j2:(be 4 x.2.low).length=4:=(by rw[MN];rfl);omega
  generalize bs (ji (XO l (m0,e0)).2)=FS at*;clear d4 u E a7 a3 I R b1;go_wp21;refine ij a5.o hb λi4 d1=>?_;clear hb;go_wp2;go_returns;exact⟨by rw[<-g3.o];rfl,d1.o⟩
theorem Zey (w:aq):
  Calls prog 78 #[bs []] w (bM w (.tuple #[bs (bi 0),(0:Int)])):=by have q:=J (RN [] (cf _) w);have y:(bs ([]:ax)).size=0:=rfl;have t:=YU [];rw[dd rfl] at t;have k:=J (λW=>Zj 0 O O W);have e0:(0:Int).toNat=0:=rfl;rw[e0] at k;generalize bs []=S at*;generalize parse []=l at*;generalize bs (bi 0)=NS at*;go_in;go_wp21;refine(q.o).mono ?_;rintro x w1 ⟨z,rfl,p,g⟩;obtain⟨A,cap,rfl,_⟩:=Zh p;go_wp21;refine aP (k.o _) λB aa=>?_;have u:=J (g.trans (aa.mono g.size));clear p g aa;exact EP
theorem Z8F (s:ax) (p:4096<s.length) (l:s.length<=1000000000) (w:aq):
  Calls prog 78 #[bs s] w (bM w (.tuple #[bs [],(9:Int)])):=by have k:=J (Z5l s p l w);have g:bs ([]:ax)=⟨#[]⟩:=rfl;rw[g];generalize bs s=S at*;clear g;go_in;go_wp21;refine aP k.o λw1 E=>?_;exact W66
def mV (o:Option ax):aI:=match o with
 |some t=>.tuple #[bs t,(0:Int)]
 |none=>.tuple #[bs [],(9:Int)]
theorem RH (s:ax) (g:s.length<=1000000000) (w:aq):
  cK 78 #[bs s] w (bM w (mV (lx s))):=by unfold lx;by_cases h:4096<s.length;rw[Vag h];exact Z8F s h g w;rw[Vae h];by_cases h0:s=[];subst h0;rw[Vag rfl,fg];exact Zey w;rw[Vae h0];exact Zex s O h0 w
structure io (w:World) (p:Pl) (mb eb:Nat) (m:Ms) (d:De):Prop where
 ms:gj w p m
 de:dD w eb d
 mc:Bk w mb 193 (setC p)
def te (p:Pl) (eb:Nat):Nat->Prop:=λk=>k=p.kg\/k=p.bb\/k=p.bg\/k=p.lg\/k=p.dg\/k=eb
theorem ZfP {w:aq} {p:Pl} {m:Ms} (h:gj w p m) {eb b:Nat} {d:De} (u:dD w eb d) {t:TypeId} {l:Array aI} (hb:Bk w b t l) (h1:t≠312) (k:t≠3) (q:t≠244):¬te p eb b:=λg=>by rcases g with g|g|g|g|g|g;exact Bk.apart hb h.kn k g;exact Bk.apart hb h.bt.st q g;exact Bk.apart hb h.bt.nd k g;exact Bk.apart hb h.ln.2 k g;exact Bk.apart hb h.dn.2 k g;exact Bk.apart hb u h1 g
theorem io.next {w:aq} {p:Pl} {mb eb:Nat} {m k:Ms} {d g:De} (h:io w p mb eb m d) (q:Fr (te p eb) w w') (t:gj w' p k) (l:dD w' eb g):io w' p mb eb k g:=
 ⟨t,l,h.mc.fr q (ZfP h.ms h.de h.mc aY aY aY)⟩
theorem io.below {w:aq} {p:Pl} {mb eb:Nat} {m:Ms} {d:De} (h:io w p mb eb m d) (hb:Below w w w'):io w' p mb eb m d:=⟨h.ms.below hb,h.de.below hb,h.mc.below hb h.mc.lt⟩
theorem io.drew {w:aq} {p:Pl} {mb eb:Nat} {m:Ms} {d:De} (h:io w p mb eb m d):io w.drew p mb eb m d:=⟨h.ms.drew,h.de.drew,h.mc⟩
theorem io.keep {w:aq} {p:Pl} {mb eb:Nat} {m:Ms} {d:De} (h:io w p mb eb m d) (g:∀l T k,Bk w l T k->5≠T->Bk w' l T k):io w' p mb eb m d:=
 ⟨⟨g _ _ _ h.ms.ks aY,g _ _ _ h.ms.kn aY,⟨g _ _ _ h.ms.bt.st aY,g _ _ _ h.ms.bt.nd aY⟩,⟨g _ _ _ h.ms.ln.1 aY,g _ _ _ h.ms.ln.2 aY⟩,⟨g _ _ _ h.ms.dn.1 aY,g _ _ _ h.ms.dn.2 aY⟩,h.ms.a1,h.ms.a2,h.ms.a3,h.ms.a4,h.ms.a5,h.ms.a6⟩,
  g _ _ _ h.de aY,g _ _ _ h.mc aY⟩
theorem io.row {w:aq} {p:Pl} {mb eb:Nat} {m:Ms} {d:De} (h:io w p mb eb m d) (t:Fr (te p eb) w w') {v:aI} {xs:List aI} (l:w.ownsRow B 5 1 v n xs):w'.ownsRow B 5 1 v n xs:=
 Z6 l t (λg q k=>by rcases k with k|k|k|k|k|k;exact Z1 l h.ms.kn aY (k▸q);exact Z1 l h.ms.bt.st aY (k▸q);exact Z1 l h.ms.bt.nd aY (k▸q);exact Z1 l h.ms.ln.2 aY (k▸q);exact Z1 l h.ms.dn.2 aY (k▸q);exact Z1 l h.de aY (k▸q))
theorem Ig {p:Pl} {eb:Nat} {w wr:aq} (l:BM B p) (u:B<=eb) (hb:Below B w wr) (q:B<=wr) (t:Fr (te p eb) wr w'):Below B w w':=
 hb.trans (t.toBelow' q (λk y g=>by rcases g with g|g|g|g|g|g;have:=l.kg;omega;have:=l.bb;omega;have:=l.bg;omega;have:=l.lg;omega;have:=l.dg;omega;omega))
theorem Lc {p:Pl} {eb:Nat} (R:g=p.kg\/g=p.lg\/g=p.dg):∀k,vg g eb k->te p eb k:=λk h=>ND
theorem v_ (n:Nat) (t:List Nat) (d:De) (h:t.length=2 ^ n):Q5 n 0 1 t d=ej n 1 t d:=by obtain⟨a,b⟩:=VG n 0 1 (2 ^ n) (t:=t) (d:=d) O O;exact O2
theorem ZmD {m:Ms} {d:De} (h:fo m) (g:DV 0 d):fo (eX m d).2.1/\DV 0 (eX m d).2.2:=by obtain⟨a,b,c,_⟩:=DK 1 1 m.kind d h.k.1 W4E g;exact⟨⟨⟨a,b.trans h.k.2⟩,h.bl,h.b,h.l,h.d⟩,c⟩
theorem Zlr {m:Ms} {d:De} (h:fo m) (p:DV 0 d):fo (qd m d).2.1/\DV 0 (qd m d).2.2:=by obtain⟨t1,g⟩:=Gk h;obtain⟨a,b,c,_⟩:=DK 8 1 (Z1p m) d t1 (by rw[g];decide) p;exact⟨⟨h.k,Rf,Wj h ⟨a,b.trans g⟩ _,h.l,h.d⟩,c⟩
theorem ZmG {m:Ms} {d:De} (h:fo m) (g:DV 0 d):fo (lu m d).2.1/\DV 0 (lu m d).2.2:=by obtain⟨a,b⟩:=Mc h.l g;exact⟨⟨h.k,h.bl,h.b,a,h.d⟩,b⟩
theorem ZlY {m:Ms} {d:De} (h:fo m) (g:DV 0 d):fo (pG m d).2.1/\DV 0 (pG m d).2.2:=by obtain⟨a,b⟩:=Mc h.d g;exact⟨⟨h.k,h.bl,h.b,h.l,a⟩,b⟩
section
variable {w:aq} {p:Pl} {mb eb:Nat} {m:Ms} {d:De}
theorem ZfT (h:io w p mb eb m d) (F:fo m) (u:DV 0 d):
  cK 184 #[(p.kb,0),(eb,0)] w λr w'=>r=.returned (((eX m d).1:Nat):Int)/\io w' p mb eb (eX m d).2.1 (eX m d).2.2/\Fr (te p eb) w w':=by refine(TL h.ms.kind O Fw Fw F.k.1 h.de (Bk.apart h.ms.ks h.de aY) u).mono ?_;rintro r w1 ⟨rfl,q,hd,l⟩;rw[v_ 1 _ _ F.k.2] at q hd;rw[v_ 1 _ _ F.k.2];have g:=l.mono (Lc (p:=p) (.inl rfl));exact⟨rfl,h.next g (h.ms.setK l (λk t=>t) (h.ms.offD h.de) q.nd) hd,g⟩
theorem Zft (h:io w p mb eb m d) (t:fo m) (y:DV 0 d):
  cK 185 #[(p.bb,0),(eb,0)] w λr w'=>r=.returned (.int .u8 (((qd m d).1.toNat:Nat):Int))/\io w' p mb eb (qd m d).2.1 (qd m d).2.2/\Fr (te p eb) w w':=by refine(Zec h.ms.bt t.b t.bl h.de y).mono ?_;rintro r w1 ⟨rfl,u,hd,q⟩;have l:Fr (te p eb) w w1:=q.mono (λk g=>by rcases g with h|h|h;exact .inr (.inl h);exact .inr (.inr (.inl h));exact .inr (.inr (.inr (.inr (.inr h)))));exact⟨rfl,h.next l (h.ms.setB q (λk g=>g) (h.ms.offD h.de) u) hd,l⟩
theorem ZjE (h:io w p mb eb m d) (u:fo m) (z:DV 0 d):
  cK 186 #[(p.lb,0),(eb,0)] w λr w'=>r=.returned (.int .i64 (lu m d).1)/\io w' p mb eb (lu m d).2.1 (lu m d).2.2/\Fr (te p eb) w w':=by refine(Z5o h.ms.ln u.l h.de z).mono ?_;rintro r w1 ⟨rfl,y,hd,q⟩;have g:=q.mono (Lc (p:=p) (.inr (.inl rfl)));exact⟨rfl,h.next g (h.ms.setL q (λk t=>t) (h.ms.offD h.de) y) hd,g⟩
theorem ZfB (h:io w p mb eb m d) (t:fo m) (y:DV 0 d):
  cK 186 #[(p.db,0),(eb,0)] w λr w'=>r=.returned (.int .i64 (pG m d).1)/\io w' p mb eb (pG m d).2.1 (pG m d).2.2/\Fr (te p eb) w w':=by refine(Z5o h.ms.dn t.d h.de y).mono ?_;rintro r w1 ⟨rfl,u,hd,l⟩;have g:=l.mono (Lc (p:=p) (.inr (.inr rfl)));exact⟨rfl,h.next g (h.ms.setD l (λk q=>q) (h.ms.offD h.de) u) hd,g⟩
theorem io.cells (h:io w p mb eb m d):w.cell? (mb,0)=(p.kb,0)/\w.cell? (mb,1)=(p.bb,0)/\w.cell? (mb,2)=(p.lb,0)/\w.cell? (mb,3)=(p.db,0):=
 ⟨h.mc.cell 0,h.mc.cell 1,h.mc.cell 2,h.mc.cell 3⟩
end
theorem Zb7 (d n:Nat) (o:ax):QD d (n+1) o=QD d n (o++[o.getD (o.length-d) 0]):=rfl
theorem Wy (o:ax) (c:cj):o.map bv++[.int .u8 (c.toNat:Int)]=(o++[c]).map bv:=by simp[bv]
def Ic (o:Option ax):aI:=match o with
 |some t=>.tuple #[bs t,true]
 |none=>.tuple #[bs [],false]
def slen (v:aI):Nat:=match v with
 |.slice _ n _=>n
 |_=>0
theorem Znh {f:Nat} {o:ax} {m:Ms} {d:De} (h:¬o.length<n):ru f n o m d=some o:=by
 cases f with
 |zero=>rfl
 |succ f=>rw[ru,Vae h]
theorem Zlb:(prog.info? 5).map (λi=>(i.zero,i.size,i.bytes))=some (some (.int .u8 0),1,1):=dw
theorem Zbs (data:ax) (n:Nat) (s4:n<=4096) (w:aq):
  Calls prog 137 #[bs data,n] w (bM w (Ic (xY data n))):=by
 have f3:=J (λW=>Tk W);unfold setC at f3;have j6:=J (λW=>U' data W);have i3:Hid (ru n n [] m0 (d0 data)=xY data n):=J rfl;have n2:=d0_v data;obtain⟨R,l6⟩:=ay (xY data n);rw[l6] at i3⊢;generalize d0 data=j3 at*;generalize bs data=S at*;clear l6;go_in;go_wp21;refine(f3.o _).mono ?_;rintro x w1 ⟨p,rfl,k6,k8,g5⟩;go_wp21;refine aP (j6.o _) λa0 ⟨m9,aa⟩=>?_;have s1:=g5.size;have q9:=aa.size
 have e7:io (a0.alloc (.cells (setC p) 193)) p a0.heap.size w1 m0 j3:=
  ⟨(k6.below aa).below ((bf a0.heap.size a0).alloc aU _),m9.below ((bf a0.heap.size a0).alloc aU _),Bk.new _ _ _⟩;have a1:=(g5.trans (aa.mono s1)).alloc O (.cells (setC p) 193);obtain⟨a8,a5,b6⟩:=bD e7 a1 k8;have e5:w<=w1.heap.size:=O;have i8:Hid ((a0.alloc (.cells (setC p) 193)).ownsRow w 5 1 (.slice none 0 0) ([]:ax) (([]:ax).map bv)):=J Zl;have k3:=e7.cells;unfold setC at a8 a5 i8 k3;clear e7 a1 k6 k8 g5 m9 aa s1 q9 f3 j6;go_wp2;generalize (a0.alloc (.cells #[.pointer (some ⟨p.kb,0,none⟩),.pointer (some ⟨p.bb,0,none⟩),.pointer (some ⟨p.lb,0,none⟩),.pointer (some ⟨p.db,0,none⟩)] 193))=W5 at*;generalize a0.heap.size=mb at*;generalize w1.heap.size=eb at*;clear k3;go_loopw [8] (λc6 wx=>∃(f:Nat) (o:ax) (m:Ms) (d:De) (a7:aI),c6=a7/\Hid (io wx p mb eb m d)/\Hid (fo m/\DV 0 d)/\Hid (ru f n o m d=R)/\Hid (n<=o+f)/\Hid (o<=n)/\Hid (wx.ownsRow w 5 1 a7 o (o.map bv))/\Hid (Below w w wx)) (λc6 _=>n-slen c6);exact⟨n,[],m0,j3,_,rfl,a8,J ⟨Zez,n2⟩,i3,J (by simp),J (cf _),i8,a5⟩;clear a8 a5 i8 i3 n2;obtain⟨f,o,m,d,a7,rfl,I,a6,c8,a3,l,F,hb⟩:=hrel;obtain⟨A,cap,rfl,_⟩:=Zh F.o;obtain⟨ol,d9⟩:=ay o.length;by_cases ab:o<n
 .obtain⟨f1,rfl⟩:∃g,f=g+1:=⟨f-1,by have:=a3.o;omega⟩;have B:=c8.o;rw[ru,Vag ab] at B;obtain⟨us,xX⟩:=ZmD a6.o.1 a6.o.2;have b0:=J (ZfT I.o a6.o.1 a6.o.2);obtain⟨c0,c1,c2,k5⟩:=I.o.cells;have p2:(ol:Int)<n:=O;have k:=J d9;have u:=F.o;rw[d9] at u⊢;have c9:=I;obtain⟨kk,n0⟩:=ay ((eX m d).1);rw[n0] at B b0;generalize (eX m d).2.1=m1 at*;generalize (eX m d).2.2=d1 at*;clear n0 I c8 ab d9;by_cases i1:kk=0;.subst i1;rw[Vag rfl] at B;have r4:((0:Nat):Int)=0:=rfl;rw[r4] at b0;obtain⟨k0,k1⟩:=Zlr us xX;have f8:=J (λ(W:aq) (h:io W p mb eb m1 d1)=>Zft h us xX);obtain⟨c,b3⟩:=ay ((qd m1 d1).1);rw[b3] at B f8;generalize (qd m1 d1).2.1=b4 at*;generalize (qd m1 d1).2.2=b2 at*;obtain⟨a9,c5,p6⟩:=bD B u (And.intro k0 k1);clear b3 B u F us xX k0 k1 c2 k5 a6;go_wp21;refine aP b0.o λb5 ⟨a2,a4⟩=>?_;have b8:=c9.o.row a4 c5.o;have b1:=Ig b6.o e5 hb.o hb.o.size a4;obtain⟨e0,g4,d7,d8⟩:=a2.cells;clear c0 c1 d7 d8 a4 b0 hb c5 c9;go_wp21;refine aP (f8.o _ a2) λs5 ⟨j4,g2⟩=>?_;have n4:=a2.row g2 b8;have an:=Ig b6.o e5 b1 b1.size g2;obtain⟨n1,r3,b9,y,a1,b7⟩:=ZU (P:=prog) 110 5 _ _ underlying110 Zlb rfl n4 an an.size (.int .u8 (c.toNat:Int)) rfl (by unfold maxLen;exact EY) EY;rw[Wy] at y;have G:ol+1=(o++[c]).length:=(by rw[Vab,pg,k.o]);rw[G] at y;obtain⟨a8,i5,a5,g3⟩:=dc (j4.keep b7) y a1 b9;have e9:Hid (n<=(o++[c]).length+f1):=J (by rw[<-G];have:=a3.o;have:=k.o;omega);have f2:Hid ((o++[c]).length<=n):=J (by rw[<-G];omega);have f5:Hid (n-slen n1<n-ol):=J (by obtain⟨r5,k4,e,_⟩:=Zh y;rw[e];show n-(o++[c]).length<_;rw[<-G];omega);obtain⟨A5,o2,p3,rfl⟩:=Z7 y;generalize (c.toNat:Int)=C at*;clear e0 g4 g2 a2 b8 b1 j4 n4 an b9 y a1 b7 G a3 l f8;go_wp2_with (at_builtin;refine Z5 Ft rfl _ _ _ rfl _ _ (by rfl) (by rfl) g3.o ?_);refine⟨⟨f1,_,b4,b2,_,rfl,a8,p6,a9,e9,f2,i5,a5⟩,?_⟩;exact f5.o
  rw[Vae i1] at B;have r8:((kk:Int)==0)=false:=W4P;obtain⟨g0,g1⟩:=ZmG us xX;have g7:=J (λ(W:aq) (h:io W p mb eb m1 d1)=>ZjE h us xX);obtain⟨L,l2⟩:=ay ((lu m1 d1).1);rw[l2] at B g7;generalize (lu m1 d1).2.1=b4 at*;generalize (lu m1 d1).2.2=b2 at*;obtain⟨m8,j9⟩:=ZlY g0 g1;have j0:=J (λ(W:aq) (h:io W p mb eb b4 b2)=>ZfB h g0 g1);obtain⟨D,l1⟩:=ay ((pG b4 b2).1);rw[l1] at B j0;generalize (pG b4 b2).2.1=e4 at*;generalize (pG b4 b2).2.2=d6 at*;obtain⟨a9,c5,i7⟩:=bD B u (And.intro m8 j9);clear l2 l1 B u F us xX g0 g1 m8 j9 a6 i1;go_wp21;refine aP b0.o λb5 ⟨a2,a4⟩=>?_;have b8:=c9.o.row a4 c5.o;have b1:=Ig b6.o e5 hb.o hb.o.size a4;obtain⟨e0,g4,d7,d8⟩:=a2.cells;obtain⟨i4,d5,d4⟩:=bD b8 b1 a2;clear c0 c1 c2 k5 a4 b0 hb c5 c9 b8 b1 e0 g4 a2;go_wp2;go_cut [9,10] (λr1 q7 wx=>r1=L/\q7=D/\Hid (io wx p mb eb e4 d6)/\Hid (Fr (te p eb) b5 wx))
  case first=>
   have n9:b5.drew.cell? (mb,2)=(p.lb,0)/\b5.drew.cell? (mb,3)=(p.db,0):=⟨d7,d8⟩;have l7:io b5.drew p mb eb m1 d1:=d4.o.drew;clear a9 i7 i4 d5 d4 b6 a3 l
   go_region_held3 (λW=>W.cell? (mb,2)=(p.lb,0)/\W.cell? (mb,3)=(p.db,0)) (first|with_reducible assumption|with_reducible exact n9)
    (first
     |(go_at_call 186;with_reducible refine(g7.o _ qB).mono ?_;rintro r n3 ⟨rfl,k2,h9⟩;have r6:n3.cell? (mb,2)=(p.lb,0)/\n3.cell? (mb,3)=(p.db,0):=⟨k2.cells.2.2.1,k2.cells.2.2.2⟩)
     |(go_at_call 186;with_reducible refine(j0.o _ qB).mono ?_;rintro r wb ⟨rfl,f7,r2⟩;have r7:wb.cell? (mb,2)=(p.lb,0)/\wb.cell? (mb,3)=(p.db,0):=⟨f7.cells.2.2.1,f7.cells.2.2.2⟩))
   all_goals
    go_wp2;go_meet;case rel=>exact⟨rfl,rfl,J f7,J (((Fr.refl (te p eb) b5).drew.trans h9).trans r2)⟩
  obtain⟨rfl,rfl,e8,f6⟩:=hcut;have n5:=d4.o.row f6.o i4.o;have m7:=Ig b6.o e5 d5.o d5.o.size f6.o;have i6:=J n5;have f4:=J m7;clear n5 m7 f6 i4 d5 d4 g7 j0 d7 d8;cases E:zt n o L D with
  |true=>
   have o1:R=none:=by have:=a9.o;rw[E,Vag rfl] at this;exact this.symm
   subst o1;have g6:L<0\/(¬L<0/\(271<L\/(¬271<L/\((n:Int)-ol<L+2\/(¬(n:Int)-ol<L+2/\(D<0\/(¬D<0/\(ol:Int)<=D))))))):=by unfold zt at E;rw[k.o] at E;simp only[Bool.or_eq_true,Vax] at E;omega
   have p1:ol<=4096:=EY;clear E a9 i7 a3 l i6 e8;have r9:bs ([]:ax)=⟨#[]⟩:=rfl;rcases g6 with h1|⟨h1,g8|⟨g8,g9|⟨g9,h0|⟨h0,l0⟩⟩⟩⟩
   all_goals
    go_wp2;go_returns;exact⟨rfl,f4.o⟩
  |false=>
   have g6:0<=L/\L<=271/\L+2<=(n:Int)-(ol:Int)/\0<=D/\D<(ol:Int):=by unfold zt at E;rw[k.o] at E;simp only[Bool.or_eq_false_iff,uJ] at E;omega
   have c7:=a9.o;rw[E,Vae aY] at c7;obtain⟨a,rfl⟩:∃a:Nat,L=a:=⟨L.toNat,O⟩;obtain⟨b,rfl⟩:∃a:Nat,D=a:=⟨D.toNat,O⟩;rw[ep,ep] at c7;obtain⟨h1,g8,g9,h0,l0⟩:=g6;have o9:¬(a:Int)<0:=O;have n7:¬(271:Int)<a:=O;have n8:¬(n:Int)-ol<(a:Int)+2:=O;have h6:¬(b:Int)<0:=O;have h7:¬(ol:Int)<=b:=O;have q0:ol+a+2<=n:=O;have p8:b<ol:=O;have q6:((a+2:Nat):Int)=(a:Int)+2:=O;obtain⟨t,o0⟩:=ay (a+2);have l3:(a:Int)+2=(t:Int):=O;rw[o0] at c7;have o4:=J c7;have k7:Hid (QD (b+1) (t-0) o=QD (b+1) t o):=J (by rw[Nat.sub_zero]);have p1:ol<=4096:=EY;have l5:t<=4096:=O;have m6:n<=ol+f1+1:=(by have:=a3.o;have:=k.o;omega);have p9:ol+t<=n:=O;clear E a9 c7 h1 g8 g9 h0 l0 q6 a3 l;go_wp2;clear o9 n7 n8 h6 h7;go_loopw [8,65] (λc6 f9 i9=>∃(j:Nat) (q:ax) (a7:aI),j<=t/\f9=j/\c6=a7/\Hid (q=ol+j)/\Hid (QD (b+1) (t-j) q=QD (b+1) t o)/\Hid (i9.ownsRow w 5 1 a7 q (q.map bv))/\Hid (io i9 p mb eb e4 d6)/\Hid (Below w w i9)) (λ_ f9 _=>(t-intOf f9).toNat);exact⟨0,o,_,cf _,rfl,rfl,J (by rw[tS];exact k.o),k7,J (by rw[k.o];exact i6.o),e8,f4⟩;clear k7 i6 e8 f4;obtain⟨j,q,a7,s0,rfl,rfl,i2,e6,F,I,hb⟩:=hrel;obtain⟨M,z⟩:=ay q.length;have j7:M=ol+j:=(by rw[<-z];exact i2.o);obtain⟨g,k4,rfl,k9⟩:=C' F.o (by rw[z];omega);have u:=F.o;rw[z] at u⊢;by_cases p4:j<t
   .obtain⟨r,b9⟩:∃r,t-j=r+1:=⟨t-j-1,O⟩;have Q:=e6.o;rw[b9,Zb7,z] at Q;obtain⟨ix,j1⟩:=ay (M-(b+1));rw[j1] at Q;obtain⟨c,b3⟩:=ay (q.getD ix 0);rw[b3] at Q;have GP:ix<M:=O;have j2:(q.map bv)[ix]? =some (.int .u8 (c.toNat:Int)):=by rw[jX,fb (by rw[z];exact GP),<-b3];simp[List.getD,bv,z,GP]
    obtain⟨cc,_⟩:=C9 u ix _ j2;have m4:(M:Int)-b-1=(ix:Int):=O;have l9:(ix:Int)<M:=O;have l8:(0:Int)<=ix:=O;have p0:(j:Int)<t:=O;have m5:M<=10000:=O;obtain⟨n1,r3,c4,y,a1,b7⟩:=ZU (P:=prog) 110 5 _ _ underlying110 Zlb rfl u hb.o hb.o.size (.int .u8 (c.toNat:Int)) rfl fU O;rw[Wy] at y;have G:M+1=(q++[c]).length:=(by rw[Vab,pg,z]);rw[G] at y;obtain⟨a8,i5,a5,g3⟩:=dc (I.o.keep b7) y a1 c4;have o6:Hid ((q++[c]).length=ol+(j+1)):=J (by rw[<-G];omega);have o3:Hid (QD (b+1) (t-(j+1)) (q++[c])=QD (b+1) t o):=J (by rw[show t-(j+1)=r by omega];exact Q);obtain⟨A5,o2,p3,rfl⟩:=Z7 y;generalize (c.toNat:Int)=C at*;clear i2 e6 F I hb u b9 Q j1 b3 j2 c4 y a1 b7 G z j7 k9;go_wp2_with (at_builtin;refine Z5 Ft rfl _ _ _ rfl _ _ (by rfl) (by rfl) g3.o ?_);refine⟨⟨j+1,_,_,p4,ci,rfl,o6,o3,i5,a8,a5⟩,?_⟩;simp[intOf]<;>omega
   have p7:j=t:=O;subst p7;have Q:=e6.o;rw[fh] at Q;have j5:q=QD (b+1) j o:=Q;have p0:¬(j:Int)<j:=O;have o5:Hid (ru f1 n q e4 d6=R):=J (by rw[j5];exact o4.o);have o7:Hid (n<=q+f1):=J (by rw[z];omega);have q8:Hid (q<=n):=J (by rw[z];omega);have f5:Hid (n-M<n-ol):=J O;have n6:Hid (wr.ownsRow w 5 1 (.slice (some ⟨g,0,none⟩) M k4) q (q.map bv)):=J (by rw[z];exact u);clear i2 e6 Q j5 z j7 k9 u;go_wp2;refine⟨⟨f1,q,e4,d6,_,rfl,I,i7,o5,o7,q8,n6,hb⟩,?_⟩;exact f5.o
 have i0:o=n:=(by have:=l.o;omega);have h8:R=some o:=(by rw[<-c8.o];exact Znh ab);subst h8;have p2:¬(ol:Int)<n:=O;have p5:=U5 (P:=prog) 110 9 5 underlying110 underlying5 underlying9 F.o;rw[d9] at p5⊢;have j8:Ic (some o)=.tuple #[bs o,true]:=rfl;have o8:=J j8;generalize bs o=OS at*;clear I a6 c8 a3 l F j8 i0 ab;go_wp2;go_returns;rw[o8.o];exact⟨rfl,hb.o⟩
end Go.Proofs.Y
namespace Wv
open Go.Proofs.Tryz 
theorem Zni:∀(f n:Nat) (o:ax) (m:Ms) (d:De) (s:ax),o<=n->ru f n o m d=some s->s.length<=n:=by
 intro f;induction f with
 |zero=>intro n o m d s h hs;injection hs with hs;rw[<-hs];exact h
 |succ f ih=>
  intro n o m d s h hs;rw[ru] at hs;split at hs
  .split at hs;exact ih n _ _ _ s (by rw[Vab,pg];omega) hs;split at hs;cases hs;rename_i hb;refine ih n _ _ _ s ?_ hs
   have key:∀(d k:Nat) (o:ax),(QD d k o)=o.length+k:=by
    intro d k;induction k with
    |zero=>intro o;rfl
    |succ k ih=>intro o;show(QD d k (o++_)).length=_;rw[ih,Vab,pg];omega
   rw[key];unfold zt at hb;simp only[Bool.or_eq_true,Vax,not_or] at hb;omega
  injection hs with hs;rw[<-hs];exact h
end Wv
namespace Go.Proofs.Y
open Tryz Wv Go.RowKit
theorem Hu (a b:ax):(((bs a).toList !=(bs b).toList)= !decide (a=b))/\(((bs a).toList==(bs b).toList)=decide (a=b)):=by
 have g:((bs a).toList==(bs b).toList)=decide (a=b):=by rw[lN,beq_iff_eq,Vax,ByteArray.toList_eq,ByteArray.toList_eq];exact Iff.rfl
 exact⟨by rw[bne,g],g⟩
