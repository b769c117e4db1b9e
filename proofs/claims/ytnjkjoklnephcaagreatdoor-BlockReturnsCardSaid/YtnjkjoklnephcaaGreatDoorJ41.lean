import Derived.Test.YtnjkjoklnephcaaGreatDoorJ36
import Derived.Test.YtnjkjoklnephcaaGreatDoorJ21
import Derived.Test.YtnjkjoklnephcaaGreatDoorJ26
import Derived.Test.YtnjkjoklnephcaaGreatDoorJ38
set_option linter.all false
set_option maxRecDepth 100000
set_option maxHeartbeats 0
open Go.Proofs.Tryz (prog underlying125 underlying23)
section
variable{P Q:Prop}
theorem Rp(h:P:=by rw[XK a3.o,b5.o];exact aP ⟨rfl,rfl,a5⟩):P:=h
theorem Ro(h:P:=by rw[Z0];show C.length<=_;have:C.length<=4096:=b2;omega):P:=h
theorem P'{P:Prop}(h:P:=by rw[a8.o,Zav hu (by first|(rw[aP rfl];exact b1)|(rw[az a7];exact b1))]):P:=h
theorem OQ(h:P:=by have h1:=b0.o.size;have h2:=(a9.o.lt b (by rw[k];rfl)).1;rw[World.size_alloc] at h1;omega):P:=h
theorem OO(h:P:=by clear b1 I hu;go_wp2;go_returns;exact⟨_,by rw[E.o];rfl,by rw[E.o];exact ox.nil _ _,y⟩):P:=h
theorem Oo(h:P:=by rcases a6 with (h|h)|⟨l,h,_,h2,_,a7⟩;injection h with h _;exact absurd h a5;injection h with h _;exact absurd h a5;injection h with h _;subst h;exact⟨h2,(Ze.1 h2).2.2⟩):P:=h
theorem On(h:P:=by simp only[a4];clear M q a1 G F a3 E;go_in;go_wp21;refine aO (Q.o _ (a2.o _ (bi _ _)).2.2.1) λw1 z=>?_;obtain⟨_,_,aa,_⟩:=a2.o _ z;go_wp2;go_returns;exact⟨rfl,aa⟩):P:=h
theorem IU(h:P:=by go_in;go_wp21;refine aO (Q.o _ (a2.o _ (bi _ _)).2.2.1) λw1 z=>?_;obtain⟨_,_,aa,_⟩:=a2.o _ z;go_wp2;go_returns;exact⟨_,by rw[E.o];rfl,by rw[E.o];exact ox.nil _ _,aa⟩):P:=h
theorem NQ(h:P:=by subst a5;have E:Hid (R=([],12)):=J (by rw[a8.o,XK a3.o,b5.o];rw[az (λh=>h.2.2 rfl)]);simp only[vQ];clear M u a6;go_wp2;go_returns;exact⟨_,by rw[E.o];rfl,by rw[E.o];exact ox.nil _ _,Q⟩):P:=h
theorem NI(h:P:=by have E:Hid (R=([],12)):=J (by rw[a8.o,XK a3.o];rw[az (λh=>hk h.1)]);have B:((k:Int) !=1)=true:=(by rw[kx];omega);clear hk I b2;go_wp2;go_returns;exact⟨_,by rw[E.o];rfl,by rw[E.o];exact ox.nil _ _,y⟩):P:=h
theorem NG(h:P:=by have E:Hid (R=([],12)):=J (by rw[a8.o,XK a3.o,b5.o];rw[az (λh=>a2 h.2.1)]);have D:((a4:Int) !=0)=true:=(by rw[kx];omega);clear M u a6 a2;go_wp2;go_returns;exact⟨_,by rw[E.o];rfl,by rw[E.o];exact ox.nil _ _,Q⟩):P:=h
theorem Oc(h:P:=by go_in;go_wp21;refine aO (Q.o _ (a2.o _ (bi _ _)).2.2.1) λw1 z=>?_;obtain⟨_,_,aa,_⟩:=a2.o _ z;have F:=J z;clear z aa;go_wp21;refine(k.o _).mono ?_;rintro x w2 ⟨v,rfl,aa⟩;have a1:=J (F.o.trans (aa.mono F.o.size));obtain⟨u,z1,y,_⟩:=a2.o _ a1.o;clear aa;go_wp2;go_returns;exact⟨_,by rw[E.o];rfl,by rw[E.o];exact ox.nil _ _,y⟩):P:=h
theorem N4(h:P:=by
 rw[G] at b4 b6;clear a9 c8 F G;cases B;.have E:Hid (R=([],12)):=J (by rw[b6.o];rfl);go_wp21;refine gO b4.o b3 λl g=>?_;go_wp2;go_returns;exact⟨_,by rw[E.o];rfl,by rw[E.o];exact ox.nil _ _,g.o⟩
 have E:Hid (R=(iS f ts vs,0)):=J (by rw[b6.o];rfl);go_wp21;refine aO b4.o λl a1=>?_;have g:=J (b3.o.trans (a1.mono b3.o.size));have k:=J (f5.o.below a1);clear a1;go_wp2;go_returns;exact⟨_,by rw[E.o];rfl,by rw[E.o];exact⟨_,_,by rw[b8.o];rfl,k.o,c4.o⟩,g.o⟩):P:=h
theorem Nu(h:P:=by
 obtain⟨l,E,rfl,q,t0⟩:=ZkC (b9.o.below hb.o) i ab;obtain⟨p,F,rfl,u,a6⟩:=ZkD (c3.o.below hb.o) i (by rw[z.o];exact ab);have g:=Z7Z f (ts:=ts) (vs:=vs) z.o.symm ab;have a0:=c5.o i ab;obtain⟨X,k⟩:=ay ts[i];obtain⟨V,e6⟩:∃V,vs[i]'(by rw[z.o];exact ab)=V:=⟨_,rfl⟩;rw[k] at t0 g a0;rw[e6] at a6 g;have j1:IntKind.i64.wrap (X+f)=X+f:=(by rw[IntWalk.i64_in _ (by have:=b7.o;omega)]);have j2:IntKind.i64.wrap (X+f+1)=X+f+1:=(by rw[IntWalk.i64_in _ (by have:=b7.o;omega)]);obtain⟨v',W',b5,b6,a5⟩:=Zda a9.o hb.o hb.o.size (by omega) (X+f+1,V);rw[<-g] at b6;obtain⟨b8,t,y⟩:=bF b5 b6 a5;have B:(0:Int)<=i:=(by omega);have D:(i:Int)<ts:=(by omega);clear b5 b6 a5 g a9 hb a0 c8 k e6
 go_wp2_with (
  at_builtin;refine Z5 (by with_reducible rfl) rfl _ _ _ rfl _ _ (by rfl) (by rfl) b8.o ?_);refine⟨⟨i+1,ab,by go_num,t,y⟩,?_⟩;simp[intOf]<;>omega):P:=h
theorem Nt(h:P:=by
 have q:i<l:=(by rw[<-I.o];exact ab);obtain⟨u,z1,F,E⟩:=a2.o _ hb.o;obtain⟨g0,g4,rfl,G,c0,c1⟩:=xy (Ha.o.below F) i q;have e4:=a7.o i q;have a0:=a6.o i q;obtain⟨⟨X,V⟩,hTV⟩:=ay l[i];rw[hTV] at c0 c1 e4 a0;simp only at c0 c1 e4 a0;have j2:IntKind.i64.wrap (X-(f+1))=X-(f+1):=(by rw[IntWalk.i64_in _ (by have:=g.o;omega)]);have z:=hb.o.alloc hb.o.size (.cells #[X,V] 81);have p:=Z6 a9.o (Fr.of_below (S:=nob) ((bi wr wr).alloc aW (.cells #[X,V] 81))) (λ_ _ f=>f);obtain⟨v',W',b5,b6,a5⟩:=Zeq p z z.size (by omega) (X-(f+1));rw[<-e4] at b6;rw[World.size_alloc] at b5;obtain⟨b8,t,y⟩:=bF b5 b6 a5;have B:(0:Int)<=i:=(by omega);have D:(i:Int)<n:=(by omega);clear b5 b6 a5 e4 hTV q z p a9 hb a0 F k
 go_wp2_with (
  at_builtin;refine Z5 (by with_reducible rfl) rfl _ _ _ rfl _ _ (by rfl) (by rfl) b8.o ?_);refine⟨⟨i+1,ab,by go_num,t,y⟩,?_⟩;simp[intOf]<;>omega):P:=h
end
namespace Wv
open Go.Proofs.Y
variable{b:aS}{f t:Int}{s:Int×Int}
theorem Zq4 {l:List d'} (h:eK s f t b l=false):ma s f t b l=([],1):=by unfold ma;rw[aP h]
theorem ZnA (h:eK s f t b []=true):ma s f t b []=([],0):=by unfold ma;rw[az uO,aP rfl]
theorem Zq3 {l:List d'} (h:eK s f t b l=true) (g:l≠[]):ma s f t b l=rc (tx s f l):=by unfold ma;rw[az uO,az g]
theorem Zkp {vs:bd} (hs:dF s=true) (hv:∀v∈vs,fx Z3 s (aH v)=true) (hl:vs.length<=4096):(nm s vs).1.length<=1000000000:=by
 unfold nm;split;.rename_i h0;obtain⟨w1,w2⟩:=YI hs h0;have hb:ZH s.2 vs=true:=ZI.2 ⟨λv h=>Zh3 h0 (hv v h),w1,w2,hl⟩;unfold Y7;rw[az (by simp[hb])];have:=Vg hb 4;show(iG _ _ 4).length<=_;omega
 have:=Qb hl (λv h=>by have:=Gn (hv v h);rwa [Z2] at this);omega
theorem Zkk (f:Int) (l:List d') (i:Nat) (h:i<l):hP f (l.take (i+1))=hP f (l.take i)++[l[i].1-(f+1)]:=by unfold hP;rw[dD h,jv];rfl
theorem J_ {s:Int×Int} {t:Int} :∀ {l:List d'} {a:Int} {b:aS},oq s t a b l=true->∀c∈l,a<c.1/\c.1<=t
 |[],_,_,_,c,g=>by cases g
 |d::l,a,b,h,c,g=>by obtain⟨h1,k,_,_,p⟩:=Kw.1 h;rcases jx.1 g with rfl|g;exact⟨h1,k⟩;have:=J_ p c g;exact⟨O,this.2⟩
end Wv
namespace Go.Proofs.Y
open Wv Go.RowKit
theorem Zdk {l:List Int} (h:Zh l=true) {c:Nat} (u:c<=2) (h1:c=1->2<=l.length):(D6 c l).length<=3000000:=by have g:=λn=>Ye n;have k:c=0\/c=1\/c=2:=O;rcases k with rfl|rfl|rfl;show(bj 0++ZS (Z9 l)).length<=_;rw[bT,lT];have:=Yf h;have:=g 0;omega;show(oL l).length<=_;have p:=Qi h (h1 rfl);have hi:=(YK.1 p).1;have q:=Yf (Xl hi l);have t:=Yf (FW (c:=Zt l) h);rw[l_];unfold text;simp only[bT,lT,Z2,Z0];have:=g 1;have:=g (Zt l).st.toNat;have:=g (Zt l).f.toNat;have:=g (Zt l).s.toNat;have:=g (Zt l).n.toNat;have:=g (ZS (Z9 (Qz (Zt l) l)));omega;show(bj 2++(enc (ij (Z9 l))).1).length<=_;rw[bT,lT];have:=(Vk h).2;have:=g 2;omega
theorem ZdO (l:List Int):(ke l).1.length<=3000000:=by cases h:Zh l;rw[Vy h];simp;obtain⟨c,g,h1,k⟩:=XY h;rw[k];exact Zdk h g h1
theorem Zjl (W:au) (B:Nat) (e:TypeId) (x y:aJ) (g:B<=W):(W.alloc (.cells #[x,y] e)).ownsRow B e 2 (.slice (some (W,0)) 1 1) 1 [x,y]:=
 ⟨rfl,.inr ⟨W,1,#[x,y],rfl,g,heap_alloc_new W _,aW,gn,rfl,by simp⟩⟩
theorem Zfj {w:au} {A:bS} {b:aS} {l:List (Int×aS)} (M:At w A (cv l)) (a c f t:Int) (q:rm a c w) (a1:b.size<=1099511627776) (G:∀x∈l,x.2.size<=1099511627776) (n cap:Nat) (F:n=l) (a3:n<=9223372036854775807):
  Calls prog 33 #[.agg #[a,c],f,t,b,(A,n,cap)] w λx w'=>gj w (ma (a,c) f t b l) x w':=by
 have Q:=J (λW (hb:Below w w W)=>Yk (M.below hb) a c f t (q.below hb) a1 G n cap F a3);have a2:=J (λW h=>Dm (w:=w) (W:=W) (a:=a) (c:=c) h);obtain⟨R,a8⟩:=ay (ma (a,c) f t b l);rw[a8];unfold gj;cases E:eK (a,c) f t b l;rw[E] at Q;rw[Zq4 E] at a8;subst a8;have a4:bs ([]:ax)=⟨#[]⟩:=rfl;exact On;rw[E] at Q;by_cases h0:l=[];subst h0;rw[ZnA E] at a8;subst a8;have a4:bs ([]:ax)=⟨#[]⟩:=rfl;have i6:n=0:=F;subst i6;exact On;rw[Zq3 E h0] at a8;obtain⟨c6,f3,g9,d5,d6⟩:=Xr.1 E;obtain⟨i1,g8,e5⟩:=Ho.1 f3;have e3:=Kz E;obtain⟨cc,_,_,d7⟩:=XY e3;have f4:=ZdO (hP f l);have f6:(ke (hP f l)).2=0:=(by rw[d7]);have d4:∀v∈l.map (·.2),fx Z3 (a,c) (aH v)=true:=λv h9=>by obtain⟨x,i0,rfl⟩:=iV.1 h9;exact QQ d6 x i0
 have d2:(hP f l)=l.length:=(by unfold hP;rw[dc]);have j0:n<=4096:=O;have i8:((n:Int)==0)=false:=by rw[lN];intro e;exact h0 (gx O)
 obtain⟨a6,a7,Ha,I,c8⟩:=ia (λi (h:i<l.length)=>J_ d6 _ (dr h)) (λi (h:i<l.length)=>Zkk f l i h) M F (λ(W:au) A2 aU (h:At W A2 (bQ (hP f l)))=>Sw h n aU (by rw[d2,F]) a3);unfold gj at c8;rw[f6] at c8;have j3:Hid ((hP f l)=n):=J (by rw[d2,F]);have j1:IntKind.i64.wrap (f+1)=f+1:=lP;have g2:=J (λ(W:au) (B:Nat)=>(Zm:W.ownsRow B 3 1 (.slice none 0 0) 0 []));obtain⟨T,d3⟩:=ay ((ke (hP f l)).1);rw[d3] at c8 f4;have b3:tx (a,c) f l=(1,T)::if a=3 then[] else[(oP (a,c),(nm (a,c) (l.map (·.2))).1)]:=by unfold tx;rw[d3]
 have g3:Hid (hP f (l.take 0)=[]):=J rfl;have f8:Hid (hP f (l.take n)=hP f l):=J (by rw[dU (by rw[F];exact aW)]);have g:Hid (-1<=f/\t<=1099511627776):=J ⟨i1,e5⟩;by_cases b7:a=3;.rw[aP b7] at b3;rw[b3] at a8;have b9:=J (λ(W:au) A2 (h:At W A2 (mY [(1,T)])) aU=>So h (λp b0=>by rw[js.1 b0];show(1:Nat)<16;decide) (λp b0=>by rw[js.1 b0];show T.length<=_;omega) 1 aU rfl aZ);rw[a8] at b9;have c5:mY [(1,T)]=[.int .i64 1,.string (bs T)]:=rfl;have f7:=J c5;subst b7;generalize bs T=S at*;clear M q a1 G F E h0 a8 c6 f3 g9 d5 d6 e3 d7 f6 d4 d2 d3 b3 f4 i1 g8 e5 c5;go_in;go_wp21;refine aO (Q.o _ (a2.o _ (bi _ _)).2.2.1) λw1 z=>?_;have c4:=J z;clear z;go_wp2;go_loopw [12,32] (λe7 b1 wr=>∃i:Nat,i<=n/\b1=(i:Int)/\Hid (wr.ownsRow (w.alloc (.cells #[(3:Int),c] 68)) 3 1 e7 i ((hP f (l.take i)).map iv))/\Hid (Below (w.alloc (.cells #[(3:Int),c] 68)) (w.alloc (.cells #[(3:Int),c] 68)) wr)) (λ_ b1 _=>(n-intOf b1).toNat);exact⟨0,cf _,rfl,J (g2.o _ _),c4⟩;clear c4;obtain⟨i,hi,rfl,a9,hb⟩:=hrel;obtain⟨A5,d9,rfl,k⟩:=Zi a9.o;by_cases ab:i<n;exact Nt;have a0:i=n:=O;subst a0;rw[f8.o] at k;have e8:=J (c8.o wr A5 d9 k);clear a9 k;have i4:=a2.o _ hb.o;go_wp21;refine aO e8.o λc7 aa=>?_;have b2:=J (hb.o.trans (aa.mono hb.o.size));have b4:=b2.o.alloc b2.o.size (.cells #[(1:Int),S] 87);obtain⟨u,_,c3,_⟩:=a2.o _ b4;have f2:=J (b9.o (c7.alloc (.cells #[(1:Int),S] 87)) (some ⟨c7.heap.size,0,none⟩) (by rw[f7.o];exact(Bk.new c7 87 #[(1:Int),S]).at_) 1);have h7:=J c3;clear aa b4 c3 i4;go_wp21;refine gO f2.o h7 λf5 h6=>?_;go_wp2;go_returns;exact⟨rfl,h6.o⟩
 rw[az b7] at b3;rw[b3] at a8;have e9:=Zkp c6 d4 (by rw[dc];exact d5);have g5:=(Zlm c6 b7 d4 (by rw[dc];exact d5)).1;have c9:=J (λ(W:au) (hb:Below w w W)=>Znf (M.below hb) n cap F O a c c6 b7 G);rw[g5] at c9;obtain⟨D,e1⟩:=ay ((nm (a,c) (l.map (·.2))).1);obtain⟨K,e2⟩:=ay (oP (a,c));have f9:K<16:=(by rw[<-e2];exact Zpc _);rw[e1,e2] at c9 a8;rw[e1] at e9;have b9:=J (λ(W:au) A2 (h:At W A2 (mY [(1,T),(K,D)])) aU=>So h (λp b0=>by rcases jx.1 b0 with rfl|b0;show(1:Nat)<16;decide;rw[js.1 b0];exact f9) (λp b0=>by rcases jx.1 b0 with rfl|b0;show T.length<=_;omega;rw[js.1 b0];exact e9) 2 aU rfl aZ);rw[a8] at b9;have g1:xT (K:Int) D 0=.tuple #[.agg #[K,bs D],(0:Int)]:=rfl;rw[g1] at c9;have c5:mY [(1,T),(K,D)]=[.int .i64 1,.string (bs T)]++[.int .i64 (K:Int),.string (bs D)]:=rfl;have f7:=J c5;have i9:(a !=3)=true:=(by rw[kx];exact b7);generalize bs T=S at*;generalize bs D=S2 at*;generalize (K:Int)=KI at*;clear M q a1 G F E h0 a8 c6 f3 g9 d5 d6 e3 d7 f6 d4 d2 d3 b3 f4 i1 g8 e5 c5 g5 e9 g1 e2 f9 e1;go_in;go_wp21;refine aO (Q.o _ (a2.o _ (bi _ _)).2.2.1) λw1 z=>?_;have c4:=J z;clear z;go_wp2;go_loopw [12,32] (λe7 b1 wr=>∃i:Nat,i<=n/\b1=(i:Int)/\Hid (wr.ownsRow (w.alloc (.cells #[a,c] 68)) 3 1 e7 i ((hP f (l.take i)).map iv))/\Hid (Below (w.alloc (.cells #[a,c] 68)) (w.alloc (.cells #[a,c] 68)) wr)) (λ_ b1 _=>(n-intOf b1).toNat);exact⟨0,cf _,rfl,J (g2.o _ _),c4⟩;clear c4;obtain⟨i,hi,rfl,a9,hb⟩:=hrel;obtain⟨A5,d9,rfl,k⟩:=Zi a9.o;by_cases ab:i<n;exact Nt;have a0:i=n:=O;subst a0;rw[f8.o] at k;have e8:=J (c8.o wr A5 d9 k);clear a9 k;go_wp21;refine aO e8.o λc7 aa=>?_;have b2:=J (hb.o.trans (aa.mono hb.o.size));have b4:=b2.o.alloc b2.o.size (.cells #[(1:Int),S] 87);obtain⟨u,z1,c3,_⟩:=a2.o _ b4;obtain⟨h5,e6,h2⟩:=bF (Zjl c7 (w.alloc (.cells #[a,c] 68)) 87 (1:Int) (.string S) b2.o.size) b4 (c9.o _ c3);clear aa b4 c3;go_wp21;refine aO h2.o λf5 d1=>?_;have d8:=(e6.o.trans (d1.mono e6.o.size)).alloc (cp e6.o.size d1.size) (.cells #[KI,S2] 87);have g7:=Z6 (Z6 h5.o (Fr.of_below (S:=nob) d1) (λ_ _ f=>f)) (Fr.of_below (S:=nob) ((bi f5.heap.size f5).alloc aW (.cells #[KI,S2] 87))) (λ_ _ f=>f);obtain⟨v',W',b5,b6,a5,_⟩:=KG (P:=prog) 125 87 _ _ 2 underlying125 ZkR rfl aZ g7 d8 d8.size [.int .i64 KI,.string S2] rfl Jh gn O;obtain⟨h1,i5,h4,g6⟩:=Zi b6;rw[World.size_alloc] at b5;have b8:=J b5;have f2:=J (b9.o W' h1 (by rw[f7.o];exact g6) i5);have h8:=J (a2.o _ a5).2.2.1;subst h4;clear b5 b6 a5 g7 d8 d1 g6
 go_wp2_with (
  at_builtin;refine Z5 iW rfl _ _ _ rfl _ _ (by rfl) (by rfl) b8.o ?_);go_wp21;refine gO f2.o h8 λj4 i7=>?_;go_wp2;go_returns;exact⟨rfl,i7.o⟩
end Go.Proofs.Y
namespace Wv
open Go.Proofs.Y
variable{b:aS}{d:ax}{f t:Int}{n:Nat}{s:Int×Int}{ts:List Int}{vs:bd}
theorem Znx (h:eK s f t b []=false):iQ s f t b d=([],1):=by unfold iQ;rw[aP h]
theorem Znz (h:eK s f t b []=true):iQ s f t b []=([],0):=by unfold iQ;rw[az uO,aP rfl]
theorem Zny (h:eK s f t b []=true) (g:4096<d.length):iQ s f t b d=([],12):=by unfold iQ;rw[az uO,az (by intro e;subst e;simp at g),aP g]
theorem Mz (h:eK s f t b []=true) (h0:d≠[]) (g:¬4096<d.length):iQ s f t b d=match ra s f d with
  |none=>([],12)
  |some l=>if eK s f t b l=true then(l,0) else([],12):=by unfold iQ;rw[az uO,az h0,az g];cases ra s f d<;>rfl
theorem Znm (h:jM d=none):ra s f d=none:=by unfold ra;rw[h]
theorem Zav {fr:List (Nat×ax)} (h:jM d=some fr) (g:fr.length≠if s.1=3 then 1 else 2):ra s f d=none:=by
  unfold ra;rw[h];rcases fr with _|⟨p,r⟩;rfl;simp only;split
  . have : ∀ n, Yv s n r = none := λn => by
      unfold Yv;by_cases k:s.1=3;rw[aP k] at g⊢;rw[az (by intro e;subst e;exact g rfl)];rw[az k] at g⊢
      match r,g with
      |[],_=>rfl
      |[q],g=>exact absurd rfl g
      |_::_::_,_=>rfl
    rw[this];rfl
  rfl
theorem XK {p:Nat×ax} {r:List (Nat×ax)} (h:jM d=some (p::r)):ra s f d=if p.1=1/\(nO p.2 4096).2=0/\(nO p.2 4096).1≠[] then(Yv s (nO p.2 4096).1 r).map (iS f (nO p.2 4096).1) else none:=by unfold ra;rw[h]
theorem ZfD (g:s.1=3):Yv s n []=some (List.replicate n ⟨#[]⟩):=by unfold Yv;rw[aP g,aP rfl]
theorem Zc4 {q:Nat×ax} (g:s.1≠3):Yv s n [q]=if q.1=oP s/\(ow s q.2 n).2=0/\(ow s q.2 n).1=n then some (ow s q.2 n).1 else none:=by unfold Yv;rw[az g]
theorem Z7Z (f:Int) (h:ts=vs.length) {i:Nat} (hi:i<ts):(iS f ts vs).take (i+1)=(iS f ts vs).take i++[(ts[i]+f+1,vs[i]'O)]:=by have g:i<(iS f ts vs):=(by rw[XN f ts vs h];exact hi);rw[dD g];congr 2;simp[iS]
theorem Tl (f:Int) (k:∀v∈vs,v.size<=128):∀c∈iS f ts vs,c.2.size<=1099511627776:=by intro c g;obtain⟨i,hi,rfl⟩:=List.getElem_of_mem g;have l:i<vs:=(by unfold iS at hi;rw[Ak] at hi;omega);have e:((iS f ts vs)[i]).2=vs[i]:=(by simp[iS]);rw[e];have:=k _ (dr l);omega
theorem UG:∀ {l:List (Nat×ax)} {d:ax},ZZ l=some d->∀p∈l,p.2.length<=4096
 |[],_,_,p,g=>by cases g
 |q::l,d,h,p,g=>by unfold ZZ at h;rcases t:Zp q.1 q.2 with _|w;rw[t] at h;cases h;rw[t] at h;simp only at h;rcases y:ZZ l with _|x;rw[y] at h;cases h;rcases jx.1 g with rfl|g;have u:=YF (k:=p.1) (c:=p.2);rw[t] at u;exact of_decide_eq_true u.symm;exact UG y p g
theorem Ld {l:List (Nat×ax)} (h:jM d=some l):∀p∈l,p.2.length<=4096:=UG (J4 d aW h)
end Wv
namespace Go.Proofs.Y
open Wv Go.RowKit
section
variable{A:bS}{C d:ax}{b:aS}{fr:List (Nat×ax)}{n:Nat}{s:Int×Int}{w:au}
def ox (B:Nat) (w:au) (v:aJ) (l:List (Int×aS)):Prop:=∃A cap,v=.slice A l cap/\At w A (cv l)/\∀b o,A=some ⟨b,o,none⟩->B<=b
theorem ox.nil (B:Nat) (w:au):ox B w (.slice none 0 0) []:=⟨none,0,rfl,At.nil _ _,λ_ _ h=>by cases h⟩
def yh (w:au) (r:List (Int×aS)×Nat) (x:Ending) (w':au):Prop:=∃v,x=.returned (.tuple #[v,r.2])/\ox w w' v r.1/\Below w w w'
theorem Zmm (hd:d.length<=1000000) (h:jM d=none) (W:au):dt 84 #[bs d] W λx w'=>∃v,x=.returned (.tuple #[v,(12:Int)])/\Below W W w':=
 (R8 d hd W).mono λx w' g=>by unfold BQ at g;rw[h] at g;obtain⟨v,h1,_,k⟩:=g;exact⟨v,by simpa using h1,k⟩
theorem r_ (hd:d.length<=1000000) (h:jM d=some fr) (W:au):dt 84 #[bs d] W λx w'=>∃A cap,x=.returned (.tuple #[.slice A fr cap,(0:Int)])/\At w' A (mY fr)/\Below W W w':=
 (R8 d hd W).mono λx w' g=>by unfold BQ at g;rw[h] at g;obtain⟨v,h1,⟨A,cap,k,l⟩,p⟩:=g;subst k;exact⟨A,cap,by simpa using h1,l,p⟩
theorem Zp4 {k:Nat} (g:s.1≠3):Yv s n [(k,C)]=vA s k C n:=by rw[Zc4 g];unfold vA;simp only[Int.ofNat_inj]
theorem Zma {k:Int} {r:bd} (h:vA s k C n=some r):r=n/\∀v∈r,v.size<=128:=by
 unfold vA at h;split at h;.rename_i hc;injection h with h;subst h;exact⟨by have:=hc.2.2;omega,Zcy _ _ _⟩
 cases h
theorem ZkC {l:List Int} (g:At w A (bQ l)) (k:Nat) (h:k<l):∃b o,A=some ⟨b,o,none⟩/\b<w.heap.size/\w.cell? ⟨b,o+k,none⟩=some (.int .i64 l[k]):=
 g.get k _ (by unfold bQ;rw[jV,fD h];rfl)
theorem ZkD {l:bd} (g:At w A (bD l)) (k:Nat) (h:k<l):∃b o,A=some ⟨b,o,none⟩/\b<w.heap.size/\w.cell? ⟨b,o+k,none⟩=some (.string l[k]):=
 g.get k _ (by unfold bD;rw[jV,fD h];rfl)
theorem Zfh (a c f t:Int) (D:rm a c w) (p:b.size<=1099511627776) (d:ax) (hd:d.length<=1000000000) (B:eK (a,c) f t b []=false\/d=[]\/4096<d.length\/jM d=none):
  Calls prog 52 #[.agg #[a,c],f,t,b,bs d] w λx w'=>yh w (iQ (a,c) f t b d) x w':=by
 have Q:=J (λW (hb:Below w w W)=>Yk (l:=[]) (At.nil W none) a c f t (D.below hb) p (λx a4=>by cases a4) 0 0 rfl aZ);have a2:=J (λW h=>Dm (w:=w) (W:=W) (a:=a) (c:=c) h);unfold yh;cases g:eK (a,c) f t b [];rw[g] at Q;have E:=J (Znx (d:=d) g);generalize iQ (a,c) f t b d=R at*;generalize bs d=S at*;clear D p hd B g;exact IU;rw[g] at Q;have a0:=YZ d;have G:(bs d).size=d:=Z0 d;by_cases h0:d=[];subst h0;have E:=J (Znz g);generalize iQ (a,c) f t b []=R at*;rw[show bs ([]:ax)=⟨#[]⟩ from rfl];clear D p hd B g a0 G;exact IU;rw[cG h0] at a0;by_cases q:4096<d.length;have E:=J (Zny g q);have a3:(4096:Int)<((bs d).size:Int):=O;generalize iQ (a,c) f t b d=R at*;generalize bs d=S at*;clear D p hd B g h0 G q;exact IU;have M:jM d=none:=by rcases B with h|h|h|h;rw[g] at h;cases h;exact absurd h h0;exact absurd h q;exact h
 have E:Hid (iQ (a,c) f t b d=([],12)):=J (by rw[Mz g h0 q,Znm M]);have a3:¬(4096:Int)<((bs d).size:Int):=O;have k:=J (λW=>Zmm O M W);generalize iQ (a,c) f t b d=R at*;generalize bs d=S at*;clear D p hd B g h0 G q M;by_cases I:a=3;subst I;exact Oc;have a5:(a==3)=false:=(by rw[lN];exact I);clear I;exact Oc
theorem ZmO {α:Type} {l:List α} (h:l.length=2):∃p q,l=[p,q]:=by
 match l,h with
 |[p,q],_=>exact⟨p,q,rfl⟩
theorem Ts {W:au} {p:Addr} {v:aJ} (hb:Below w w W) (k:p.block<w) (g:w.cell? p=some v):W.cell? p=some v:=by rw[World.cell?_of_block (hb.block _ k)];exact g
theorem ZpM (a c k:Int) (n:Nat) (D:ax) (l:dF (a,c)=true) (g:a≠3) (hd:D.length<=1000000000):
  dt 85 #[.agg #[a,c],.agg #[k,bs D],n] w λx w'=>∃A m cap,x=.returned (.tuple #[.slice A m cap,.bool (vA (a,c) k D n).isSome])/\(∀r,vA (a,c) k D n=some r->m=r.length/\At w' A (bD r))/\Below w w w':=
 Zne a c k n D l g hd
theorem Zfi (a c f t:Int) (f6:rm a c w) (a1:b.size<=1099511627776) (d:ax) (d2:eK (a,c) f t b []=true) (h0:d≠[]) (d5:¬4096<d.length) (hu:jM d=some fr) (a7:a≠3):
  Calls prog 52 #[.agg #[a,c],f,t,b,bs d] w λx w'=>yh w (iQ (a,c) f t b d) x w':=by
 have g6:=J (λW (hb:Below w w W)=>Yk (l:=[]) (At.nil W none) a c f t (f6.below hb) a1 (λx l3=>by cases l3) 0 0 rfl aZ);rw[d2] at g6;have j5:=J (λW A cap (vs:bd) {ts:List Int} (l0:vs=ts.length) (l2:∀v∈vs,v.size<=128) (h:At W A (cv (iS f ts vs))) (hb:Below w w W) (n2:ts.length<=4096)=>Yk h a c f t (f6.below hb) a1 (Tl f l2) ts cap (by rw[XN f ts vs l0.symm]) O);have d3:=J (λW h=>Dm (w:=w) (W:=W) (a:=a) (c:=c) h);obtain⟨i6,i7,_⟩:=Xr.1 d2;obtain⟨i1,l5,l6⟩:=Ho.1 i7;have b7:Hid (-1<=f/\f<=1099511627776):=J ⟨i1,O⟩;have k2:=J i6;have k3:=YZ d;rw[cG h0] at k3;have n3:¬(4096:Int)<((bs d).size:Int):=Aw;have j3:=J (λW=>r_ O hu W);have a8:=J (Mz d2 h0 d5);unfold yh;generalize iQ (a,c) f t b d=R at*;generalize bs d=S at*;have m7:(a==3)=false:=(by rw[lN];exact a7);have k8:(a !=3)=true:=(by rw[kx];exact a7);clear f6 a1 d2 h0 d5 i6 i7 i1 l5 l6;go_in;go_wp21;refine aO (g6.o _ (d3.o _ (bi _ _)).2.2.1) λw1 c7=>?_;obtain⟨_,_,aa,_⟩:=d3.o _ c7;have h3:=J c7;clear c7 aa;go_wp21;refine(j3.o _).mono ?_;rintro x n5 ⟨A2,m9,rfl,I,aa⟩;have e9:=J (h3.o.trans (aa.mono h3.o.size));obtain⟨f9,g0,y,h6⟩:=d3.o _ e9.o;clear aa;by_cases b1:fr.length=2
 .obtain⟨p,q,rfl⟩:=ZmO b1;obtain⟨d4,D⟩:=q;obtain⟨k,C⟩:=p;obtain⟨d6,d9,rfl,e5,c0,c1⟩:=HH I 0 (by simp);obtain⟨k0,l9,f4,_,d0,f2⟩:=HH I 1 (by simp);injection f4 with f4;injection f4 with k5 k6;subst k5;subst k6;simp at d0 f2;simp at c0 c1;try simp only[f',vQ]
  have a3:=J hu;have b2:=Ld hu (k,C) fm;by_cases hk:k=1
  .subst hk;have f8:=J (λW=>Sv (w:=W) (bs C) Ro 4096);obtain⟨⟨ts,a4⟩,cS⟩:=ay (nO C 4096);rw[Zk,cS] at f8;unfold rh at f8;have b5:=J cS;have a6:=JD C 4096;rw[cS] at a6;generalize bs C=SC at*;have n0:=J y;clear I b2 y cS;go_wp21;refine(f8.o _).mono ?_;rintro x c9 ⟨v,rfl,⟨A3,m6,h8,M⟩,u⟩;try simp only at h8 M
   subst h8;have e8:=J (e9.o.trans (u.mono e9.o.size));obtain⟨f9,g0,Q,h6⟩:=d3.o _ e8.o;by_cases a2:a4=0
   .subst a2;by_cases a5:ts=[];exact NQ;have GW:((ts.length:Int)==0)=false:=by rw[lN];intro e;exact a5 (gx O)
    have f3:Zh ts=true/\ts.length<=4096:=Oo;have i9:Hid (ra (a,c) f d=(Yv (a,c) ts.length [(d4,D)]).map (iS f ts)):=J Rp;have c5:=J (λi (h:i<ts.length)=>(Ze.1 f3.1).2.1 ts[i] (dr h));have j9:=f3.2;have n1:=Y4 (P:=prog) 23 9 (.string ⟨#[]⟩) 16 underlying23 He rfl (ts.length:Int) ts rfl O O c9;have k1:=(Bk.new c9 9 (Array.replicate ts.length (.string ⟨#[]⟩))).at_;have d8:=e8.o.alloc e8.o.size (.cells (Array.replicate ts.length (.string ⟨#[]⟩)) 9);have i5:=M.below ((bi c9 c9).alloc aW (.cells (Array.replicate ts.length (.string ⟨#[]⟩)) 9));have g5:=J u;clear u a6 M a5 f3;have h7:=Ld a3.o (d4,D) (by simp);have g8:=J (λW=>ZpM (w:=W) a c (d4:Int) ts D k2.o a7 (by show D.length<=_;have:D.length<=4096:=h7;omega));obtain⟨c6,d7⟩:=ay (vA (a,c) (d4:Int) D ts);rw[d7] at g8;have e7:Hid (Yv (a,c) ts.length [(d4,D)]=c6):=J (by rw[Zp4 a7];exact d7);have g9:Hid (∀r,c6=some r->r.length=ts.length/\∀v∈r,v.size<=128):=J (λr l1=>Zma (d7.trans l1));have g3:=(g5.o.trans ((bi c9 c9).alloc aW (.cells (Array.replicate ts.length (.string ⟨#[]⟩)) 9)|>.mono g5.o.size)).drew;have g1:∀X,Below (c9.alloc (.cells (Array.replicate ts.length (.string ⟨#[]⟩)) 9)).drew (c9.alloc (.cells (Array.replicate ts.length (.string ⟨#[]⟩)) 9)).drew X->X.cell? (w,0)=some (.int .i64 a)/\X.cell? (w,1)=some (.int .i64 c)/\X.cell? (d6,d9+2)=some (.int .i64 (d4:Int))/\X.cell? (d6,d9+3)=some (.string (bs D)):=λX h=>by have g:=d3.o X (d8.drew.trans (h.mono d8.drew.size));have i4:=g3.trans (h.mono g3.size);exact⟨g.1,g.2.1,Ts i4 e5 d0,Ts i4 e5 f2⟩
    have m1:=J g1;have h0:=g1 _ (bi _ _);have j0:=J d8.drew;have j6:=J i5;generalize bs D=SD at*;clear d7 h7 g3 g1 d8 i5 Q k1 c0 c1 d0 f2;go_wp2;generalize c9.alloc (.cells (Array.replicate ts.length (.string ⟨#[]⟩)) 9)=wM at*
    go_region_held3 (λX=>X.cell? (w,0)=some (.int .i64 a)/\X.cell? (w,1)=some (.int .i64 c)/\X.cell? (d6,d9+2)=some (.int .i64 (d4:Int))/\X.cell? (d6,d9+3)=some (.string SD)) (first|with_reducible assumption) (first
     |(go_at_call 85;with_reducible refine(g8.o _).mono ?_;rintro r m5 ⟨A4,l8,n4,rfl,d5,Q⟩;have e4:=J d5;have k4:=m1.o _ Q;have h5:=J Q;clear d5 Q));have b0:=J (j0.o.trans (h5.o.mono j0.o.size));have b9:=J (j6.o.drew.below h5.o);clear h0 k4 h6 f9 g0 e5;have f7:=d3.o _ b0.o;rcases c6 with _|vs;.have E:Hid (R=([],12)):=J (by rw[a8.o,i9.o,e7.o];rfl);clear e4;have j8:=f7.2.2.1;clear f7;simp only[Option.isSome_none];go_wp2;go_returns;exact⟨_,yN,by rw[E.o];exact ox.nil _ _,j8⟩
    clear f7;obtain⟨i8,g7⟩:=e4.o vs rfl;obtain⟨d2,i0⟩:=g9.o vs rfl;obtain⟨c3,z,m2,j7⟩:=dm g7 d2 i0 e7.o;have j4:l8=ts:=i8.trans d2;subst j4;clear i8 g7 d2 i0 e4 g9 e7;simp only[Option.isSome_some];go_wp2;generalize m5=wL at*;go_loopw [19,92] (λm3 e3 wr=>∃i:Nat,i<=ts.length/\e3=(i:Int)/\Hid (wr.ownsRow wL 81 2 m3 i (cv ((iS f ts vs).take i)))/\Hid (Below wL wL wr)) (λ_ e3 _=>(ts.length-intOf e3).toNat);exact EW;obtain⟨i,hi,rfl,a9,hb⟩:=hrel;obtain⟨g4,l7,rfl,c8⟩:=Zi a9.o;have k7:=J (b0.o.trans (hb.o.mono b0.o.size));obtain⟨f9,g0,F,m8⟩:=d3.o _ k7.o;by_cases ab:i<ts.length;exact Nu;have a0:i=ts.length:=O;subst a0;rw[dU (by rw[XN f ts vs z.o.symm];exact aW)] at c8;obtain⟨b4,f5,c4,b3⟩:=dm (j5.o wr g4 l7 vs z.o m2.o c8 F j9) c8 (λb o (k:g4=some ⟨b,o,none⟩)=>(OQ:w.heap.size<=b)) F;have b6:Hid (R=if eK (a,c) f t b (iS f ts vs)=true then(iS f ts vs,0) else([],12)):=J (by rw[a8.o,i9.o,j7.o];rfl);have b8:=J (XN f ts vs z.o.symm);obtain⟨B,G⟩:=ay (eK (a,c) f t b (iS f ts vs));exact N4
   exact NG
  exact NI
 have E:Hid (R=([],12)):=J P';have k9:((fr.length:Int) !=2)=true:=fb;exact OO
theorem Zjx (c f t:Int) (c7:rm 3 c w) (a1:b.size<=1099511627776) (d:ax) (d4:eK (3,c) f t b []=true) (h0:d≠[]) (e7:¬4096<d.length) (hu:jM d=some fr):
  Calls prog 52 #[.agg #[(3:Int),c],f,t,b,bs d] w λx w'=>yh w (iQ (3,c) f t b d) x w':=by
 have e3:=J (λW (hb:Below w w W)=>Yk (l:=[]) (At.nil W none) 3 c f t (c7.below hb) a1 (λx g7=>by cases g7) 0 0 rfl aZ);rw[d4] at e3;have f8:=J (λW A cap (vs:bd) {ts:List Int} (g5:vs=ts.length) (g6:∀v∈vs,v.size<=128) (h:At W A (cv (iS f ts vs))) (hb:Below w w W) (j0:ts.length<=4096)=>Yk h 3 c f t (c7.below hb) a1 (Tl f g6) ts cap (by rw[XN f ts vs g5.symm]) O);have d1:=J (λW h=>Dm (w:=w) (W:=W) (a:=3) (c:=c) h);obtain⟨f2,f3,_⟩:=Xr.1 d4;obtain⟨i1,g8,g9⟩:=Ho.1 f3;have b7:Hid (-1<=f/\f<=1099511627776):=J ⟨i1,O⟩;have i9:=J f2;have g1:=YZ d;rw[cG h0] at g1;have j3:¬(4096:Int)<((bs d).size:Int):=Aw;have f7:=J (λW=>r_ O hu W);have a8:=J (Mz d4 h0 e7);unfold yh;generalize iQ (3,c) f t b d=R at*;generalize bs d=S at*

 clear c7 a1 d4 h0 e7 f2 f3 i1 g8 g9;go_in;go_wp21;refine aO (e3.o _ (d1.o _ (bi _ _)).2.2.1) λw1 c6=>?_;obtain⟨_,_,aa,_⟩:=d1.o _ c6;have e4:=J c6;clear c6 aa;go_wp21;refine(f7.o _).mono ?_;rintro x j5 ⟨A2,i5,rfl,I,aa⟩;have d6:=J (e4.o.trans (aa.mono e4.o.size));obtain⟨f4,f6,y,g3⟩:=d1.o _ d6.o;clear aa;by_cases b1:fr.length=1
 .obtain⟨p,rfl⟩:=List.length_eq_one_iff.1 b1;obtain⟨k,C⟩:=p;obtain⟨i7,j4,rfl,i0,c0,c1⟩:=HH I 0 (by simp);skip;simp at c0 c1;try simp only[f',vQ]
  have a3:=J hu;have b2:=Ld hu (k,C) fm;by_cases hk:k=1
  .subst hk;have d9:=J (λW=>Sv (w:=W) (bs C) Ro 4096);obtain⟨⟨ts,a4⟩,cS⟩:=ay (nO C 4096);rw[Zk,cS] at d9;unfold rh at d9;have b5:=J cS;have a6:=JD C 4096;rw[cS] at a6;generalize bs C=SC at*;have i6:=J y;clear I b2 y cS;go_wp21;refine(d9.o _).mono ?_;rintro x c9 ⟨v,rfl,⟨A3,h8,e5,M⟩,u⟩;try simp only at e5 M
   subst e5;have d3:=J (d6.o.trans (u.mono d6.o.size));obtain⟨f4,f6,Q,g3⟩:=d1.o _ d3.o;by_cases a2:a4=0
   .subst a2;by_cases a5:ts=[];exact NQ;have GW:((ts.length:Int)==0)=false:=by rw[lN];intro e;exact a5 (gx O)
    have d8:Zh ts=true/\ts.length<=4096:=Oo;have h7:Hid (ra (3,c) f d=(Yv (3,c) ts.length []).map (iS f ts)):=J Rp;have c5:=J (λi (h:i<ts.length)=>(Ze.1 d8.1).2.1 ts[i] (dr h));have g0:=d8.2;have i8:=Y4 (P:=prog) 23 9 (.string ⟨#[]⟩) 16 underlying23 He rfl (ts.length:Int) ts rfl O O c9;have d7:=(Bk.new c9 9 (Array.replicate ts.length (.string ⟨#[]⟩))).at_;have e9:=d3.o.alloc d3.o.size (.cells (Array.replicate ts.length (.string ⟨#[]⟩)) 9);have e8:=M.below ((bi c9 c9).alloc aW (.cells (Array.replicate ts.length (.string ⟨#[]⟩)) 9));clear u a6 M a5 d8;obtain⟨vs,d2⟩:∃vs:bd,vs=List.replicate ts.length ⟨#[]⟩:=⟨_,rfl⟩;have e2:(Array.replicate ts.length (Value.string ⟨#[]⟩)).toList=bD vs:=(by rw[d2];unfold bD;rw[List.map_replicate,Array.toList_replicate];rfl);rw[e2] at d7;have c3:=J d7;have z:Hid (vs=ts.length):=J (by rw[d2,iK]);have h5:Hid (∀v∈vs,v.size<=128):=J (λv c7=>by rw[d2] at c7;rw[(Ck.1 c7).2];decide);have f9:Hid (Yv (3,c) ts.length []=some vs):=J (by rw[d2];exact ZfD rfl);have b9:=J e8;have b0:=J e9;clear d7 e8 e9 e2 d2 Q;go_wp2;generalize c9.alloc (.cells (Array.replicate ts.length (.string ⟨#[]⟩)) 9)=wL at*;generalize (some (⟨c9.heap.size,0,none⟩:Addr))=AV at*;clear d3;go_loopw [19,92] (λh6 d5 wr=>∃i:Nat,i<=ts.length/\d5=(i:Int)/\Hid (wr.ownsRow wL 81 2 h6 i (cv ((iS f ts vs).take i)))/\Hid (Below wL wL wr)) (λ_ d5 _=>(ts.length-intOf d5).toNat);exact EW;obtain⟨i,hi,rfl,a9,hb⟩:=hrel;obtain⟨e1,h3,rfl,c8⟩:=Zi a9.o;have g2:=J (b0.o.trans (hb.o.mono b0.o.size));obtain⟨f4,f6,F,i4⟩:=d1.o _ g2.o;by_cases ab:i<ts.length;exact Nu;have a0:i=ts.length:=O;subst a0;rw[dU (by rw[XN f ts vs z.o.symm];exact aW)] at c8;obtain⟨b4,f5,c4,b3⟩:=dm (f8.o wr e1 h3 vs z.o h5.o c8 F g0) c8 (λb o (k:e1=some ⟨b,o,none⟩)=>(OQ:w.heap.size<=b)) F;have b6:Hid (R=if eK (3,c) f t b (iS f ts vs)=true then(iS f ts vs,0) else([],12)):=J (by rw[a8.o,h7.o,f9.o];rfl);have b8:=J (XN f ts vs z.o.symm);obtain⟨B,G⟩:=ay (eK (3,c) f t b (iS f ts vs));exact N4
   exact NG
  exact NI
 have E:Hid (R=([],12)):=J P';have g4:((fr.length:Int) !=1)=true:=fb;exact OO
theorem ZbX (a c f t:Int) (k:rm a c w) (g:b.size<=1099511627776) (d:ax) (hd:d.length<=1000000000):
  dt 52 #[.agg #[a,c],f,t,b,bs d] w λx w'=>yh w (iQ (a,c) f t b d) x w':=by by_cases h:eK (a,c) f t b []=false\/d=[]\/4096<d.length\/jM d=none;exact Zfh a c f t k g d hd h;have h1:eK (a,c) f t b []=true:=(by cases u:eK (a,c) f t b []<;>simp_all);have h0:d≠[]:=λe=>h (.inr (.inl e));have p:¬4096<d.length:=λe=>h (.inr (.inr (.inl e)));obtain⟨fr,q⟩:∃fr,jM d=some fr:=Option.ne_none_iff_exists'.1 (λe=>h (.inr (.inr (.inr e))));by_cases l:a=3;subst l;exact Zjx c f t k g d h1 h0 p q;exact Zfi a c f t k g d h1 h0 p q l
end
variable{A1 A2 A3:bS}{B k k1 k2 k3:Nat}{b:Int}{w:au}
structure wR (w:World) (B:Nat) (c:ev) (A1:Option Addr) (k1:Nat) (A2:Option Addr) (k2:Nat) (A3:Option Addr) (k3:Nat):Prop where
 bk:Bk w B 27 (eN c.f c.t A1 c.vs.length k1 A2 c.ch.length k2 A3 c.gaps.length k3)
 v:At w A1 (dZ c.vs)
 h:kW w A2 c.ch
 g:At w A3 (pv c.gaps)
theorem wR.below {w':au} {c:ev} (h:wR w B c A1 k1 A2 k2 A3 k3) (hb:Below w w w'):wR w' B c A1 k1 A2 k2 A3 k3:=⟨h.bk.below hb h.bk.lt,h.v.below hb,h.h.below hb,h.g.below hb⟩
structure tK (c:ev):Prop where
 f:kD c.f
 t:kD c.t
 v:c.vs.length<=9223372036854775807
 h:c.ch.length<=9223372036854775807
 g:c.gaps.length<=9223372036854775807
 vs:∀s∈c.vs,s.size<=1099511627776
 ch:∀l∈c.ch,l.length<=9223372036854775807/\∀x∈l,x.2.size<=1099511627776
theorem Zjs {c:ev} (h:wR w B c A1 k1 A2 k2 A3 k3) (q:tK c) (i:Nat) (I:i<c.vs) (D:i<c.ch) (a b:Int) (a2:rm a b w):
  Calls prog 36 #[i,.agg #[a,b],(B,0)] w (bN w (eK (a,b) c.f c.t (jN c.vs i) (gi c.ch i))):=by have p:=(bi w w).alloc aW (.cells #[a,b] 68);have h1:=h.below p;have E:=h1.bk.cell 0;have q1:=h1.bk.cell 1;have q2:=h1.bk.cell 2;have q3:=h1.bk.cell 3;simp at E q1 q2 q3;obtain⟨b1,k,rfl,b3,c1⟩:=XO h1.v i I;obtain⟨g,l,G,u,rfl,l2,c2,a1⟩:=h1.h i D;have S:=q.vs _ (dr I);obtain⟨a0,a4⟩:=q.ch _ (dr D);rw[show jN c.vs i=c.vs[i] from ZO _ I,show gi c.ch i=c.ch[i] from ZO _ D];have z:=(bi (w.alloc (.cells #[a,b] 68)) (w.alloc (.cells #[a,b] 68))).drew;have a8:=J (Yk (a1.below z) a b c.f c.t ((a2.below p).below z) S a4 c.ch[i].length u rfl a0);have Q:=J (p.trans (z.mono p.size));have i0:(0:Int)<=i:=O;have i1:(i:Int)<c.vs:=O;have b6:(i:Int)<c.ch:=O;have b8:=q.v;have b9:=q.h;have y:=h1.bk.lt;have b7:(w.alloc (.cells #[a,b] 68))=w.heap.size+1:=(by simp);clear h h1 q a2 a1 S a0 a4 p z;generalize eK (a,b) c.f c.t c.vs[i] c.ch[i]=R at*;generalize c.vs[i]=s at*;generalize c.ch[i].length=nl at*;obtain⟨f,t,vs,ch,b0⟩:=c;simp only at*;generalize vs.length=nv at*;generalize ch.length=nc at*;generalize b0.length=ng at*;have a5:(w.alloc (.cells #[a,b] 68)).cell? (w,0)=a:=(Bk.new w 68 #[a,b]).cell 0;have a6:(w.alloc (.cells #[a,b] 68)).cell? (w,1)=b:=(Bk.new w 68 #[a,b]).cell 1;have a3:w<(w.alloc (.cells #[a,b] 68)).heap.size:=O;have b5:(w.alloc (.cells #[a,b] 68)).drew.cell? (w,0)=a/\(w.alloc (.cells #[a,b] 68)).drew.cell? (w,1)=b/\(w.alloc (.cells #[a,b] 68)).drew.cell? (B,0)=f/\(w.alloc (.cells #[a,b] 68)).drew.cell? (B,1)=t/\(w.alloc (.cells #[a,b] 68)).drew.cell? (B,2)=some (.slice (some (b1,k)) nv k1)/\(w.alloc (.cells #[a,b] 68)).drew.cell? (B,3)=some (.slice (some (g,l)) nc k2)/\(w.alloc (.cells #[a,b] 68)).drew.cell? (b1,k+i)=s/\(w.alloc (.cells #[a,b] 68)).drew.cell? (g,l+i)=(G,nl,u):=⟨a5,a6,E,q1,q2,q3,c1,c2⟩;have a7:Hid (∀W,Below (w.alloc (.cells #[a,b] 68)).drew (w.alloc (.cells #[a,b] 68)).drew W->W.cell? (w,0)=some (.int .i64 a)/\W.cell? (w,1)=some (.int .i64 b)/\W.cell? (B,0)=some (.int .i64 f)/\W.cell? (B,1)=some (.int .i64 t)/\W.cell? (B,2)=some (.slice (some (b1,k)) nv k1)/\W.cell? (B,3)=some (.slice (some (g,l)) nc k2)/\W.cell? (b1,k+i)=some (.string s)/\W.cell? (g,l+i)=some (.slice G nl u)):=J (λW hb=>⟨Below.cellAt hb a3 a5,Below.cellAt hb a3 a6,Below.cellAt hb y E,Below.cellAt hb y q1,Below.cellAt hb y q2,Below.cellAt hb y q3,Below.cellAt hb b3 c1,Below.cellAt hb l2 c2⟩);go_in;go_wp2;go_region_held3 (λW=>W.cell? (w,0)=some (.int .i64 a)/\W.cell? (w,1)=some (.int .i64 b)/\W.cell? (B,0)=some (.int .i64 f)/\W.cell? (B,1)=some (.int .i64 t)/\W.cell? (B,2)=some (.slice (some (b1,k)) nv k1)/\W.cell? (B,3)=some (.slice (some (g,l)) nc k2)/\W.cell? (b1,k+i)=some (.string s)/\W.cell? (g,l+i)=some (.slice G nl u)) (first|with_reducible assumption) ((go_at_call 29;with_reducible refine(a8.o).mono ?_;rintro x w1 ⟨rfl,M⟩;have b4:=a7.o _ M;have F:=J (Q.o.trans (M.mono Q.o.size))));exact EY
theorem Zfr (a c f t:Int) (w:au):Calls prog 75 #[.agg #[a,c],f,t,(0:Int)] w (bN w (.tuple #[.slice none 0 0,(1:Int)])):=by
 have g:=J ((bi w w).alloc aW (.cells #[a,c] 68));have k:=J (λW=>WB a c f t W);generalize (dF (a,c)&&sB f t)=B at*
 cases B<;>(
  go_in;go_wp21;refine gO (k.o _) g λw1 l=>?_;clear g;go_wp2;go_returns;exact⟨rfl,l.o⟩)
theorem Zjz (a c f t:Int) (S:aS) (w:au):Calls prog 51 #[.agg #[a,c],f,t,(0:Int),S] w (bN w (.tuple #[.slice none 0 0,(1:Int)])):=by have g:=J ((bi w w).alloc aW (.cells #[a,c] 68));have k:=J (λW=>Zfr a c f t W);go_in;go_wp21;refine gO (k.o _) g λw1 F=>?_;clear g;exact EY
theorem Zjt {c:ev} (h:wR w B c A1 k1 A2 k2 A3 k3) (y:tK c) (i:Nat) (u:i<c.ch) (a b:Int) {N:Nat} {m:Int} (q:Bk w N 3 #[m]) (a6:0<=m) (a0:m<=1000000) (M:(gi c.ch i).length<=4611686018427387904):
  Calls prog 37 #[i,.agg #[a,b],(N,0),(B,0)] w λx w'=>x=.returned (decide (m+((gi c.ch i).length:Int)<=4096))/\Bk w' N 3 #[(m+(gi c.ch i).length:Int)]/\Fr (only N) w w':=by
 have l:=(bi w w).alloc aW (.cells #[a,b] 68);have h1:=h.below l;have g:=q.below l q.lt;have q3:=h1.bk.cell 3;have Q:=g.cell 0;have F:=g.frozen 0;simp at q3 Q F;obtain⟨R,a7,G,a2,rfl,l2,c2,I⟩:=h1.h i u;rw[show gi c.ch i=c.ch[i] from ZO _ u] at M⊢;clear I;have i0:(0:Int)<=i:=O;have a1:(i:Int)<c.ch:=O;have a5:=y.h;have z:=J g;have E:=J ((Fr.refl (only N) w).alloc (.cells #[a,b] 68));have a3:=h1.bk.lt;have a4:=g.lt;generalize c.ch[i].length=k at*;have j1:IntKind.i64.wrap (m+(k:Int))=m+(k:Int):=lP;clear h h1 y q g l;clear u;obtain⟨f,t,vs,ch,S⟩:=c;simp only at*;generalize ch.length=nc at*;have D:Hid (Bk ((w.alloc (.cells #[a,b] 68)).setCell (N,0) (m+(k:Int):Int)) N 3 #[(m+(k:Int):Int)]):=J (by simpa using z.o.put 0 (m+(k:Int):Int));go_in;go_wp2;go_region
 all_goals
  go_wp2;go_returns;exact⟨rfl,D.o,(E.o.setCell (p:=⟨N,0,none⟩) (.inl rfl) _).drew⟩
def xY (b:Int) (v:aS) (l:List d') (g:Int×Int):Bool:=decide (tg v l g.1=bs (List.replicate b.toNat 120))&&l.all λx=> !(decide (g.1<x.1)&&decide (x.1<g.2))
theorem ZiP (g:List (Int×Int)) (a b:Int) (v:aS) (l:List d'):Bz g (a,b) v l=(!decide (a=0)||g.all (xY b v l)):=rfl
theorem Zop (h1:1<=b) (g:b<=128):mE b 120=List.replicate b.toNat 120:=by unfold mE;rw[az];rintro(h|h|h);exact O;exact O;revert h;decide
abbrev vK (X:au) (B G H nv nc ng:Nat) (f t x b:Int) (A1:bS) (k1:Nat) (A2:bS) (k2:Nat) (A3:bS) (k3:Nat) (W:au):Prop:=
 (W.cell? ⟨B,0,none⟩=f/\W.cell? ⟨B,1,none⟩=t/\W.cell? ⟨B,2,none⟩=some (.slice A1 nv k1)/\W.cell? ⟨B,3,none⟩=some (.slice A2 nc k2)/\W.cell? ⟨B,4,none⟩=some (.slice A3 ng k3)/\W.cell? ⟨G,0,none⟩=x/\W.cell? ⟨H,1,none⟩=b/\Below X X W)
theorem vK.below {X:au} {G H l nc k:Nat} {f t x:Int} {W W':au} (h:vK X B G H l nc k f t x b A1 k1 A2 k2 A3 k3 W) (D:B<X) (E:G<X) (F:H<X) (hb:Below W W W'):vK X B G H l nc k f t x b A1 k1 A2 k2 A3 k3 W':=by obtain⟨h0,h1,p,q,u,y,z,g⟩:=h;have s:=g.size;exact⟨Below.cellAt hb aI h0,Below.cellAt hb aI h1,Below.cellAt hb aI p,Below.cellAt hb aI q,Below.cellAt hb aI u,Below.cellAt hb aI y,Below.cellAt hb aI z,g.trans (hb.mono s)⟩
def BF (n:Nat) (c:ev):Bool:=c.vs.all (λs=>decide ((s.size:Int)<=150))&&c.ch.all (λl=>tw l 30)&&((decide ((n:Int)<=8)&&decide ((c.vs.length:Int)<=10))&&decide ((c.ch.length:Int)<=10)&&decide ((c.gaps.length:Int)<=20))
theorem HF {α:Type} {p:α->Bool} {l:List α} (h:k<l) (g:p l[k]=false):l.all p=false:=by rw[IE];exact⟨l[k],dr h,by rw[g];decide⟩
theorem Gz {α:Type} {p:α->Bool} {l:List α} (h:k<l) (g:(l.take k).all p=true) (q:p l[k]=true):(l.take (k+1)).all p=true:=by rw[dD h,List.all_append,g];simp[q]
theorem ZfU {c:ev} (h1:At w A1 (dZ c.vs)) (b7:kW w A2 c.ch) (d8:c.vs.length<=9223372036854775807) (d7:c.ch.length<=9223372036854775807) (b9:∀l∈c.ch,l.length<=9223372036854775807) (A:bS) (n cap:Nat):
  Calls prog 10 #[(A,n,cap),.agg (eN c.f c.t A1 c.vs k1 A2 c.ch k2 A3 c.gaps k3)] w (bN w (BF n c)):=by
 obtain⟨f,t,vs,ch,I⟩:=c;simp only[eN] at*;have Q:=(bi w w).alloc aW (.cells (eN f t A1 vs k1 A2 ch k2 A3 I k3) 27);obtain⟨a9,b0,M⟩:=bF (h1.below Q) (b7.below Q) Q;have y:Hid (BF n ⟨f,t,vs,ch,I⟩=(vs.all (λs=>decide ((s.size:Int)<=150))&&ch.all (λl=>tw l 30)&&((decide ((n:Int)<=8)&&decide ((vs.length:Int)<=10))&&decide ((ch.length:Int)<=10)&&decide ((I.length:Int)<=20)))):=J rfl;obtain⟨D,E⟩:=ay vs.length;obtain⟨nc,z⟩:=ay ch.length;obtain⟨a6,a0⟩:=ay I.length;rw[E,z,a0] at y;have c4:=J (λ(W:au) i (hi:i<ch.length) B kB (d6:At W B (cv ch[i]))=>ZjL d6 ch[i].length kB rfl (b9 _ (dr hi)) 30);rw[E] at d8;rw[z] at d7;generalize BF n ⟨f,t,vs,ch,I⟩=R at*;have b5:=J E;have b4:=J z;rw[E,z,a0] at M⊢;rw[E,z,a0] at a9 b0;clear h1 b7 Q b9 E z a0;go_in;go_wp2;go_loopw [5] (λa7 wr=>∃k:Nat,k<=D/\a7=k/\Hid ((vs.take k).all (λs=>decide ((s.size:Int)<=150))=true)/\wr=w.alloc (.cells (eN f t A1 D k1 A2 nc k2 A3 a6 k3) 27)) (λa7 _=>(D-intOf a7).toNat);exact⟨0,cf _,rfl,J rfl,rfl⟩;obtain⟨k,e5,rfl,g,rfl⟩:=hrel;by_cases ab:k<D
 .have a5:k<vs:=(by rw[b5.o];exact ab);obtain⟨b1,e9,rfl,e8,c1⟩:=XO a9.o k a5;have e2:(0:Int)<=k:=O;have e3:(k:Int)<D:=O;have q:=λh=>HF (p:=λs:aS=>decide ((s.size:Int)<=150)) a5 h;have u:=λh=>Gz (p:=λs:aS=>decide ((s.size:Int)<=150)) a5 g.o h;generalize vs[k]=s at*;by_cases e6:(150:Int)<s.size;.have a3:Hid (R=false):=J (by rw[y.o,q (cG O)];rfl);clear q u;go_wp2;go_returns;exact⟨Z4 a3.o.symm,M.o⟩
  have a2:=J (u (cT O));clear q u;go_wp2;refine⟨⟨k+1,ab,ck,a2,Fg⟩,?_⟩;simp[intOf]<;>omega
 have c5:k=D:=O;subst c5;have a4:Hid (vs.all (λs=>decide ((s.size:Int)<=150))=true):=J (by have:=g.o;rw[dU (by rw[b5.o];exact aW)] at this;exact this);clear g;go_wp2;go_loopw [6] (λa8 wr=>∃j:Nat,j<=nc/\a8=j/\Hid ((ch.take j).all (λl=>tw l 30)=true)/\wr=w.alloc (.cells (eN f t A1 k k1 A2 nc k2 A3 a6 k3) 27)) (λa8 _=>(nc-intOf a8).toNat);exact⟨0,cf _,rfl,J rfl,rfl⟩;obtain⟨j,e4,rfl,g,rfl⟩:=hrel;by_cases b6:j<nc
 .have S:j<ch:=(by rw[b4.o];exact b6);obtain⟨e1,f2,G,d9,rfl,l2,c2,b8⟩:=b0.o j S;have e7:(0:Int)<=j:=O;have c3:(j:Int)<nc:=O;have a1:=J (c4.o _ j S G d9 b8);have q:=λh=>HF (p:=λl:List d'=>tw l 30) S h;have u:=λh=>Gz (p:=λl:List d'=>tw l 30) S g.o h;generalize tw ch[j] 30=F at*;clear b8;generalize ch[j].length=nl at*;go_wp21;refine cq a1.o ?_;cases F;.have a3:Hid (R=false):=J (by rw[y.o,a4.o,q rfl];rfl);clear q u;go_wp2;go_returns;exact⟨Z4 a3.o.symm,M.o⟩
  have a2:=J (u rfl);clear q u;go_wp2;refine⟨⟨j+1,b6,ck,a2,Fg⟩,?_⟩;simp[intOf]<;>omega
 have d5:j=nc:=O;subst d5;have b3:Hid (ch.all (λl=>tw l 30)=true):=J (by have:=g.o;rw[dU (by rw[b4.o];exact aW)] at this;exact this);rw[a4.o,b3.o] at y;clear g b3 a4
 by_cases c6:(n:Int)<=8<;>by_cases c7:(k:Int)<=10<;>by_cases c8:(j:Int)<=10<;>by_cases c9:(a6:Int)<=20<;>(
  simp only[c6,c7,c8,c9,decide_true,decide_false,Bool.and_true,Bool.and_false,Bool.false_and,Bool.true_and] at y;go_wp2;go_returns;exact⟨Z4 y.o.symm,M.o⟩)
