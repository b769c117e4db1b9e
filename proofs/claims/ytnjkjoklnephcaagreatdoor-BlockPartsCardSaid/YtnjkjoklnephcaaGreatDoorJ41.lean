import Derived.Test.YtnjkjoklnephcaaGreatDoorJ36
import Derived.Test.YtnjkjoklnephcaaGreatDoorJ21
import Derived.Test.YtnjkjoklnephcaaGreatDoorJ26
import Derived.Test.YtnjkjoklnephcaaGreatDoorJ38
set_option linter.all false
set_option maxRecDepth 100000
set_option maxHeartbeats 0
open Go.Proofs.Tryz (prog underlying125 underlying23)
section
variable{P Q:Prop}
theorem Rj(h:P:=by rw[XG u.o,b5.o];exact aQ ⟨rfl,rfl,a5⟩):P:=h
theorem P'{P:Prop}(h:P:=by rw[Z0];show C.length<=_;have:C.length<=4096:=b2;omega):P:=h
theorem PW(h:P:=by rw[a9.o,Zan hu (by first|(rw[aQ rfl];exact b1)|(rw[aD a7];exact b1))]):P:=h
theorem OC(h:P:=by have h1:=b0.o.size;have h2:=(a8.o.lt b (by rw[k];rfl)).1;rw[World.size_alloc] at h1;omega):P:=h
theorem OA(h:P:=by clear b1 a2 hu;go_wp2;go_returns;exact⟨_,by rw[E.o];rfl,by rw[E.o];exact qv.nil _ _,M⟩):P:=h
theorem Od(h:P:=by rcases a6 with (h|h)|⟨l,h,_,h2,_,a7⟩;injection h with h _;exact absurd h a5;injection h with h _;exact absurd h a5;injection h with h _;subst h;exact⟨h2,(Zd.1 h2).2.2⟩):P:=h
theorem Oc(h:P:=by simp only[a4];clear M q a1 G F a3 E;go_in;go_wp21;refine aP (a0.o _ (a2.o _ (bf _ _)).2.2.1) λw1 z=>?_;obtain⟨_,_,aa,_⟩:=a2.o _ z;go_wp2;go_returns;exact⟨rfl,aa⟩):P:=h
theorem IM(h:P:=by go_in;go_wp21;refine aP (a0.o _ (a2.o _ (bf _ _)).2.2.1) λw1 z=>?_;obtain⟨_,_,aa,_⟩:=a2.o _ z;go_wp2;go_returns;exact⟨_,by rw[E.o];rfl,by rw[E.o];exact qv.nil _ _,aa⟩):P:=h
theorem NI(h:P:=by subst a5;have E:Hid (R=([],12)):=J (by rw[a9.o,XG u.o,b5.o];rw[aD (λh=>h.2.2 rfl)]);simp only[xa];clear F an a6;go_wp2;go_returns;exact⟨_,by rw[E.o];rfl,by rw[E.o];exact qv.nil _ _,a0⟩):P:=h
theorem NB(h:P:=by have E:Hid (R=([],12)):=J (by rw[a9.o,XG u.o];rw[aD (λh=>y h.1)]);have D:((k:Int) !=1)=true:=(by rw[kx];omega);clear y a2 b2;go_wp2;go_returns;exact⟨_,by rw[E.o];rfl,by rw[E.o];exact qv.nil _ _,M⟩):P:=h
theorem Nz(h:P:=by have E:Hid (R=([],12)):=J (by rw[a9.o,XG u.o,b5.o];rw[aD (λh=>I h.2.1)]);have y:((a4:Int) !=0)=true:=(by rw[kx];omega);clear F an a6 I;go_wp2;go_returns;exact⟨_,by rw[E.o];rfl,by rw[E.o];exact qv.nil _ _,a0⟩):P:=h
theorem N3(h:P:=by go_in;go_wp21;refine aP (a0.o _ (a2.o _ (bf _ _)).2.2.1) λw1 z=>?_;obtain⟨_,_,aa,_⟩:=a2.o _ z;have y:=J z;clear z aa;go_wp21;refine(k.o _).mono ?_;rintro x w2 ⟨v,rfl,aa⟩;have Q:=J (y.o.trans (aa.mono y.o.size));obtain⟨u,z1,M,_⟩:=a2.o _ Q.o;clear aa;go_wp2;go_returns;exact⟨_,by rw[E.o];rfl,by rw[E.o];exact qv.nil _ _,M⟩):P:=h
theorem NW(h:P:=by
 rw[G] at b4 b6;clear a8 c9 a3 G;cases B;.have E:Hid (R=([],12)):=J (by rw[b6.o];rfl);go_wp21;refine ij b4.o b3 λl g=>?_;go_wp2;go_returns;exact⟨_,by rw[E.o];rfl,by rw[E.o];exact qv.nil _ _,g.o⟩
 have E:Hid (R=(iU f ts vs,0)):=J (by rw[b6.o];rfl);go_wp21;refine aP b4.o λl a1=>?_;have g:=J (b3.o.trans (a1.mono b3.o.size));have k:=J (f4.o.below a1);clear a1;go_wp2;go_returns;exact⟨_,by rw[E.o];rfl,by rw[E.o];exact⟨_,_,by rw[b7.o];rfl,k.o,c5.o⟩,g.o⟩):P:=h
theorem Nl(h:P:=by
 obtain⟨l,G,rfl,q,t0⟩:=Zkv (b9.o.below hb.o) i ab;obtain⟨p,I,rfl,u,a0⟩:=Zkw (c3.o.below hb.o) i (by rw[z.o];exact ab);have g:=Z7S f (ts:=ts) (vs:=vs) z.o.symm ab;have Q:=c4.o i ab;obtain⟨X,k⟩:=ay ts[i];obtain⟨V,e5⟩:∃V,vs[i]'(by rw[z.o];exact ab)=V:=⟨_,rfl⟩;rw[k] at t0 g Q;rw[e5] at a0 g;have F:IntKind.i64.wrap (X+f)=X+f:=(by rw[IntWalk.i64_in _ (by have:=b8.o;omega)]);have D:IntKind.i64.wrap (X+f+1)=X+f+1:=(by rw[IntWalk.i64_in _ (by have:=b8.o;omega)]);obtain⟨v',W',b4,b5,a5⟩:=Zd0 a8.o hb.o hb.o.size (by omega) (X+f+1,V);rw[<-g] at b5;obtain⟨b7,t,y⟩:=bD b4 b5 a5;have B:(0:Int)<=i:=(by omega);have E:(i:Int)<ts:=(by omega);clear b4 b5 a5 g a8 hb Q c9 k e5
 go_wp2_with (
  at_builtin;refine Z5 (by with_reducible rfl) rfl _ _ _ rfl _ _ (by rfl) (by rfl) b7.o ?_);refine⟨⟨i+1,ab,by go_num,t,y⟩,?_⟩;simp[intOf]<;>omega):P:=h
theorem Nk(h:P:=by
 have q:i<l:=(by rw[<-I.o];exact ab);obtain⟨u,z1,a3,F⟩:=a2.o _ hb.o;obtain⟨f9,g3,rfl,G,c0,c1⟩:=xx (Ha.o.below a3) i q;have e3:=a6.o i q;have Q:=a7.o i q;obtain⟨⟨X,V⟩,hTV⟩:=ay l[i];rw[hTV] at c0 c1 e3 Q;simp only at c0 c1 e3 Q;have D:IntKind.i64.wrap (X-(f+1))=X-(f+1):=(by rw[IntWalk.i64_in _ (by have:=g.o;omega)]);have z:=hb.o.alloc hb.o.size (.cells #[X,V] 81);have p:=Z6 a8.o (Fr.of_below (S:=nob) ((bf wr wr).alloc aU (.cells #[X,V] 81))) (λ_ _ f=>f);obtain⟨v',W',b4,b5,a5⟩:=Zei p z z.size (by omega) (X-(f+1));rw[<-e3] at b5;rw[World.size_alloc] at b4;obtain⟨b7,t,y⟩:=bD b4 b5 a5;have B:(0:Int)<=i:=(by omega);have E:(i:Int)<n:=(by omega);clear b4 b5 a5 e3 hTV q z p a8 hb Q a3 k
 go_wp2_with (
  at_builtin;refine Z5 (by with_reducible rfl) rfl _ _ _ rfl _ _ (by rfl) (by rfl) b7.o ?_);refine⟨⟨i+1,ab,by go_num,t,y⟩,?_⟩;simp[intOf]<;>omega):P:=h
end
namespace Wv
open Go.Proofs.Y
variable{b:aT}{f t:Int}{s:Int×Int}
theorem ZpX {l:List dO} (h:eE s f t b l=false):mX s f t b l=([],1):=by unfold mX;rw[aQ h]
theorem Znu (h:eE s f t b []=true):mX s f t b []=([],0):=by unfold mX;rw[aD uK,aQ rfl]
theorem ZpW {l:List dO} (h:eE s f t b l=true) (g:l≠[]):mX s f t b l=rb (tA s f l):=by unfold mX;rw[aD uK,aD g]
theorem Zkh {vs:a'} (hs:dS s=true) (hv:∀v∈vs,fO Z3 s (aH v)=true) (hl:vs.length<=4096):(mZ s vs).1.length<=1000000000:=by
 unfold mZ;split;.rename_i h0;obtain⟨w1,w2⟩:=XI hs h0;have hb:ZG s.2 vs=true:=ZH.2 ⟨λv h=>E_ h0 (hv v h),w1,w2,hl⟩;unfold Y8;rw[aD (by simp[hb])];have:=Vt hb 4;show(iB _ _ 4).length<=_;omega
 have:=Q6 hl (λv h=>by have:=Gc (hv v h);rwa [Z2] at this);omega
theorem Zkb (f:Int) (l:List dO) (i:Nat) (h:i<l):gY f (l.take (i+1))=gY f (l.take i)++[l[i].1-(f+1)]:=by unfold gY;rw[dK h,jy];rfl
theorem k_ {s:Int×Int} {t:Int} :∀ {l:List dO} {a:Int} {b:aT},oq s t a b l=true->∀c∈l,a<c.1/\c.1<=t
 |[],_,_,_,c,g=>by cases g
 |d::l,a,b,h,c,g=>by obtain⟨h1,k,_,_,p⟩:=Kn.1 h;rcases jA.1 g with rfl|g;exact⟨h1,k⟩;have:=k_ p c g;exact⟨O,this.2⟩
end Wv
namespace Go.Proofs.Y
open Wv Go.RowKit
theorem Zda {l:List Int} (h:Zi l=true) {c:Nat} (u:c<=2) (h1:c=1->2<=l.length):(DX c l).length<=3000000:=by have g:=λn=>Yf n;have k:c=0\/c=1\/c=2:=O;rcases k with rfl|rfl|rfl;show(bi 0++ZS (Za l)).length<=_;rw[bV,lS];have:=Yg h;have:=g 0;omega;show(oK l).length<=_;have p:=Qf h (h1 rfl);have hi:=(YH.1 p).1;have q:=Yg (Xi hi l);have t:=Yg (FI (c:=Zt l) h);rw[WE];unfold text;simp only[bV,lS,Z2,Z0];have:=g 1;have:=g (Zt l).st.toNat;have:=g (Zt l).f.toNat;have:=g (Zt l).s.toNat;have:=g (Zt l).n.toNat;have:=g (ZS (Za (Qy (Zt l) l)));omega;show(bi 2++(enc (hO (Za l))).1).length<=_;rw[bV,lS];have:=(UX h).2;have:=g 2;omega
theorem ZdF (l:List Int):(ke l).1.length<=3000000:=by cases h:Zi l;rw[Ve h];simp;obtain⟨c,g,h1,k⟩:=XT h;rw[k];exact Zda h g h1
theorem Zjb (W:aq) (B:Nat) (e:TypeId) (x y:aI) (g:B<=W):(W.alloc (.cells #[x,y] e)).ownsRow B e 2 (.slice (some (W,0)) 1 1) 1 [x,y]:=
 ⟨rfl,.inr ⟨W,1,#[x,y],rfl,g,heap_alloc_new W _,aU,fU,rfl,by simp⟩⟩
theorem Zfb {w:aq} {A:bN} {b:aT} {l:List (Int×aT)} (M:At w A (cv l)) (a c f t:Int) (q:rj a c w) (a1:b.size<=1099511627776) (G:∀x∈l,x.2.size<=1099511627776) (n cap:Nat) (F:n=l) (a3:n<=9223372036854775807):
  Calls prog 33 #[.agg #[a,c],f,t,b,(A,n,cap)] w λx w'=>fZ w (mX (a,c) f t b l) x w':=by
 have a0:=J (λW (hb:Below w w W)=>Yk (M.below hb) a c f t (q.below hb) a1 G n cap F a3);have a2:=J (λW h=>Dc (w:=w) (W:=W) (a:=a) (c:=c) h);obtain⟨R,a9⟩:=ay (mX (a,c) f t b l);rw[a9];unfold fZ;cases E:eE (a,c) f t b l;rw[E] at a0;rw[ZpX E] at a9;subst a9;have a4:bs ([]:ax)=⟨#[]⟩:=rfl;exact Oc;rw[E] at a0;by_cases h0:l=[];subst h0;rw[Znu E] at a9;subst a9;have a4:bs ([]:ax)=⟨#[]⟩:=rfl;have i5:n=0:=F;subst i5;exact Oc;rw[ZpW E h0] at a9;obtain⟨c6,f2,g7,d4,d5⟩:=Xn.1 E;obtain⟨i1,g6,e4⟩:=Hb.1 f2;have e2:=Kr E;obtain⟨cc,_,_,d6⟩:=XT e2;have f3:=ZdF (gY f l);have f5:(ke (gY f l)).2=0:=(by rw[d6]);have d3:∀v∈l.map (·.2),fO Z3 (a,c) (aH v)=true:=λv h7=>by obtain⟨x,h8,rfl⟩:=iX.1 h7;exact QP d5 x h8
 have d1:(gY f l)=l.length:=(by unfold gY;rw[c']);have i8:n<=4096:=O;have i6:((n:Int)==0)=false:=by rw[lL];intro e;exact h0 (ia O)
 obtain⟨a7,a6,Ha,I,c8⟩:=ii (λi (h:i<l.length)=>k_ d5 _ (dt h)) (λi (h:i<l.length)=>Zkb f l i h) M F (λ(W:aq) A2 bd (h:At W A2 (bO (gY f l)))=>R5 h n bd (by rw[d1,F]) a3);unfold fZ at c8;rw[f5] at c8;have j0:Hid ((gY f l)=n):=J (by rw[d1,F]);have i9:IntKind.i64.wrap (f+1)=f+1:=lO;have g1:=J (λ(W:aq) (B:Nat)=>(Zl:W.ownsRow B 3 1 (.slice none 0 0) 0 []));obtain⟨T,d2⟩:=ay ((ke (gY f l)).1);rw[d2] at c8 f3;have b3:tA (a,c) f l=(1,T)::if a=3 then[] else[(oN (a,c),(mZ (a,c) (l.map (·.2))).1)]:=by unfold tA;rw[d2]
 have g2:Hid (gY f (l.take 0)=[]):=J rfl;have f7:Hid (gY f (l.take n)=gY f l):=J (by rw[d' (by rw[F];exact aU)]);have g:Hid (-1<=f/\t<=1099511627776):=J ⟨i1,e4⟩;by_cases b8:a=3;.rw[aQ b8] at b3;rw[b3] at a9;have b9:=J (λ(W:aq) A2 (h:At W A2 (mP [(1,T)])) bd=>RX h (λp b0=>by rw[jv.1 b0];show(1:Nat)<16;decide) (λp b0=>by rw[jv.1 b0];show T.length<=_;omega) 1 bd rfl aY);rw[a9] at b9;have c5:mP [(1,T)]=[.int .i64 1,.string (bs T)]:=rfl;have f6:=J c5;subst b8;generalize bs T=S at*;clear M q a1 G F E h0 a9 c6 f2 g7 d4 d5 e2 d6 f5 d3 d1 d2 b3 f3 i1 g6 e4 c5;go_in;go_wp21;refine aP (a0.o _ (a2.o _ (bf _ _)).2.2.1) λw1 z=>?_;have c4:=J z;clear z;go_wp2;go_loopw [12,32] (λe6 b1 wr=>∃i:Nat,i<=n/\b1=(i:Int)/\Hid (wr.ownsRow (w.alloc (.cells #[(3:Int),c] 68)) 3 1 e6 i ((gY f (l.take i)).map iv))/\Hid (Below (w.alloc (.cells #[(3:Int),c] 68)) (w.alloc (.cells #[(3:Int),c] 68)) wr)) (λ_ b1 _=>(n-intOf b1).toNat);exact⟨0,cf _,rfl,J (g1.o _ _),c4⟩;clear c4;obtain⟨i,hi,rfl,a8,hb⟩:=hrel;obtain⟨A5,d8,rfl,k⟩:=Zh a8.o;by_cases ab:i<n;exact Nk;have Q:i=n:=O;subst Q;rw[f7.o] at k;have e7:=J (c8.o wr A5 d8 k);clear a8 k;have h9:=a2.o _ hb.o;go_wp21;refine aP e7.o λc7 aa=>?_;have b2:=J (hb.o.trans (aa.mono hb.o.size));have b6:=b2.o.alloc b2.o.size (.cells #[(1:Int),S] 87);obtain⟨u,_,c3,_⟩:=a2.o _ b6;have e9:=J (b9.o (c7.alloc (.cells #[(1:Int),S] 87)) (some ⟨c7.heap.size,0,none⟩) (by rw[f6.o];exact(Bk.new c7 87 #[(1:Int),S]).at_) 1);have h4:=J c3;clear aa b6 c3 h9;go_wp21;refine ij e9.o h4 λf4 h5=>?_;go_wp2;go_returns;exact⟨rfl,h5.o⟩
 rw[aD b8] at b3;rw[b3] at a9;have e8:=Zkh c6 d3 (by rw[c'];exact d4);have IS:=(Zlg c6 b8 d3 (by rw[c'];exact d4)).1;have c9:=J (λ(W:aq) (hb:Below w w W)=>Zn9 (M.below hb) n cap F O a c c6 b8 G);rw[IS] at c9;obtain⟨D,d9⟩:=ay ((mZ (a,c) (l.map (·.2))).1);obtain⟨K,e1⟩:=ay (oN (a,c));have f8:K<16:=(by rw[<-e1];exact Zp3 _);rw[d9,e1] at c9 a9;rw[d9] at e8;have b9:=J (λ(W:aq) A2 (h:At W A2 (mP [(1,T),(K,D)])) bd=>RX h (λp b0=>by rcases jA.1 b0 with rfl|b0;show(1:Nat)<16;decide;rw[jv.1 b0];exact f8) (λp b0=>by rcases jA.1 b0 with rfl|b0;show T.length<=_;omega;rw[jv.1 b0];exact e8) 2 bd rfl aY);rw[a9] at b9;have g0:xM (K:Int) D 0=.tuple #[.agg #[K,bs D],(0:Int)]:=rfl;rw[g0] at c9;have c5:mP [(1,T),(K,D)]=[.int .i64 1,.string (bs T)]++[.int .i64 (K:Int),.string (bs D)]:=rfl;have f6:=J c5;have i7:(a !=3)=true:=(by rw[kx];exact b8);generalize bs T=S at*;generalize bs D=S2 at*;generalize (K:Int)=KI at*;clear M q a1 G F E h0 a9 c6 f2 g7 d4 d5 e2 d6 f5 d3 d1 d2 b3 f3 i1 g6 e4 c5 IS e8 g0 e1 f8 d9;go_in;go_wp21;refine aP (a0.o _ (a2.o _ (bf _ _)).2.2.1) λw1 z=>?_;have c4:=J z;clear z;go_wp2;go_loopw [12,32] (λe6 b1 wr=>∃i:Nat,i<=n/\b1=(i:Int)/\Hid (wr.ownsRow (w.alloc (.cells #[a,c] 68)) 3 1 e6 i ((gY f (l.take i)).map iv))/\Hid (Below (w.alloc (.cells #[a,c] 68)) (w.alloc (.cells #[a,c] 68)) wr)) (λ_ b1 _=>(n-intOf b1).toNat);exact⟨0,cf _,rfl,J (g1.o _ _),c4⟩;clear c4;obtain⟨i,hi,rfl,a8,hb⟩:=hrel;obtain⟨A5,d8,rfl,k⟩:=Zh a8.o;by_cases ab:i<n;exact Nk;have Q:i=n:=O;subst Q;rw[f7.o] at k;have e7:=J (c8.o wr A5 d8 k);clear a8 k;go_wp21;refine aP e7.o λc7 aa=>?_;have b2:=J (hb.o.trans (aa.mono hb.o.size));have b6:=b2.o.alloc b2.o.size (.cells #[(1:Int),S] 87);obtain⟨u,z1,c3,_⟩:=a2.o _ b6;obtain⟨h2,e5,g9⟩:=bD (Zjb c7 (w.alloc (.cells #[a,c] 68)) 87 (1:Int) (.string S) b2.o.size) b6 (c9.o _ c3);clear aa b6 c3;go_wp21;refine aP g9.o λf4 an=>?_;have d7:=(e5.o.trans (an.mono e5.o.size)).alloc (co e5.o.size an.size) (.cells #[KI,S2] 87);have g5:=Z6 (Z6 h2.o (Fr.of_below (S:=nob) an) (λ_ _ f=>f)) (Fr.of_below (S:=nob) ((bf f4.heap.size f4).alloc aU (.cells #[KI,S2] 87))) (λ_ _ f=>f);obtain⟨v',W',b4,b5,a5,_⟩:=Gi (P:=prog) 125 87 _ _ 2 underlying125 ZkL rfl aY g5 d7 d7.size [.int .i64 KI,.string S2] rfl I5 fU O;obtain⟨g8,i0,h1,g4⟩:=Zh b5;rw[World.size_alloc] at b4;have b7:=J b4;have e9:=J (b9.o W' g8 (by rw[f6.o];exact g4) i0);have h6:=J (a2.o _ a5).2.2.1;subst h1;clear b4 b5 a5 g5 d7 an g4
 go_wp2_with (
  at_builtin;refine Z5 iG rfl _ _ _ rfl _ _ (by rfl) (by rfl) b7.o ?_);go_wp21;refine ij e9.o h6 λj2 i4=>?_;go_wp2;go_returns;exact⟨rfl,i4.o⟩
end Go.Proofs.Y
namespace Wv
open Go.Proofs.Y
variable{b:aT}{d:ax}{f t:Int}{n:Nat}{s:Int×Int}{ts:List Int}{vs:a'}
theorem Znr (h:eE s f t b []=false):iS s f t b d=([],1):=by unfold iS;rw[aQ h]
theorem Znt (h:eE s f t b []=true):iS s f t b []=([],0):=by unfold iS;rw[aD uK,aQ rfl]
theorem Zns (h:eE s f t b []=true) (g:4096<d.length):iS s f t b d=([],12):=by unfold iS;rw[aD uK,aD (by intro e;subst e;simp at g),aQ g]
theorem Mn (h:eE s f t b []=true) (h0:d≠[]) (g:¬4096<d.length):iS s f t b d=match qZ s f d with
  |none=>([],12)
  |some l=>if eE s f t b l=true then(l,0) else([],12):=by unfold iS;rw[aD uK,aD h0,aD g];cases qZ s f d<;>rfl
theorem Zng (h:jJ d=none):qZ s f d=none:=by unfold qZ;rw[h]
theorem Zan {fr:List (Nat×ax)} (h:jJ d=some fr) (g:fr.length≠if s.1=3 then 1 else 2):qZ s f d=none:=by
  unfold qZ;rw[h];rcases fr with _|⟨p,r⟩;rfl;simp only;split
  . have : ∀ n, Yw s n r = none := λn => by
      unfold Yw;by_cases k:s.1=3;rw[aQ k] at g⊢;rw[aD (by intro e;subst e;exact g rfl)];rw[aD k] at g⊢
      match r,g with
      |[],_=>rfl
      |[q],g=>exact absurd rfl g
      |_::_::_,_=>rfl
    rw[this];rfl
  rfl
theorem XG {p:Nat×ax} {r:List (Nat×ax)} (h:jJ d=some (p::r)):qZ s f d=if p.1=1/\(nE p.2 4096).2=0/\(nE p.2 4096).1≠[] then(Yw s (nE p.2 4096).1 r).map (iU f (nE p.2 4096).1) else none:=by unfold qZ;rw[h]
theorem Zfw (g:s.1=3):Yw s n []=some (List.replicate n ⟨#[]⟩):=by unfold Yw;rw[aQ g,aQ rfl]
theorem ZbW {q:Nat×ax} (g:s.1≠3):Yw s n [q]=if q.1=oN s/\(ow s q.2 n).2=0/\(ow s q.2 n).1=n then some (ow s q.2 n).1 else none:=by unfold Yw;rw[aD g]
theorem Z7S (f:Int) (h:ts=vs.length) {i:Nat} (hi:i<ts):(iU f ts vs).take (i+1)=(iU f ts vs).take i++[(ts[i]+f+1,vs[i]'O)]:=by have g:i<(iU f ts vs):=(by rw[XK f ts vs h];exact hi);rw[dK g];congr 2;simp[iU]
theorem Sw (f:Int) (k:∀v∈vs,v.size<=128):∀c∈iU f ts vs,c.2.size<=1099511627776:=by intro c g;obtain⟨i,hi,rfl⟩:=List.getElem_of_mem g;have l:i<vs:=(by unfold iU at hi;rw[Ah] at hi;omega);have e:((iU f ts vs)[i]).2=vs[i]:=(by simp[iU]);rw[e];have:=k _ (dt l);omega
theorem Uv:∀ {l:List (Nat×ax)} {d:ax},Y0 l=some d->∀p∈l,p.2.length<=4096
 |[],_,_,p,g=>by cases g
 |q::l,d,h,p,g=>by unfold Y0 at h;rcases t:Zo q.1 q.2 with _|w;rw[t] at h;cases h;rw[t] at h;simp only at h;rcases y:Y0 l with _|x;rw[y] at h;cases h;rcases jA.1 g with rfl|g;have u:=X7 (k:=p.1) (c:=p.2);rw[t] at u;exact of_decide_eq_true u.symm;exact Uv y p g
theorem KT {l:List (Nat×ax)} (h:jJ d=some l):∀p∈l,p.2.length<=4096:=Uv (JT d aU h)
end Wv
namespace Go.Proofs.Y
open Wv Go.RowKit
section
variable{A:bN}{C d:ax}{b:aT}{fr:List (Nat×ax)}{n:Nat}{s:Int×Int}{w:aq}
def qv (B:Nat) (w:aq) (v:aI) (l:List (Int×aT)):Prop:=∃A cap,v=.slice A l cap/\At w A (cv l)/\∀b o,A=some ⟨b,o,none⟩->B<=b
theorem qv.nil (B:Nat) (w:aq):qv B w (.slice none 0 0) []:=⟨none,0,rfl,At.nil _ _,λ_ _ h=>po⟩
def yg (w:aq) (r:List (Int×aT)×Nat) (x:Ending) (w':aq):Prop:=∃v,x=.returned (.tuple #[v,r.2])/\qv w w' v r.1/\Below w w w'
theorem Zmg (hd:d.length<=1000000) (h:jJ d=none) (W:aq):cK 84 #[bs d] W λx w'=>∃v,x=.returned (.tuple #[v,(12:Int)])/\Below W W w':=
 (RM d hd W).mono λx w' g=>by unfold BK at g;rw[h] at g;obtain⟨v,h1,_,k⟩:=g;exact⟨v,by simpa using h1,k⟩
theorem WN (hd:d.length<=1000000) (h:jJ d=some fr) (W:aq):cK 84 #[bs d] W λx w'=>∃A cap,x=.returned (.tuple #[.slice A fr cap,(0:Int)])/\At w' A (mP fr)/\Below W W w':=
 (RM d hd W).mono λx w' g=>by unfold BK at g;rw[h] at g;obtain⟨v,h1,⟨A,cap,k,l⟩,p⟩:=g;subst k;exact⟨A,cap,by simpa using h1,l,p⟩
theorem ZoV {k:Nat} (g:s.1≠3):Yw s n [(k,C)]=vr s k C n:=by rw[ZbW g];unfold vr;simp only[Int.ofNat_inj]
theorem Zm4 {k:Int} {r:a'} (h:vr s k C n=some r):r=n/\∀v∈r,v.size<=128:=by
 unfold vr at h;split at h;.rename_i hc;injection h with h;subst h;exact⟨by have:=hc.2.2;omega,Zcp _ _ _⟩
 cases h
theorem Zkv {l:List Int} (g:At w A (bO l)) (k:Nat) (h:k<l):∃b o,A=some ⟨b,o,none⟩/\b<w.heap.size/\w.cell? ⟨b,o+k,none⟩=some (.int .i64 l[k]):=
 g.get k _ (by unfold bO;rw[jX,fb h];rfl)
theorem Zkw {l:a'} (g:At w A (bz l)) (k:Nat) (h:k<l):∃b o,A=some ⟨b,o,none⟩/\b<w.heap.size/\w.cell? ⟨b,o+k,none⟩=some (.string l[k]):=
 g.get k _ (by unfold bz;rw[jX,fb h];rfl)
theorem Zf9 (a c f t:Int) (D:rj a c w) (p:b.size<=1099511627776) (d:ax) (hd:d.length<=1000000000) (B:eE (a,c) f t b []=false\/d=[]\/4096<d.length\/jJ d=none):
  Calls prog 52 #[.agg #[a,c],f,t,b,bs d] w λx w'=>yg w (iS (a,c) f t b d) x w':=by
 have a0:=J (λW (hb:Below w w W)=>Yk (l:=[]) (At.nil W none) a c f t (D.below hb) p (λx a4=>by cases a4) 0 0 rfl aY);have a2:=J (λW h=>Dc (w:=w) (W:=W) (a:=a) (c:=c) h);unfold yg;cases g:eE (a,c) f t b [];rw[g] at a0;have E:=J (Znr (d:=d) g);generalize iS (a,c) f t b d=R at*;generalize bs d=S at*;clear D p hd B g;exact IM;rw[g] at a0;have a1:=YU d;have F:(bs d).size=d:=Z0 d;by_cases h0:d=[];subst h0;have E:=J (Znt g);generalize iS (a,c) f t b []=R at*;rw[show bs ([]:ax)=⟨#[]⟩ from rfl];clear D p hd B g a1 F;exact IM;rw[cI h0] at a1;by_cases q:4096<d.length;have E:=J (Zns g q);have a3:(4096:Int)<((bs d).size:Int):=O;generalize iS (a,c) f t b d=R at*;generalize bs d=S at*;clear D p hd B g h0 F q;exact IM;have I:jJ d=none:=by rcases B with h|h|h|h;rw[g] at h;cases h;exact absurd h h0;exact absurd h q;exact h
 have E:Hid (iS (a,c) f t b d=([],12)):=J (by rw[Mn g h0 q,Zng I]);have a3:¬(4096:Int)<((bs d).size:Int):=O;have k:=J (λW=>Zmg O I W);generalize iS (a,c) f t b d=R at*;generalize bs d=S at*;clear D p hd B g h0 F q I;by_cases G:a=3;subst G;exact N3;have a5:(a==3)=false:=(by rw[lL];exact G);clear G;exact N3
theorem ZmI {α:Type} {l:List α} (h:l.length=2):∃p q,l=[p,q]:=by
 match l,h with
 |[p,q],_=>exact⟨p,q,rfl⟩
theorem SY {W:aq} {p:Addr} {v:aI} (hb:Below w w W) (k:p.block<w) (g:w.cell? p=some v):W.cell? p=some v:=by rw[World.cell?_of_block (hb.block _ k)];exact g
theorem ZpC (a c k:Int) (n:Nat) (D:ax) (l:dS (a,c)=true) (g:a≠3) (hd:D.length<=1000000000):
  cK 85 #[.agg #[a,c],.agg #[k,bs D],n] w λx w'=>∃A m cap,x=.returned (.tuple #[.slice A m cap,.bool (vr (a,c) k D n).isSome])/\(∀r,vr (a,c) k D n=some r->m=r.length/\At w' A (bz r))/\Below w w w':=
 Zn8 a c k n D l g hd
theorem Zfa (a c f t:Int) (f6:rj a c w) (a1:b.size<=1099511627776) (d:ax) (d2:eE (a,c) f t b []=true) (h0:d≠[]) (d5:¬4096<d.length) (hu:jJ d=some fr) (a7:a≠3):
  Calls prog 52 #[.agg #[a,c],f,t,b,bs d] w λx w'=>yg w (iS (a,c) f t b d) x w':=by
 have g6:=J (λW (hb:Below w w W)=>Yk (l:=[]) (At.nil W none) a c f t (f6.below hb) a1 (λx l2=>by cases l2) 0 0 rfl aY);rw[d2] at g6;have j5:=J (λW A cap (vs:a') {ts:List Int} (k9:vs=ts.length) (l1:∀v∈vs,v.size<=128) (h:At W A (cv (iU f ts vs))) (hb:Below w w W) (n2:ts.length<=4096)=>Yk h a c f t (f6.below hb) a1 (Sw f l1) ts cap (by rw[XK f ts vs k9.symm]) O);have d3:=J (λW h=>Dc (w:=w) (W:=W) (a:=a) (c:=c) h);obtain⟨i6,i7,_⟩:=Xn.1 d2;obtain⟨i1,l3,l5⟩:=Hb.1 i7;have b8:Hid (-1<=f/\f<=1099511627776):=J ⟨i1,O⟩;have k1:=J i6;have k2:=YU d;rw[cI h0] at k2;have n3:¬(4096:Int)<((bs d).size:Int):=Ar;have j2:=J (λW=>WN O hu W);have a9:=J (Mn d2 h0 d5);unfold yg;generalize iS (a,c) f t b d=R at*;generalize bs d=S at*;have m7:(a==3)=false:=(by rw[lL];exact a7);have k7:(a !=3)=true:=(by rw[kx];exact a7);clear f6 a1 d2 h0 d5 i6 i7 i1 l3 l5;go_in;go_wp21;refine aP (g6.o _ (d3.o _ (bf _ _)).2.2.1) λw1 c7=>?_;obtain⟨_,_,aa,_⟩:=d3.o _ c7;have h3:=J c7;clear c7 aa;go_wp21;refine(j2.o _).mono ?_;rintro x n5 ⟨A2,n0,rfl,a2,aa⟩;have e8:=J (h3.o.trans (aa.mono h3.o.size));obtain⟨f9,g0,M,h6⟩:=d3.o _ e8.o;clear aa;by_cases b1:fr.length=2
 .obtain⟨p,q,rfl⟩:=ZmI b1;obtain⟨d4,D⟩:=q;obtain⟨k,C⟩:=p;obtain⟨d6,d9,rfl,e6,c0,c1⟩:=HB a2 0 (by simp);obtain⟨j9,l8,f5,_,d0,f2⟩:=HB a2 1 (by simp);injection f5 with f5;injection f5 with k4 k5;subst k4;subst k5;simp at d0 f2;simp at c0 c1;try simp only[gd,xa]
  have u:=J hu;have b2:=KT hu (k,C) fi;by_cases y:k=1
  .subst y;have f8:=J (λW=>R4 (w:=W) (bs C) P' 4096);obtain⟨⟨ts,a4⟩,cU⟩:=ay (nE C 4096);rw[Zm,cU] at f8;unfold rh at f8;have b5:=J cU;have a6:=JA C 4096;rw[cU] at a6;generalize bs C=SC at*;have m9:=J M;clear a2 b2 M cU;go_wp21;refine(f8.o _).mono ?_;rintro x c8 ⟨v,rfl,⟨A3,m5,i4,F⟩,an⟩;try simp only at i4 F
   subst i4;have e9:=J (e8.o.trans (an.mono e8.o.size));obtain⟨f9,g0,a0,h6⟩:=d3.o _ e9.o;by_cases I:a4=0
   .subst I;by_cases a5:ts=[];exact NI;have m6:((ts.length:Int)==0)=false:=by rw[lL];intro e;exact a5 (ia O)
    have f3:Zi ts=true/\ts.length<=4096:=Od;have i9:Hid (qZ (a,c) f d=(Yw (a,c) ts.length [(d4,D)]).map (iU f ts)):=J Rj;have c4:=J (λi (h:i<ts.length)=>(Zd.1 f3.1).2.1 ts[i] (dt h));have j8:=f3.2;have n1:=Y5 (P:=prog) 23 9 (.string ⟨#[]⟩) 16 underlying23 GV rfl (ts.length:Int) ts rfl O O c8;have k0:=(Bk.new c8 9 (Array.replicate ts.length (.string ⟨#[]⟩))).at_;have d8:=e9.o.alloc e9.o.size (.cells (Array.replicate ts.length (.string ⟨#[]⟩)) 9);have i5:=F.below ((bf c8 c8).alloc aU (.cells (Array.replicate ts.length (.string ⟨#[]⟩)) 9));have g5:=J an;clear an a6 F a5 f3;have h8:=KT u.o (d4,D) (by simp);have g8:=J (λW=>ZpC (w:=W) a c (d4:Int) ts D k1.o a7 (by show D.length<=_;have:D.length<=4096:=h8;omega));obtain⟨c6,d7⟩:=ay (vr (a,c) (d4:Int) D ts);rw[d7] at g8;have e7:Hid (Yw (a,c) ts.length [(d4,D)]=c6):=J (by rw[ZoV a7];exact d7);have g9:Hid (∀r,c6=some r->r.length=ts.length/\∀v∈r,v.size<=128):=J (λr l0=>Zm4 (d7.trans l0));have g3:=(g5.o.trans ((bf c8 c8).alloc aU (.cells (Array.replicate ts.length (.string ⟨#[]⟩)) 9)|>.mono g5.o.size)).drew;have g1:∀X,Below (c8.alloc (.cells (Array.replicate ts.length (.string ⟨#[]⟩)) 9)).drew (c8.alloc (.cells (Array.replicate ts.length (.string ⟨#[]⟩)) 9)).drew X->X.cell? (w,0)=some (.int .i64 a)/\X.cell? (w,1)=some (.int .i64 c)/\X.cell? (d6,d9+2)=some (.int .i64 (d4:Int))/\X.cell? (d6,d9+3)=some (.string (bs D)):=λX h=>by have g:=d3.o X (d8.drew.trans (h.mono d8.drew.size));have i0:=g3.trans (h.mono g3.size);exact⟨g.1,g.2.1,SY i0 e6 d0,SY i0 e6 f2⟩
    have l9:=J g1;have h0:=g1 _ (bf _ _);have j0:=J d8.drew;have j6:=J i5;generalize bs D=SD at*;clear d7 h8 g3 g1 d8 i5 a0 k0 c0 c1 d0 f2;go_wp2;generalize c8.alloc (.cells (Array.replicate ts.length (.string ⟨#[]⟩)) 9)=wM at*
    go_region_held3 (λX=>X.cell? (w,0)=some (.int .i64 a)/\X.cell? (w,1)=some (.int .i64 c)/\X.cell? (d6,d9+2)=some (.int .i64 (d4:Int))/\X.cell? (d6,d9+3)=some (.string SD)) (first|with_reducible assumption) (first
     |(go_at_call 85;with_reducible refine(g8.o _).mono ?_;rintro r m3 ⟨A4,l7,n4,rfl,d5,a0⟩;have e4:=J d5;have k3:=l9.o _ a0;have h5:=J a0;clear d5 a0));have b0:=J (j0.o.trans (h5.o.mono j0.o.size));have b9:=J (j6.o.drew.below h5.o);clear h0 k3 h6 f9 g0 e6;have f7:=d3.o _ b0.o;rcases c6 with _|vs;.have E:Hid (R=([],12)):=J (by rw[a9.o,i9.o,e7.o];rfl);clear e4;have j1:=f7.2.2.1;clear f7;simp only[Option.isSome_none];go_wp2;go_returns;exact⟨_,yI,by rw[E.o];exact qv.nil _ _,j1⟩
    clear f7;obtain⟨i8,g7⟩:=e4.o vs rfl;obtain⟨d2,h7⟩:=g9.o vs rfl;obtain⟨c3,z,m1,j7⟩:=dc g7 d2 h7 e7.o;have j3:l7=ts:=i8.trans d2;subst j3;clear i8 g7 d2 h7 e4 g9 e7;simp only[Option.isSome_some];go_wp2;generalize m3=wL at*;go_loopw [19,92] (λm2 e3 wr=>∃i:Nat,i<=ts.length/\e3=(i:Int)/\Hid (wr.ownsRow wL 81 2 m2 i (cv ((iU f ts vs).take i)))/\Hid (Below wL wL wr)) (λ_ e3 _=>(ts.length-intOf e3).toNat);exact EO;obtain⟨i,hi,rfl,a8,hb⟩:=hrel;obtain⟨g4,l6,rfl,c9⟩:=Zh a8.o;have k6:=J (b0.o.trans (hb.o.mono b0.o.size));obtain⟨f9,g0,a3,m8⟩:=d3.o _ k6.o;by_cases ab:i<ts.length;exact Nl;have Q:i=ts.length:=O;subst Q;rw[d' (by rw[XK f ts vs z.o.symm];exact aU)] at c9;obtain⟨b4,f4,c5,b3⟩:=dc (j5.o wr g4 l6 vs z.o m1.o c9 a3 j8) c9 (λb o (k:g4=some ⟨b,o,none⟩)=>(OC:w.heap.size<=b)) a3;have b6:Hid (R=if eE (a,c) f t b (iU f ts vs)=true then(iU f ts vs,0) else([],12)):=J (by rw[a9.o,i9.o,j7.o];rfl);have b7:=J (XK f ts vs z.o.symm);obtain⟨B,G⟩:=ay (eE (a,c) f t b (iU f ts vs));exact NW
   exact Nz
  exact NB
 have E:Hid (R=([],12)):=J PW;have k8:((fr.length:Int) !=2)=true:=eV;exact OA
theorem Zjn (c f t:Int) (c7:rj 3 c w) (a1:b.size<=1099511627776) (d:ax) (d4:eE (3,c) f t b []=true) (h0:d≠[]) (e7:¬4096<d.length) (hu:jJ d=some fr):
  Calls prog 52 #[.agg #[(3:Int),c],f,t,b,bs d] w λx w'=>yg w (iS (3,c) f t b d) x w':=by
 have e3:=J (λW (hb:Below w w W)=>Yk (l:=[]) (At.nil W none) 3 c f t (c7.below hb) a1 (λx g7=>by cases g7) 0 0 rfl aY);rw[d4] at e3;have f8:=J (λW A cap (vs:a') {ts:List Int} (g5:vs=ts.length) (g6:∀v∈vs,v.size<=128) (h:At W A (cv (iU f ts vs))) (hb:Below w w W) (j1:ts.length<=4096)=>Yk h 3 c f t (c7.below hb) a1 (Sw f g6) ts cap (by rw[XK f ts vs g5.symm]) O);have d1:=J (λW h=>Dc (w:=w) (W:=W) (a:=3) (c:=c) h);obtain⟨f2,f3,_⟩:=Xn.1 d4;obtain⟨i1,g8,g9⟩:=Hb.1 f3;have b8:Hid (-1<=f/\f<=1099511627776):=J ⟨i1,O⟩;have j0:=J f2;have g1:=YU d;rw[cI h0] at g1;have j2:¬(4096:Int)<((bs d).size:Int):=Ar;have f7:=J (λW=>WN O hu W);have a9:=J (Mn d4 h0 e7);unfold yg;generalize iS (3,c) f t b d=R at*;generalize bs d=S at*

 clear c7 a1 d4 h0 e7 f2 f3 i1 g8 g9;go_in;go_wp21;refine aP (e3.o _ (d1.o _ (bf _ _)).2.2.1) λw1 c6=>?_;obtain⟨_,_,aa,_⟩:=d1.o _ c6;have e4:=J c6;clear c6 aa;go_wp21;refine(f7.o _).mono ?_;rintro x j5 ⟨A2,i8,rfl,a2,aa⟩;have d6:=J (e4.o.trans (aa.mono e4.o.size));obtain⟨f5,f6,M,g3⟩:=d1.o _ d6.o;clear aa;by_cases b1:fr.length=1
 .obtain⟨p,rfl⟩:=List.length_eq_one_iff.1 b1;obtain⟨k,C⟩:=p;obtain⟨i7,j3,rfl,i4,c0,c1⟩:=HB a2 0 (by simp);skip;simp at c0 c1;try simp only[gd,xa]
  have u:=J hu;have b2:=KT hu (k,C) fi;by_cases y:k=1
  .subst y;have d9:=J (λW=>R4 (w:=W) (bs C) P' 4096);obtain⟨⟨ts,a4⟩,cU⟩:=ay (nE C 4096);rw[Zm,cU] at d9;unfold rh at d9;have b5:=J cU;have a6:=JA C 4096;rw[cU] at a6;generalize bs C=SC at*;have i6:=J M;clear a2 b2 M cU;go_wp21;refine(d9.o _).mono ?_;rintro x c8 ⟨v,rfl,⟨A3,h8,e6,F⟩,an⟩;try simp only at e6 F
   subst e6;have d3:=J (d6.o.trans (an.mono d6.o.size));obtain⟨f5,f6,a0,g3⟩:=d1.o _ d3.o;by_cases I:a4=0
   .subst I;by_cases a5:ts=[];exact NI;have i0:((ts.length:Int)==0)=false:=by rw[lL];intro e;exact a5 (ia O)
    have d8:Zi ts=true/\ts.length<=4096:=Od;have h7:Hid (qZ (3,c) f d=(Yw (3,c) ts.length []).map (iU f ts)):=J Rj;have c4:=J (λi (h:i<ts.length)=>(Zd.1 d8.1).2.1 ts[i] (dt h));have g0:=d8.2;have i9:=Y5 (P:=prog) 23 9 (.string ⟨#[]⟩) 16 underlying23 GV rfl (ts.length:Int) ts rfl O O c8;have d7:=(Bk.new c8 9 (Array.replicate ts.length (.string ⟨#[]⟩))).at_;have e8:=d3.o.alloc d3.o.size (.cells (Array.replicate ts.length (.string ⟨#[]⟩)) 9);have e9:=F.below ((bf c8 c8).alloc aU (.cells (Array.replicate ts.length (.string ⟨#[]⟩)) 9));clear an a6 F a5 d8;obtain⟨vs,d2⟩:∃vs:a',vs=List.replicate ts.length ⟨#[]⟩:=⟨_,rfl⟩;have e2:(Array.replicate ts.length (Value.string ⟨#[]⟩)).toList=bz vs:=(by rw[d2];unfold bz;rw[List.map_replicate,Array.toList_replicate];rfl);rw[e2] at d7;have c3:=J d7;have z:Hid (vs=ts.length):=J (by rw[d2,iE]);have h5:Hid (∀v∈vs,v.size<=128):=J (λv c7=>by rw[d2] at c7;rw[(Cf.1 c7).2];decide);have f9:Hid (Yw (3,c) ts.length []=some vs):=J (by rw[d2];exact Zfw rfl);have b9:=J e9;have b0:=J e8;clear d7 e9 e8 e2 d2 a0;go_wp2;generalize c8.alloc (.cells (Array.replicate ts.length (.string ⟨#[]⟩)) 9)=wL at*;generalize (some (⟨c8.heap.size,0,none⟩:Addr))=AV at*;clear d3;go_loopw [19,92] (λh6 d5 wr=>∃i:Nat,i<=ts.length/\d5=(i:Int)/\Hid (wr.ownsRow wL 81 2 h6 i (cv ((iU f ts vs).take i)))/\Hid (Below wL wL wr)) (λ_ d5 _=>(ts.length-intOf d5).toNat);exact EO;obtain⟨i,hi,rfl,a8,hb⟩:=hrel;obtain⟨e1,h3,rfl,c9⟩:=Zh a8.o;have g2:=J (b0.o.trans (hb.o.mono b0.o.size));obtain⟨f5,f6,a3,i5⟩:=d1.o _ g2.o;by_cases ab:i<ts.length;exact Nl;have Q:i=ts.length:=O;subst Q;rw[d' (by rw[XK f ts vs z.o.symm];exact aU)] at c9;obtain⟨b4,f4,c5,b3⟩:=dc (f8.o wr e1 h3 vs z.o h5.o c9 a3 g0) c9 (λb o (k:e1=some ⟨b,o,none⟩)=>(OC:w.heap.size<=b)) a3;have b6:Hid (R=if eE (3,c) f t b (iU f ts vs)=true then(iU f ts vs,0) else([],12)):=J (by rw[a9.o,h7.o,f9.o];rfl);have b7:=J (XK f ts vs z.o.symm);obtain⟨B,G⟩:=ay (eE (3,c) f t b (iU f ts vs));exact NW
   exact Nz
  exact NB
 have E:Hid (R=([],12)):=J PW;have g4:((fr.length:Int) !=1)=true:=eV;exact OA
theorem ZbO (a c f t:Int) (k:rj a c w) (g:b.size<=1099511627776) (d:ax) (hd:d.length<=1000000000):
  cK 52 #[.agg #[a,c],f,t,b,bs d] w λx w'=>yg w (iS (a,c) f t b d) x w':=by by_cases h:eE (a,c) f t b []=false\/d=[]\/4096<d.length\/jJ d=none;exact Zf9 a c f t k g d hd h;have h1:eE (a,c) f t b []=true:=(by cases u:eE (a,c) f t b []<;>simp_all);have h0:d≠[]:=λe=>h (.inr (.inl e));have p:¬4096<d.length:=λe=>h (.inr (.inr (.inl e)));obtain⟨fr,q⟩:∃fr,jJ d=some fr:=Option.ne_none_iff_exists'.1 (λe=>h (.inr (.inr (.inr e))));by_cases l:a=3;subst l;exact Zjn c f t k g d h1 h0 p q;exact Zfa a c f t k g d h1 h0 p q l
end
variable{A1 A2 A3:bN}{B k k1 k2 k3:Nat}{b:Int}{w:aq}
structure wG (w:World) (B:Nat) (c:eS) (A1:Option Addr) (k1:Nat) (A2:Option Addr) (k2:Nat) (A3:Option Addr) (k3:Nat):Prop where
 bk:Bk w B 27 (iC c.f c.t A1 c.vs.length k1 A2 c.ch.length k2 A3 c.gaps.length k3)
 v:At w A1 (eN c.vs)
 h:pN w A2 c.ch
 g:At w A3 (pv c.gaps)
theorem wG.below {w':aq} {c:eS} (h:wG w B c A1 k1 A2 k2 A3 k3) (hb:Below w w w'):wG w' B c A1 k1 A2 k2 A3 k3:=⟨h.bk.below hb h.bk.lt,h.v.below hb,h.h.below hb,h.g.below hb⟩
structure wJ (c:eS):Prop where
 f:mE c.f
 t:mE c.t
 v:c.vs.length<=9223372036854775807
 h:c.ch.length<=9223372036854775807
 g:c.gaps.length<=9223372036854775807
 vs:∀s∈c.vs,s.size<=1099511627776
 ch:∀l∈c.ch,l.length<=9223372036854775807/\∀x∈l,x.2.size<=1099511627776
theorem Zji {c:eS} (h:wG w B c A1 k1 A2 k2 A3 k3) (q:wJ c) (i:Nat) (I:i<c.vs) (E:i<c.ch) (a b:Int) (a2:rj a b w):
  Calls prog 36 #[i,.agg #[a,b],(B,0)] w (bM w (eE (a,b) c.f c.t (jU c.vs i) (fG c.ch i))):=by have p:=(bf w w).alloc aU (.cells #[a,b] 68);have h1:=h.below p;have F:=h1.bk.cell 0;have q1:=h1.bk.cell 1;have q2:=h1.bk.cell 2;have q3:=h1.bk.cell 3;simp at F q1 q2 q3;obtain⟨b1,k,rfl,b3,c1⟩:=QB h1.v i I;obtain⟨g,l,G,u,rfl,l2,c2,a1⟩:=h1.h i E;have S:=q.vs _ (dt I);obtain⟨a0,a4⟩:=q.ch _ (dt E);rw[show jU c.vs i=c.vs[i] from ZO _ I,show fG c.ch i=c.ch[i] from ZO _ E];have D:=(bf (w.alloc (.cells #[a,b] 68)) (w.alloc (.cells #[a,b] 68))).drew;have a8:=J (Yk (a1.below D) a b c.f c.t ((a2.below p).below D) S a4 c.ch[i].length u rfl a0);have Q:=J (p.trans (D.mono p.size));have i0:(0:Int)<=i:=O;have i1:(i:Int)<c.vs:=O;have b6:(i:Int)<c.ch:=O;have b8:=q.v;have b9:=q.h;have z:=h1.bk.lt;have b7:(w.alloc (.cells #[a,b] 68))=w.heap.size+1:=(by simp);clear h h1 q a2 a1 S a0 a4 p D;generalize eE (a,b) c.f c.t c.vs[i] c.ch[i]=R at*;generalize c.vs[i]=s at*;generalize c.ch[i].length=nl at*;obtain⟨f,t,vs,ch,b0⟩:=c;simp only at*;generalize vs.length=nv at*;generalize ch.length=nc at*;generalize b0.length=ng at*;have a5:(w.alloc (.cells #[a,b] 68)).cell? (w,0)=a:=(Bk.new w 68 #[a,b]).cell 0;have a6:(w.alloc (.cells #[a,b] 68)).cell? (w,1)=b:=(Bk.new w 68 #[a,b]).cell 1;have a3:w<(w.alloc (.cells #[a,b] 68)).heap.size:=O;have b5:(w.alloc (.cells #[a,b] 68)).drew.cell? (w,0)=a/\(w.alloc (.cells #[a,b] 68)).drew.cell? (w,1)=b/\(w.alloc (.cells #[a,b] 68)).drew.cell? (B,0)=f/\(w.alloc (.cells #[a,b] 68)).drew.cell? (B,1)=t/\(w.alloc (.cells #[a,b] 68)).drew.cell? (B,2)=some (.slice (some (b1,k)) nv k1)/\(w.alloc (.cells #[a,b] 68)).drew.cell? (B,3)=some (.slice (some (g,l)) nc k2)/\(w.alloc (.cells #[a,b] 68)).drew.cell? (b1,k+i)=s/\(w.alloc (.cells #[a,b] 68)).drew.cell? (g,l+i)=(G,nl,u):=⟨a5,a6,F,q1,q2,q3,c1,c2⟩;have a7:Hid (∀W,Below (w.alloc (.cells #[a,b] 68)).drew (w.alloc (.cells #[a,b] 68)).drew W->W.cell? (w,0)=some (.int .i64 a)/\W.cell? (w,1)=some (.int .i64 b)/\W.cell? (B,0)=some (.int .i64 f)/\W.cell? (B,1)=some (.int .i64 t)/\W.cell? (B,2)=some (.slice (some (b1,k)) nv k1)/\W.cell? (B,3)=some (.slice (some (g,l)) nc k2)/\W.cell? (b1,k+i)=some (.string s)/\W.cell? (g,l+i)=some (.slice G nl u)):=J (λW hb=>⟨Below.cellAt hb a3 a5,Below.cellAt hb a3 a6,Below.cellAt hb z F,Below.cellAt hb z q1,Below.cellAt hb z q2,Below.cellAt hb z q3,Below.cellAt hb b3 c1,Below.cellAt hb l2 c2⟩);go_in;go_wp2;go_region_held3 (λW=>W.cell? (w,0)=some (.int .i64 a)/\W.cell? (w,1)=some (.int .i64 b)/\W.cell? (B,0)=some (.int .i64 f)/\W.cell? (B,1)=some (.int .i64 t)/\W.cell? (B,2)=some (.slice (some (b1,k)) nv k1)/\W.cell? (B,3)=some (.slice (some (g,l)) nc k2)/\W.cell? (b1,k+i)=some (.string s)/\W.cell? (g,l+i)=some (.slice G nl u)) (first|with_reducible assumption) ((go_at_call 29;with_reducible refine(a8.o).mono ?_;rintro x w1 ⟨rfl,M⟩;have b4:=a7.o _ M;have y:=J (Q.o.trans (M.mono Q.o.size))));exact EQ
theorem Zfk (a c f t:Int) (w:aq):Calls prog 75 #[.agg #[a,c],f,t,(0:Int)] w (bM w (.tuple #[.slice none 0 0,(1:Int)])):=by
 have g:=J ((bf w w).alloc aU (.cells #[a,c] 68));have k:=J (λW=>V2 a c f t W);generalize (dS (a,c)&&sx f t)=B at*
 cases B<;>(
  go_in;go_wp21;refine ij (k.o _) g λw1 l=>?_;clear g;go_wp2;go_returns;exact⟨rfl,l.o⟩)
theorem Zjr (a c f t:Int) (S:aT) (w:aq):Calls prog 51 #[.agg #[a,c],f,t,(0:Int),S] w (bM w (.tuple #[.slice none 0 0,(1:Int)])):=by have g:=J ((bf w w).alloc aU (.cells #[a,c] 68));have k:=J (λW=>Zfk a c f t W);go_in;go_wp21;refine ij (k.o _) g λw1 y=>?_;clear g;exact EQ
theorem Zjj {c:eS} (h:wG w B c A1 k1 A2 k2 A3 k3) (y:wJ c) (i:Nat) (u:i<c.ch) (a b:Int) {N:Nat} {m:Int} (q:Bk w N 3 #[m]) (a7:0<=m) (a0:m<=1000000) (M:(fG c.ch i).length<=4611686018427387904):
  Calls prog 37 #[i,.agg #[a,b],(N,0),(B,0)] w λx w'=>x=.returned (decide (m+((fG c.ch i).length:Int)<=4096))/\Bk w' N 3 #[(m+(fG c.ch i).length:Int)]/\Fr (only N) w w':=by
 have l:=(bf w w).alloc aU (.cells #[a,b] 68);have h1:=h.below l;have g:=q.below l q.lt;have q3:=h1.bk.cell 3;have Q:=g.cell 0;have F:=g.frozen 0;simp at q3 Q F;obtain⟨R,a8,G,a3,rfl,l2,c2,I⟩:=h1.h i u;rw[show fG c.ch i=c.ch[i] from ZO _ u] at M⊢;clear I;have i0:(0:Int)<=i:=O;have a1:(i:Int)<c.ch:=O;have a6:=y.h;have z:=J g;have E:=J ((Fr.refl (only N) w).alloc (.cells #[a,b] 68));have a4:=h1.bk.lt;have a5:=g.lt;generalize c.ch[i].length=k at*;have a2:IntKind.i64.wrap (m+(k:Int))=m+(k:Int):=lO;clear h h1 y q g l;clear u;obtain⟨f,t,vs,ch,S⟩:=c;simp only at*;generalize ch.length=nc at*;have D:Hid (Bk ((w.alloc (.cells #[a,b] 68)).setCell (N,0) (m+(k:Int):Int)) N 3 #[(m+(k:Int):Int)]):=J (by simpa using z.o.put 0 (m+(k:Int):Int));go_in;go_wp2;go_region
 all_goals
  go_wp2;go_returns;exact⟨rfl,D.o,(E.o.setCell (p:=⟨N,0,none⟩) (.inl rfl) _).drew⟩
def xV (b:Int) (v:aT) (l:List dO) (g:Int×Int):Bool:=decide (ti v l g.1=bs (List.replicate b.toNat 120))&&l.all λx=> !(decide (g.1<x.1)&&decide (x.1<g.2))
theorem ZiG (g:List (Int×Int)) (a b:Int) (v:aT) (l:List dO):Br g (a,b) v l=(!decide (a=0)||g.all (xV b v l)):=rfl
theorem Zoj (h1:1<=b) (g:b<=128):mr b 120=List.replicate b.toNat 120:=by unfold mr;rw[aD];rintro(h|h|h);exact O;exact O;revert h;decide
abbrev vB (X:aq) (B G H nv nc ng:Nat) (f t x b:Int) (A1:bN) (k1:Nat) (A2:bN) (k2:Nat) (A3:bN) (k3:Nat) (W:aq):Prop:=
 (W.cell? ⟨B,0,none⟩=f/\W.cell? ⟨B,1,none⟩=t/\W.cell? ⟨B,2,none⟩=some (.slice A1 nv k1)/\W.cell? ⟨B,3,none⟩=some (.slice A2 nc k2)/\W.cell? ⟨B,4,none⟩=some (.slice A3 ng k3)/\W.cell? ⟨G,0,none⟩=x/\W.cell? ⟨H,1,none⟩=b/\Below X X W)
theorem vB.below {X:aq} {G H l nc k:Nat} {f t x:Int} {W W':aq} (h:vB X B G H l nc k f t x b A1 k1 A2 k2 A3 k3 W) (D:B<X) (E:G<X) (F:H<X) (hb:Below W W W'):vB X B G H l nc k f t x b A1 k1 A2 k2 A3 k3 W':=by obtain⟨h0,h1,p,q,u,y,z,g⟩:=h;have s:=g.size;exact⟨Below.cellAt hb aO h0,Below.cellAt hb aO h1,Below.cellAt hb aO p,Below.cellAt hb aO q,Below.cellAt hb aO u,Below.cellAt hb aO y,Below.cellAt hb aO z,g.trans (hb.mono s)⟩
def Bx (n:Nat) (c:eS):Bool:=c.vs.all (λs=>decide ((s.size:Int)<=150))&&c.ch.all (λl=>tz l 30)&&((decide ((n:Int)<=8)&&decide ((c.vs.length:Int)<=10))&&decide ((c.ch.length:Int)<=10)&&decide ((c.gaps.length:Int)<=20))
theorem HA {α:Type} {p:α->Bool} {l:List α} (h:k<l) (g:p l[k]=false):l.all p=false:=by rw[IC];exact⟨l[k],dt h,by rw[g];decide⟩
theorem Gh {α:Type} {p:α->Bool} {l:List α} (h:k<l) (g:(l.take k).all p=true) (q:p l[k]=true):(l.take (k+1)).all p=true:=by rw[dK h,List.all_append,g];simp[q]
theorem ZfN {c:eS} (h1:At w A1 (eN c.vs)) (b7:pN w A2 c.ch) (d8:c.vs.length<=9223372036854775807) (d7:c.ch.length<=9223372036854775807) (b9:∀l∈c.ch,l.length<=9223372036854775807) (A:bN) (n cap:Nat):
  Calls prog 10 #[(A,n,cap),.agg (iC c.f c.t A1 c.vs k1 A2 c.ch k2 A3 c.gaps k3)] w (bM w (Bx n c)):=by
 obtain⟨f,t,vs,ch,I⟩:=c;simp only[iC] at*;have Q:=(bf w w).alloc aU (.cells (iC f t A1 vs k1 A2 ch k2 A3 I k3) 27);obtain⟨a9,b0,M⟩:=bD (h1.below Q) (b7.below Q) Q;have y:Hid (Bx n ⟨f,t,vs,ch,I⟩=(vs.all (λs=>decide ((s.size:Int)<=150))&&ch.all (λl=>tz l 30)&&((decide ((n:Int)<=8)&&decide ((vs.length:Int)<=10))&&decide ((ch.length:Int)<=10)&&decide ((I.length:Int)<=20)))):=J rfl;obtain⟨D,E⟩:=ay vs.length;obtain⟨nc,z⟩:=ay ch.length;obtain⟨a6,a0⟩:=ay I.length;rw[E,z,a0] at y;have c4:=J (λ(W:aq) i (hi:i<ch.length) B kB (d6:At W B (cv ch[i]))=>ZjD d6 ch[i].length kB rfl (b9 _ (dt hi)) 30);rw[E] at d8;rw[z] at d7;generalize Bx n ⟨f,t,vs,ch,I⟩=R at*;have b5:=J E;have b4:=J z;rw[E,z,a0] at M⊢;rw[E,z,a0] at a9 b0;clear h1 b7 Q b9 E z a0;go_in;go_wp2;go_loopw [5] (λa7 wr=>∃k:Nat,k<=D/\a7=k/\Hid ((vs.take k).all (λs=>decide ((s.size:Int)<=150))=true)/\wr=w.alloc (.cells (iC f t A1 D k1 A2 nc k2 A3 a6 k3) 27)) (λa7 _=>(D-intOf a7).toNat);exact⟨0,cf _,rfl,J rfl,rfl⟩;obtain⟨k,e6,rfl,g,rfl⟩:=hrel;by_cases ab:k<D
 .have a5:k<vs:=(by rw[b5.o];exact ab);obtain⟨b1,e9,rfl,e8,c1⟩:=QB a9.o k a5;have e2:(0:Int)<=k:=O;have e3:(k:Int)<D:=O;have q:=λh=>HA (p:=λs:aT=>decide ((s.size:Int)<=150)) a5 h;have u:=λh=>Gh (p:=λs:aT=>decide ((s.size:Int)<=150)) a5 g.o h;generalize vs[k]=s at*;by_cases e7:(150:Int)<s.size;.have a3:Hid (R=false):=J (by rw[y.o,q (cI O)];rfl);clear q u;go_wp2;go_returns;exact⟨Z4 a3.o.symm,M.o⟩
  have a2:=J (u (dd O));clear q u;go_wp2;refine⟨⟨k+1,ab,ci,a2,Fv⟩,?_⟩;simp[intOf]<;>omega
 have c5:k=D:=O;subst c5;have a4:Hid (vs.all (λs=>decide ((s.size:Int)<=150))=true):=J (by have:=g.o;rw[d' (by rw[b5.o];exact aU)] at this;exact this);clear g;go_wp2;go_loopw [6] (λa8 wr=>∃j:Nat,j<=nc/\a8=j/\Hid ((ch.take j).all (λl=>tz l 30)=true)/\wr=w.alloc (.cells (iC f t A1 k k1 A2 nc k2 A3 a6 k3) 27)) (λa8 _=>(nc-intOf a8).toNat);exact⟨0,cf _,rfl,J rfl,rfl⟩;obtain⟨j,e5,rfl,g,rfl⟩:=hrel;by_cases b6:j<nc
 .have S:j<ch:=(by rw[b4.o];exact b6);obtain⟨e1,f2,G,d9,rfl,l2,c2,b8⟩:=b0.o j S;have e4:(0:Int)<=j:=O;have c3:(j:Int)<nc:=O;have a1:=J (c4.o _ j S G d9 b8);have q:=λh=>HA (p:=λl:List dO=>tz l 30) S h;have u:=λh=>Gh (p:=λl:List dO=>tz l 30) S g.o h;generalize tz ch[j] 30=F at*;clear b8;generalize ch[j].length=nl at*;go_wp21;refine cp a1.o ?_;cases F;.have a3:Hid (R=false):=J (by rw[y.o,a4.o,q rfl];rfl);clear q u;go_wp2;go_returns;exact⟨Z4 a3.o.symm,M.o⟩
  have a2:=J (u rfl);clear q u;go_wp2;refine⟨⟨j+1,b6,ci,a2,Fv⟩,?_⟩;simp[intOf]<;>omega
 have d5:j=nc:=O;subst d5;have b3:Hid (ch.all (λl=>tz l 30)=true):=J (by have:=g.o;rw[d' (by rw[b4.o];exact aU)] at this;exact this);rw[a4.o,b3.o] at y;clear g b3 a4
 by_cases c6:(n:Int)<=8<;>by_cases c7:(k:Int)<=10<;>by_cases c8:(j:Int)<=10<;>by_cases c9:(a6:Int)<=20<;>(
  simp only[c6,c7,c8,c9,decide_true,decide_false,Bool.and_true,Bool.and_false,Bool.false_and,Bool.true_and] at y;go_wp2;go_returns;exact⟨Z4 y.o.symm,M.o⟩)
