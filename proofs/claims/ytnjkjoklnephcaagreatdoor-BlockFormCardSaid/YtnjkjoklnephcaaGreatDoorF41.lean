import Derived.Test.YtnjkjoklnephcaaGreatDoorF36
import Derived.Test.YtnjkjoklnephcaaGreatDoorF21
import Derived.Test.YtnjkjoklnephcaaGreatDoorF26
import Derived.Test.YtnjkjoklnephcaaGreatDoorF38
set_option linter.all false
set_option maxRecDepth 100000
set_option maxHeartbeats 0
open Go.Proofs.Tryz (prog underlying125 underlying23)
section
variable{P Q:Prop}
theorem Rj(h:P:=by rw[XG u.o,b5.o];exact Vag ⟨rfl,rfl,y⟩):P:=h
theorem P'{P:Prop}(h:P:=by rw[Z0];show C.length<=_;have:C.length<=4096:=b2;omega):P:=h
theorem PW(h:P:=by rw[a9.o,Zan hu (by first|(rw[Vag rfl];exact b1)|(rw[aD a7];exact b1))]):P:=h
theorem OC(h:P:=by have h1:=b0.o.size;have L:=(j.o.lt b (by rw[k];rfl)).1;rw[World.size_alloc] at h1;omega):P:=h
theorem OA(h:P:=by clear b1 a2 hu;go_wp2;go_returns;exact⟨_,by rw[E.o];rfl,by rw[E.o];exact qv.nil _ _,M⟩):P:=h
theorem Od(h:P:=by rcases a6 with (h|h)|⟨l,h,_,L,_,a7⟩;injection h with h _;exact absurd h y;injection h with h _;exact absurd h y;injection h with h _;subst h;exact⟨L,(Zd.1 L).2.2⟩):P:=h
theorem nS(h:P:=by simp only[Q];clear M q L G F a3 E;go_in;go_wp21;refine aP (a0.o _ (a2.o _ (bf _ _)).2.2.1) λw1 z=>?_;obtain⟨_,_,aa,_⟩:=a2.o _ z;go_wp2;go_returns;exact⟨rfl,aa⟩):P:=h
theorem Aj(h:P:=by go_in;go_wp21;refine aP (a0.o _ (a2.o _ (bf _ _)).2.2.1) λw1 z=>?_;obtain⟨_,_,aa,_⟩:=a2.o _ z;go_wp2;go_returns;exact⟨_,by rw[E.o];rfl,by rw[E.o];exact qv.nil _ _,aa⟩):P:=h
theorem NI(h:P:=by subst y;have E:Hid (R=([],12)):=J (by rw[a9.o,XG u.o,b5.o];rw[aD (λh=>h.2.2 rfl)]);simp only[xa];clear F an a6;go_wp2;go_returns;exact⟨_,by rw[E.o];rfl,by rw[E.o];exact qv.nil _ _,a0⟩):P:=h
theorem NB(h:P:=by have E:Hid (R=([],12)):=J (by rw[a9.o,XG u.o];rw[aD (λh=>Q h.1)]);have D:((k:Int) !=1)=true:=(by rw[kx];omega);clear Q a2 b2;go_wp2;go_returns;exact⟨_,by rw[E.o];rfl,by rw[E.o];exact qv.nil _ _,M⟩):P:=h
theorem Nz(h:P:=by have E:Hid (R=([],12)):=J (by rw[a9.o,XG u.o,b5.o];rw[aD (λh=>I h.2.1)]);have y:((a5:Int) !=0)=true:=(by rw[kx];omega);clear F an a6 I;go_wp2;go_returns;exact⟨_,by rw[E.o];rfl,by rw[E.o];exact qv.nil _ _,a0⟩):P:=h
theorem Ni(h:P:=by go_in;go_wp21;refine aP (a0.o _ (a2.o _ (bf _ _)).2.2.1) λw1 z=>?_;obtain⟨_,_,aa,_⟩:=a2.o _ z;have y:=J z;clear z aa;go_wp21;refine(k.o _).mono ?_;rintro x w2 ⟨v,rfl,aa⟩;have a3:=J (y.o.trans (aa.mono y.o.size));obtain⟨u,z1,M,_⟩:=a2.o _ a3.o;clear aa;go_wp2;go_returns;exact⟨_,by rw[E.o];rfl,by rw[E.o];exact qv.nil _ _,M⟩):P:=h
theorem NW(h:P:=by
 rw[G] at b4 b6;clear j c9 a3 G;cases B;.have E:Hid (R=([],12)):=J (by rw[b6.o];rfl);go_wp21;refine ij b4.o b3 λl g=>?_;go_wp2;go_returns;exact⟨_,by rw[E.o];rfl,by rw[E.o];exact qv.nil _ _,g.o⟩
 have E:Hid (R=(iU f ts vs,0)):=J (by rw[b6.o];rfl);go_wp21;refine aP b4.o λl L=>?_;have g:=J (b3.o.trans (L.mono b3.o.size));have k:=J (f4.o.below L);clear L;go_wp2;go_returns;exact⟨_,by rw[E.o];rfl,by rw[E.o];exact⟨_,_,by rw[b7.o];rfl,k.o,c5.o⟩,g.o⟩):P:=h
theorem Nl(h:P:=by
 obtain⟨l,G,rfl,t,t0⟩:=Zkv (b9.o.below hb.o) i ab;obtain⟨p,I,rfl,u,a0⟩:=Zkw (c3.o.below hb.o) i (by rw[z.o];exact ab);have g:=Z7S f (ts:=ts) (vs:=vs) z.o.symm ab;have a1:=c4.o i ab;obtain⟨X,k⟩:=ay ts[i];obtain⟨V,e5⟩:∃V,vs[i]'(by rw[z.o];exact ab)=V:=⟨_,rfl⟩;rw[k] at t0 g a1;rw[e5] at a0 g;have F:IntKind.i64.wrap (X+f)=X+f:=(by rw[IntWalk.i64_in _ (by have:=b8.o;omega)]);have D:IntKind.i64.wrap (X+f+1)=X+f+1:=(by rw[IntWalk.i64_in _ (by have:=b8.o;omega)]);obtain⟨v',W',b4,b5,d⟩:=Zd0 j.o hb.o hb.o.size (by omega) (X+f+1,V);rw[<-g] at b5;obtain⟨b7,y,B⟩:=bD b4 b5 d;have q:(0:Int)<=i:=(by omega);have E:(i:Int)<ts:=(by omega);clear b4 b5 d g j hb a1 c9 k e5
 go_wp2_with (
  at_builtin;refine Z5 (by with_reducible rfl) rfl _ _ _ rfl _ _ (by rfl) (by rfl) b7.o ?_);refine⟨⟨i+1,ab,by go_num,y,B⟩,?_⟩;simp[intOf]<;>omega):P:=h
theorem HJ(h:P:=by
 have p:i<l:=(by rw[<-I.o];exact ab);obtain⟨u,z1,a3,F⟩:=a2.o _ hb.o;obtain⟨f9,g3,rfl,G,c0,c1⟩:=xx (Ha.o.below a3) i p;have e3:=a6.o i p;have a1:=a7.o i p;obtain⟨⟨X,V⟩,hTV⟩:=ay l[i];rw[hTV] at c0 c1 e3 a1;simp only at c0 c1 e3 a1;have D:IntKind.i64.wrap (X-(f+1))=X-(f+1):=(by rw[IntWalk.i64_in _ (by have:=g.o;omega)]);have z:=hb.o.alloc hb.o.size (.cells #[X,V] 81);have t:=Z6 j.o (Fr.of_below (S:=nob) ((bf wr wr).alloc aU (.cells #[X,V] 81))) (λ_ _ f=>f);obtain⟨v',W',b4,b5,d⟩:=Zei t z z.size (by omega) (X-(f+1));rw[<-e3] at b5;rw[World.size_alloc] at b4;obtain⟨b7,y,B⟩:=bD b4 b5 d;have q:(0:Int)<=i:=(by omega);have E:(i:Int)<n:=(by omega);clear b4 b5 d e3 hTV p z t j hb a1 a3 k
 go_wp2_with (
  at_builtin;refine Z5 (by with_reducible rfl) rfl _ _ _ rfl _ _ (by rfl) (by rfl) b7.o ?_);refine⟨⟨i+1,ab,by go_num,y,B⟩,?_⟩;simp[intOf]<;>omega):P:=h
end
namespace Wv
open Go.Proofs.Y
variable{b:aT}{f t:Int}{s:Int×Int}
theorem ZpX {l:List dO} (h:eE s f t b l=false):mX s f t b l=([],1):=by unfold mX;rw[Vag h]
theorem Znu (h:eE s f t b []=true):mX s f t b []=([],0):=by unfold mX;rw[aD uK,Vag rfl]
theorem ZpW {l:List dO} (h:eE s f t b l=true) (d:l≠[]):mX s f t b l=rb (tA s f l):=by unfold mX;rw[aD uK,aD d]
theorem Zkh {vs:a'} (hs:dS s=true) (hv:∀v∈vs,fO Z3 s (aH v)=true) (hl:vs.length<=4096):(mZ s vs).1.length<=1000000000:=by
 unfold mZ;split;.rename_i h0;obtain⟨w1,w2⟩:=XI hs h0;have hb:ZG s.2 vs=true:=ZH.2 ⟨λv h=>E_ h0 (hv v h),w1,w2,hl⟩;unfold Y8;rw[aD (by simp[hb])];have:=Vt hb 4;show(iB _ _ 4).length<=_;omega
 have:=Q6 hl (λv h=>by have:=Gc (hv v h);rwa [Z2] at this);omega
theorem Zkb (f:Int) (l:List dO) (i:Nat) (h:i<l):gY f (l.take (i+1))=gY f (l.take i)++[l[i].1-(f+1)]:=by unfold gY;rw[dK h,jy];rfl
theorem k_ {s:Int×Int} {t:Int} :∀ {l:List dO} {a:Int} {b:aT},oq s t a b l=true->∀c∈l,a<c.1/\c.1<=t
 |[],_,_,_,c,g=>by cases g
 |d::l,a,b,h,c,g=>by obtain⟨h1,j,_,_,k⟩:=Kn.1 h;rcases jA.1 g with rfl|g;exact⟨h1,j⟩;have:=k_ k c g;exact⟨O,this.2⟩
end Wv
namespace Go.Proofs.Y
open Wv Go.RowKit
theorem Zda {l:List Int} (h:Zi l=true) {c:Nat} (q:c<=2) (h1:c=1->2<=l.length):(DX c l).length<=3000000:=by have d:=λn=>Yf n;have g:c=0\/c=1\/c=2:=O;rcases g with rfl|rfl|rfl;show(bi 0++ZS (Za l)).length<=_;rw[bV,lS];have:=Yg h;have:=d 0;omega;show(oK l).length<=_;have j:=Qf h (h1 rfl);have hi:=(YH.1 j).1;have k:=Yg (Xi hi l);have p:=Yg (FI (c:=Zt l) h);rw[WE];unfold text;simp only[bV,lS,Z2,Z0];have:=d 1;have:=d (Zt l).st.toNat;have:=d (Zt l).f.toNat;have:=d (Zt l).s.toNat;have:=d (Zt l).n.toNat;have:=d (ZS (Za (Qy (Zt l) l)));omega;show(bi 2++(enc (hO (Za l))).1).length<=_;rw[bV,lS];have:=(UX h).2;have:=d 2;omega
theorem ZdF (l:List Int):(ke l).1.length<=3000000:=by cases h:Zi l;rw[Ve h];simp;obtain⟨c,d,h1,g⟩:=XT h;rw[g];exact Zda h d h1
theorem Zjb (W:aq) (B:Nat) (e:TypeId) (x y:aI) (d:B<=W):(W.alloc (.cells #[x,y] e)).ownsRow B e 2 (.slice (some (W,0)) 1 1) 1 [x,y]:=
 ⟨rfl,.inr ⟨W,1,#[x,y],rfl,d,heap_alloc_new W _,aU,fU,rfl,by simp⟩⟩
theorem NK {w:aq} {A:bN} {b:aT} {l:List (Int×aT)} (M:At w A (cv l)) (a c f t:Int) (q:rj a c w) (L:b.size<=1099511627776) (G:∀x∈l,x.2.size<=1099511627776) (n cap:Nat) (F:n=l) (a3:n<=9223372036854775807):
  Calls prog 33 #[.agg #[a,c],f,t,b,(A,n,cap)] w λx w'=>fZ w (mX (a,c) f t b l) x w':=by
 have a0:=J (λW (hb:Below w w W)=>Yk (M.below hb) a c f t (q.below hb) L G n cap F a3);have a2:=J (λW h=>Dc (w:=w) (W:=W) (a:=a) (c:=c) h);obtain⟨R,a4⟩:=ay (mX (a,c) f t b l);rw[a4];unfold fZ;cases E:eE (a,c) f t b l;rw[E] at a0;rw[ZpX E] at a4;subst a4;have Q:bs ([]:ax)=⟨#[]⟩:=rfl;exact nS;rw[E] at a0;by_cases h0:l=[];subst h0;rw[Znu E] at a4;subst a4;have Q:bs ([]:ax)=⟨#[]⟩:=rfl;have h8:n=0:=F;subst h8;exact nS;rw[ZpW E h0] at a4;obtain⟨c3,e7,g4,d1,d2⟩:=Xn.1 E;obtain⟨i1,g2,d9⟩:=Hb.1 e7;have d8:=Kr E;obtain⟨cc,_,_,d3⟩:=XT d8;have e8:=ZdF (gY f l);have f2:(ke (gY f l)).2=0:=(by rw[d3]);have c9:∀v∈l.map (·.2),fO Z3 (a,c) (aH v)=true:=λv h4=>by obtain⟨x,h5,rfl⟩:=iX.1 h4;exact QP d2 x h5
 have c7:(gY f l)=l.length:=(by unfold gY;rw[c']);have i5:n<=4096:=O;have i0:((n:Int)==0)=false:=by rw[lL];intro e;exact h0 (ia O)
 obtain⟨a7,a6,Ha,I,c5⟩:=ii (λi (h:i<l.length)=>k_ d2 _ (dt h)) (λi (h:i<l.length)=>Zkb f l i h) M F (λ(W:aq) A2 bd (h:At W A2 (bO (gY f l)))=>R5 h n bd (by rw[c7,F]) a3);unfold fZ at c5;rw[f2] at c5;have i7:Hid ((gY f l)=n):=J (by rw[c7,F]);have i6:IntKind.i64.wrap (f+1)=f+1:=lO;have f7:=J (λ(W:aq) (B:Nat)=>(Zl:W.ownsRow B 3 1 (.slice none 0 0) 0 []));obtain⟨T,c8⟩:=ay ((ke (gY f l)).1);rw[c8] at c5 e8;have b0:tA (a,c) f l=(1,T)::if a=3 then[] else[(oN (a,c),(mZ (a,c) (l.map (·.2))).1)]:=by unfold tA;rw[c8]
 have f8:Hid (gY f (l.take 0)=[]):=J rfl;have f4:Hid (gY f (l.take n)=gY f l):=J (by rw[d' (by rw[F];exact aU)]);have g:Hid (-1<=f/\t<=1099511627776):=J ⟨i1,d9⟩;by_cases b2:a=3;.rw[Vag b2] at b0;rw[b0] at a4;have b3:=J (λ(W:aq) A2 (h:At W A2 (mP [(1,T)])) bd=>RX h (λp a5=>by rw[jv.1 a5];show(1:Nat)<16;decide) (λp a5=>by rw[jv.1 a5];show T.length<=_;omega) 1 bd rfl aY);rw[a4] at b3;have b9:mP [(1,T)]=[.int .i64 1,.string (bs T)]:=rfl;have f3:=J b9;subst b2;generalize bs T=S at*;clear M q L G F E h0 a4 c3 e7 g4 d1 d2 d8 d3 f2 c9 c7 c8 b0 e8 i1 g2 d9 b9;go_in;go_wp21;refine aP (a0.o _ (a2.o _ (bf _ _)).2.2.1) λw1 z=>?_;have b8:=J z;clear z;go_wp2;go_loopw [12,32] (λe2 a8 wr=>∃i:Nat,i<=n/\a8=(i:Int)/\Hid (wr.ownsRow (w.alloc (.cells #[(3:Int),c] 68)) 3 1 e2 i ((gY f (l.take i)).map iv))/\Hid (Below (w.alloc (.cells #[(3:Int),c] 68)) (w.alloc (.cells #[(3:Int),c] 68)) wr)) (λ_ a8 _=>(n-intOf a8).toNat);exact⟨0,cf _,rfl,J (f7.o _ _),b8⟩;clear b8;obtain⟨i,hi,rfl,j,hb⟩:=hrel;obtain⟨A5,d5,rfl,k⟩:=Zh j.o;by_cases ab:i<n;exact HJ;have a1:i=n:=O;subst a1;rw[f4.o] at k;have e4:=J (c5.o wr A5 d5 k);clear j k;have h6:=a2.o _ hb.o;go_wp21;refine aP e4.o λc4 aa=>?_;have a9:=J (hb.o.trans (aa.mono hb.o.size));have b1:=a9.o.alloc a9.o.size (.cells #[(1:Int),S] 87);obtain⟨u,_,b6,_⟩:=a2.o _ b1;have e6:=J (b3.o (c4.alloc (.cells #[(1:Int),S] 87)) (some ⟨c4.heap.size,0,none⟩) (by rw[f3.o];exact(Bk.new c4 87 #[(1:Int),S]).at_) 1);have g9:=J b6;clear aa b1 b6 h6;go_wp21;refine ij e6.o g9 λe9 h1=>?_;go_wp2;go_returns;exact⟨rfl,h1.o⟩
 rw[aD b2] at b0;rw[b0] at a4;have e5:=Zkh c3 c9 (by rw[c'];exact d1);have IS:=(Zlg c3 b2 c9 (by rw[c'];exact d1)).1;have c6:=J (λ(W:aq) (hb:Below w w W)=>Zn9 (M.below hb) n cap F O a c c3 b2 G);rw[IS] at c6;obtain⟨D,d6⟩:=ay ((mZ (a,c) (l.map (·.2))).1);obtain⟨K,d7⟩:=ay (oN (a,c));have f5:K<16:=(by rw[<-d7];exact Zp3 _);rw[d6,d7] at c6 a4;rw[d6] at e5;have b3:=J (λ(W:aq) A2 (h:At W A2 (mP [(1,T),(K,D)])) bd=>RX h (λp a5=>by rcases jA.1 a5 with rfl|a5;show(1:Nat)<16;decide;rw[jv.1 a5];exact f5) (λp a5=>by rcases jA.1 a5 with rfl|a5;show T.length<=_;omega;rw[jv.1 a5];exact e5) 2 bd rfl aY);rw[a4] at b3;have f6:xM (K:Int) D 0=.tuple #[.agg #[K,bs D],(0:Int)]:=rfl;rw[f6] at c6;have b9:mP [(1,T),(K,D)]=[.int .i64 1,.string (bs T)]++[.int .i64 (K:Int),.string (bs D)]:=rfl;have f3:=J b9;have i4:(a !=3)=true:=(by rw[kx];exact b2);generalize bs T=S at*;generalize bs D=S2 at*;generalize (K:Int)=KI at*;clear M q L G F E h0 a4 c3 e7 g4 d1 d2 d8 d3 f2 c9 c7 c8 b0 e8 i1 g2 d9 b9 IS e5 f6 d7 f5 d6;go_in;go_wp21;refine aP (a0.o _ (a2.o _ (bf _ _)).2.2.1) λw1 z=>?_;have b8:=J z;clear z;go_wp2;go_loopw [12,32] (λe2 a8 wr=>∃i:Nat,i<=n/\a8=(i:Int)/\Hid (wr.ownsRow (w.alloc (.cells #[a,c] 68)) 3 1 e2 i ((gY f (l.take i)).map iv))/\Hid (Below (w.alloc (.cells #[a,c] 68)) (w.alloc (.cells #[a,c] 68)) wr)) (λ_ a8 _=>(n-intOf a8).toNat);exact⟨0,cf _,rfl,J (f7.o _ _),b8⟩;clear b8;obtain⟨i,hi,rfl,j,hb⟩:=hrel;obtain⟨A5,d5,rfl,k⟩:=Zh j.o;by_cases ab:i<n;exact HJ;have a1:i=n:=O;subst a1;rw[f4.o] at k;have e4:=J (c5.o wr A5 d5 k);clear j k;go_wp21;refine aP e4.o λc4 aa=>?_;have a9:=J (hb.o.trans (aa.mono hb.o.size));have b1:=a9.o.alloc a9.o.size (.cells #[(1:Int),S] 87);obtain⟨u,z1,b6,_⟩:=a2.o _ b1;obtain⟨g8,e1,g6⟩:=bD (Zjb c4 (w.alloc (.cells #[a,c] 68)) 87 (1:Int) (.string S) a9.o.size) b1 (c6.o _ b6);clear aa b1 b6;go_wp21;refine aP g6.o λe9 an=>?_;have d4:=(e1.o.trans (an.mono e1.o.size)).alloc (co e1.o.size an.size) (.cells #[KI,S2] 87);have g1:=Z6 (Z6 g8.o (Fr.of_below (S:=nob) an) (λ_ _ f=>f)) (Fr.of_below (S:=nob) ((bf e9.heap.size e9).alloc aU (.cells #[KI,S2] 87))) (λ_ _ f=>f);obtain⟨v',W',b4,b5,d,_⟩:=Gi (P:=prog) 125 87 _ _ 2 underlying125 N1 rfl aY g1 d4 d4.size [.int .i64 KI,.string S2] rfl I5 fU O;obtain⟨g5,h7,g7,g0⟩:=Zh b5;rw[World.size_alloc] at b4;have b7:=J b4;have e6:=J (b3.o W' g5 (by rw[f3.o];exact g0) h7);have h2:=J (a2.o _ d).2.2.1;subst g7;clear b4 b5 d g1 d4 an g0
 go_wp2_with (
  at_builtin;refine Z5 iG rfl _ _ _ rfl _ _ (by rfl) (by rfl) b7.o ?_);go_wp21;refine ij e6.o h2 λi8 h9=>?_;go_wp2;go_returns;exact⟨rfl,h9.o⟩
end Go.Proofs.Y
namespace Wv
open Go.Proofs.Y
variable{b:aT}{d:ax}{f t:Int}{n:Nat}{s:Int×Int}{ts:List Int}{vs:a'}
theorem Znr (h:eE s f t b []=false):iS s f t b d=([],1):=by unfold iS;rw[Vag h]
theorem Znt (h:eE s f t b []=true):iS s f t b []=([],0):=by unfold iS;rw[aD uK,Vag rfl]
theorem Zns (h:eE s f t b []=true) (g:4096<d.length):iS s f t b d=([],12):=by unfold iS;rw[aD uK,aD (by intro e;subst e;simp at g),Vag g]
theorem Mn (h:eE s f t b []=true) (h0:d≠[]) (g:¬4096<d.length):iS s f t b d=match qZ s f d with
  |none=>([],12)
  |some l=>if eE s f t b l=true then(l,0) else([],12):=by unfold iS;rw[aD uK,aD h0,aD g];cases qZ s f d<;>rfl
theorem Zng (h:jJ d=none):qZ s f d=none:=by unfold qZ;rw[h]
theorem Zan {fr:List (Nat×ax)} (h:jJ d=some fr) (g:fr.length≠if s.1=3 then 1 else 2):qZ s f d=none:=by
  unfold qZ;rw[h];rcases fr with _|⟨p,r⟩;rfl;simp only;split
  . have : ∀ n, Yw s n r = none := λn => by
      unfold Yw;by_cases j:s.1=3;rw[Vag j] at g⊢;rw[aD (by intro e;subst e;exact g rfl)];rw[aD j] at g⊢
      match r,g with
      |[],_=>rfl
      |[q],g=>exact absurd rfl g
      |_::_::_,_=>rfl
    rw[this];rfl
  rfl
theorem XG {p:Nat×ax} {r:List (Nat×ax)} (h:jJ d=some (p::r)):qZ s f d=if p.1=1/\(nE p.2 4096).2=0/\(nE p.2 4096).1≠[] then(Yw s (nE p.2 4096).1 r).map (iU f (nE p.2 4096).1) else none:=by unfold qZ;rw[h]
theorem Zfw (d:s.1=3):Yw s n []=some (List.replicate n ⟨#[]⟩):=by unfold Yw;rw[Vag d,Vag rfl]
theorem ZbW {q:Nat×ax} (d:s.1≠3):Yw s n [q]=if q.1=oN s/\(ow s q.2 n).2=0/\(ow s q.2 n).1=n then some (ow s q.2 n).1 else none:=by unfold Yw;rw[aD d]
theorem Z7S (f:Int) (h:ts=vs.length) {i:Nat} (hi:i<ts):(iU f ts vs).take (i+1)=(iU f ts vs).take i++[(ts[i]+f+1,vs[i]'O)]:=by have d:i<(iU f ts vs):=(by rw[XK f ts vs h];exact hi);rw[dK d];congr 2;simp[iU]
theorem Sw (f:Int) (g:∀v∈vs,v.size<=128):∀c∈iU f ts vs,c.2.size<=1099511627776:=by intro c d;obtain⟨i,hi,rfl⟩:=List.getElem_of_mem d;have j:i<vs:=(by unfold iU at hi;rw[Ah] at hi;omega);have e:((iU f ts vs)[i]).2=vs[i]:=(by simp[iU]);rw[e];have:=g _ (dt j);omega
theorem Uv:∀ {l:List (Nat×ax)} {d:ax},Y0 l=some d->∀p∈l,p.2.length<=4096
 |[],_,_,p,g=>by cases g
 |q::l,d,h,p,g=>by unfold Y0 at h;rcases j:Zo q.1 q.2 with _|w;rw[j] at h;cases h;rw[j] at h;simp only at h;rcases u:Y0 l with _|x;rw[u] at h;cases h;rcases jA.1 g with rfl|g;have t:=X7 (k:=p.1) (c:=p.2);rw[j] at t;exact of_decide_eq_true t.symm;exact Uv u p g
theorem KT {l:List (Nat×ax)} (h:jJ d=some l):∀p∈l,p.2.length<=4096:=Uv (JT d aU h)
end Wv
namespace Go.Proofs.Y
open Wv Go.RowKit
section
variable{A:bN}{C d:ax}{b:aT}{fr:List (Nat×ax)}{n:Nat}{s:Int×Int}{w:aq}
def qv (B:Nat) (w:aq) (v:aI) (l:List (Int×aT)):Prop:=∃A cap,v=.slice A l cap/\At w A (cv l)/\∀b o,A=some ⟨b,o,none⟩->B<=b
theorem qv.nil (B:Nat) (w:aq):qv B w (.slice none 0 0) []:=⟨none,0,rfl,At.nil _ _,λ_ _ h=>po⟩
def yg (w:aq) (r:List (Int×aT)×Nat) (x:Ending) (w':aq):Prop:=∃v,x=.returned (.tuple #[v,r.2])/\qv w w' v r.1/\Below w w w'
theorem Zmg (hd:d.length<=1000000) (h:jJ d=none) (W:aq):cK 84 #[bs d] W λx w'=>∃v,x=.returned (.tuple #[v,(12:Int)])/\Below W W w':=
 (RM d hd W).mono λx w' g=>by unfold BK at g;rw[h] at g;obtain⟨v,h1,_,j⟩:=g;exact⟨v,by simpa using h1,j⟩
theorem WN (hd:d.length<=1000000) (h:jJ d=some fr) (W:aq):cK 84 #[bs d] W λx w'=>∃A cap,x=.returned (.tuple #[.slice A fr cap,(0:Int)])/\At w' A (mP fr)/\Below W W w':=
 (RM d hd W).mono λx w' g=>by unfold BK at g;rw[h] at g;obtain⟨v,h1,⟨A,cap,j,k⟩,l⟩:=g;subst j;exact⟨A,cap,by simpa using h1,k,l⟩
theorem ZoV {k:Nat} (d:s.1≠3):Yw s n [(k,C)]=vr s k C n:=by rw[ZbW d];unfold vr;simp only[Int.ofNat_inj]
theorem Zm4 {k:Int} {r:a'} (h:vr s k C n=some r):r=n/\∀v∈r,v.size<=128:=by
 unfold vr at h;split at h;.rename_i hc;injection h with h;subst h;exact⟨by have:=hc.2.2;omega,Zcp _ _ _⟩
 cases h
theorem Zkv {l:List Int} (d:At w A (bO l)) (k:Nat) (h:k<l):∃b o,A=some ⟨b,o,none⟩/\b<w.heap.size/\w.cell? ⟨b,o+k,none⟩=some (.int .i64 l[k]):=
 d.get k _ (by unfold bO;rw[jX,fb h];rfl)
theorem Zkw {l:a'} (d:At w A (bz l)) (k:Nat) (h:k<l):∃b o,A=some ⟨b,o,none⟩/\b<w.heap.size/\w.cell? ⟨b,o+k,none⟩=some (.string l[k]):=
 d.get k _ (by unfold bz;rw[jX,fb h];rfl)
theorem Zf9 (a c f t:Int) (B:rj a c w) (j:b.size<=1099511627776) (d:ax) (hd:d.length<=1000000000) (q:eE (a,c) f t b []=false\/d=[]\/4096<d.length\/jJ d=none):
  Calls prog 52 #[.agg #[a,c],f,t,b,bs d] w λx w'=>yg w (iS (a,c) f t b d) x w':=by
 have a0:=J (λW (hb:Below w w W)=>Yk (l:=[]) (At.nil W none) a c f t (B.below hb) j (λx Q=>by cases Q) 0 0 rfl aY);have a2:=J (λW h=>Dc (w:=w) (W:=W) (a:=a) (c:=c) h);unfold yg;cases g:eE (a,c) f t b [];rw[g] at a0;have E:=J (Znr (d:=d) g);generalize iS (a,c) f t b d=R at*;generalize bs d=S at*;clear B j hd q g;exact Aj;rw[g] at a0;have I:=YU d;have D:(bs d).size=d:=Z0 d;by_cases h0:d=[];subst h0;have E:=J (Znt g);generalize iS (a,c) f t b []=R at*;rw[show bs ([]:ax)=⟨#[]⟩ from rfl];clear B j hd q g I D;exact Aj;rw[cI h0] at I;by_cases p:4096<d.length;have E:=J (Zns g p);have L:(4096:Int)<((bs d).size:Int):=O;generalize iS (a,c) f t b d=R at*;generalize bs d=S at*;clear B j hd q g h0 D p;exact Aj;have G:jJ d=none:=by rcases q with h|h|h|h;rw[g] at h;cases h;exact absurd h h0;exact absurd h p;exact h
 have E:Hid (iS (a,c) f t b d=([],12)):=J (by rw[Mn g h0 p,Zng G]);have L:¬(4096:Int)<((bs d).size:Int):=O;have k:=J (λW=>Zmg O G W);generalize iS (a,c) f t b d=R at*;generalize bs d=S at*;clear B j hd q g h0 D p G;by_cases F:a=3;subst F;exact Ni;have a1:(a==3)=false:=(by rw[lL];exact F);clear F;exact Ni
theorem ZmI {α:Type} {l:List α} (h:l.length=2):∃p q,l=[p,q]:=by
 match l,h with
 |[p,q],_=>exact⟨p,q,rfl⟩
theorem SY {W:aq} {p:Addr} {v:aI} (hb:Below w w W) (g:p.block<w) (d:w.cell? p=some v):W.cell? p=some v:=by rw[World.cell?_of_block (hb.block _ g)];exact d
theorem ZpC (a c k:Int) (n:Nat) (D:ax) (g:dS (a,c)=true) (d:a≠3) (hd:D.length<=1000000000):
  cK 85 #[.agg #[a,c],.agg #[k,bs D],n] w λx w'=>∃A m cap,x=.returned (.tuple #[.slice A m cap,.bool (vr (a,c) k D n).isSome])/\(∀r,vr (a,c) k D n=some r->m=r.length/\At w' A (bz r))/\Below w w w':=
 Zn8 a c k n D g d hd
theorem Zfa (a c f t:Int) (f5:rj a c w) (L:b.size<=1099511627776) (d:ax) (c6:eE (a,c) f t b []=true) (h0:d≠[]) (d3:¬4096<d.length) (hu:jJ d=some fr) (a7:a≠3):
  Calls prog 52 #[.agg #[a,c],f,t,b,bs d] w λx w'=>yg w (iS (a,c) f t b d) x w':=by
 have g5:=J (λW (hb:Below w w W)=>Yk (l:=[]) (At.nil W none) a c f t (f5.below hb) L (λx k9=>by cases k9) 0 0 rfl aY);rw[c6] at g5;have j1:=J (λW A cap (vs:a') {ts:List Int} (k6:vs=ts.length) (k8:∀v∈vs,v.size<=128) (h:At W A (cv (iU f ts vs))) (hb:Below w w W) (m9:ts.length<=4096)=>Yk h a c f t (f5.below hb) L (Sw f k8) ts cap (by rw[XK f ts vs k6.symm]) O);have c7:=J (λW h=>Dc (w:=w) (W:=W) (a:=a) (c:=c) h);obtain⟨i0,i4,_⟩:=Xn.1 c6;obtain⟨i1,l0,l1⟩:=Hb.1 i4;have b8:Hid (-1<=f/\f<=1099511627776):=J ⟨i1,O⟩;have j8:=J i0;have j9:=YU d;rw[cI h0] at j9;have n0:¬(4096:Int)<((bs d).size:Int):=Ar;have i9:=J (λW=>WN O hu W);have a9:=J (Mn c6 h0 d3);unfold yg;generalize iS (a,c) f t b d=R at*;generalize bs d=S at*;have m3:(a==3)=false:=(by rw[lL];exact a7);have k4:(a !=3)=true:=(by rw[kx];exact a7);clear f5 L c6 h0 d3 i0 i4 i1 l0 l1;go_in;go_wp21;refine aP (g5.o _ (c7.o _ (bf _ _)).2.2.1) λw1 f2=>?_;obtain⟨_,_,aa,_⟩:=c7.o _ f2;have g8:=J f2;clear f2 aa;go_wp21;refine(i9.o _).mono ?_;rintro x n2 ⟨A2,m7,rfl,a2,aa⟩;have e6:=J (g8.o.trans (aa.mono g8.o.size));obtain⟨f8,f9,M,h2⟩:=c7.o _ e6.o;clear aa;by_cases b1:fr.length=2
 .obtain⟨p,q,rfl⟩:=ZmI b1;obtain⟨c8,D⟩:=q;obtain⟨k,C⟩:=p;obtain⟨d4,d7,rfl,e3,c0,c1⟩:=HB a2 0 (by simp);obtain⟨j6,l5,f3,_,d0,e8⟩:=HB a2 1 (by simp);injection f3 with f3;injection f3 with k1 k2;subst k1;subst k2;simp at d0 e8;simp at c0 c1;try simp only[gd,xa]
  have u:=J hu;have b2:=KT hu (k,C) fi;by_cases Q:k=1
  .subst Q;have f7:=J (λW=>R4 (w:=W) (bs C) P' 4096);obtain⟨⟨ts,a5⟩,cU⟩:=ay (nE C 4096);rw[Zm,cU] at f7;unfold rh at f7;have b5:=J cU;have a6:=JA C 4096;rw[cU] at a6;generalize bs C=SC at*;have m6:=J M;clear a2 b2 M cU;go_wp21;refine(f7.o _).mono ?_;rintro x a8 ⟨v,rfl,⟨A3,m1,h7,F⟩,an⟩;try simp only at h7 F
   subst h7;have e7:=J (e6.o.trans (an.mono e6.o.size));obtain⟨f8,f9,a0,h2⟩:=c7.o _ e7.o;by_cases I:a5=0
   .subst I;by_cases y:ts=[];exact NI;have m2:((ts.length:Int)==0)=false:=by rw[lL];intro e;exact y (ia O)
    have e9:Zi ts=true/\ts.length<=4096:=Od;have i6:Hid (qZ (a,c) f d=(Yw (a,c) ts.length [(c8,D)]).map (iU f ts)):=J Rj;have c4:=J (λi (h:i<ts.length)=>(Zd.1 e9.1).2.1 ts[i] (dt h));have j5:=e9.2;have m8:=Y5 (P:=prog) 23 9 (.string ⟨#[]⟩) 16 underlying23 GV rfl (ts.length:Int) ts rfl O O a8;have j7:=(Bk.new a8 9 (Array.replicate ts.length (.string ⟨#[]⟩))).at_;have d6:=e7.o.alloc e7.o.size (.cells (Array.replicate ts.length (.string ⟨#[]⟩)) 9);have h8:=F.below ((bf a8 a8).alloc aU (.cells (Array.replicate ts.length (.string ⟨#[]⟩)) 9));have g4:=J an;clear an a6 F y e9;have h5:=KT u.o (c8,D) (by simp);have d2:=J (λW=>ZpC (w:=W) a c (c8:Int) ts D j8.o a7 (by show D.length<=_;have:D.length<=4096:=h5;omega));obtain⟨a4,d5⟩:=ay (vr (a,c) (c8:Int) D ts);rw[d5] at d2;have e4:Hid (Yw (a,c) ts.length [(c8,D)]=a4):=J (by rw[ZoV a7];exact d5);have g7:Hid (∀r,a4=some r->r.length=ts.length/\∀v∈r,v.size<=128):=J (λr k7=>Zm4 (d5.trans k7));have g1:=(g4.o.trans ((bf a8 a8).alloc aU (.cells (Array.replicate ts.length (.string ⟨#[]⟩)) 9)|>.mono g4.o.size)).drew;have g0:∀X,Below (a8.alloc (.cells (Array.replicate ts.length (.string ⟨#[]⟩)) 9)).drew (a8.alloc (.cells (Array.replicate ts.length (.string ⟨#[]⟩)) 9)).drew X->X.cell? (w,0)=some (.int .i64 a)/\X.cell? (w,1)=some (.int .i64 c)/\X.cell? (d4,d7+2)=some (.int .i64 (c8:Int))/\X.cell? (d4,d7+3)=some (.string (bs D)):=λX h=>by have g:=c7.o X (d6.drew.trans (h.mono d6.drew.size));have h6:=g1.trans (h.mono g1.size);exact⟨g.1,g.2.1,SY h6 e3 d0,SY h6 e3 e8⟩
    have l6:=J g0;have h0:=g0 _ (bf _ _);have i7:=J d6.drew;have j2:=J h8;generalize bs D=SD at*;clear d5 h5 g1 g0 d6 h8 a0 j7 c0 c1 d0 e8;go_wp2;generalize a8.alloc (.cells (Array.replicate ts.length (.string ⟨#[]⟩)) 9)=wM at*
    go_region_held3 (λX=>X.cell? (w,0)=some (.int .i64 a)/\X.cell? (w,1)=some (.int .i64 c)/\X.cell? (d4,d7+2)=some (.int .i64 (c8:Int))/\X.cell? (d4,d7+3)=some (.string SD)) (first|with_reducible assumption) (first
     |(go_at_call 85;with_reducible refine(d2.o _).mono ?_;rintro r l9 ⟨A4,l3,n1,rfl,d3,a0⟩;have d9:=J d3;have k0:=l6.o _ a0;have g9:=J a0;clear d3 a0));have b0:=J (i7.o.trans (g9.o.mono i7.o.size));have b9:=J (j2.o.drew.below g9.o);clear h0 k0 h2 f8 f9 e3;have f6:=c7.o _ b0.o;rcases a4 with _|vs;.have E:Hid (R=([],12)):=J (by rw[a9.o,i6.o,e4.o];rfl);clear d9;have i8:=f6.2.2.1;clear f6;simp only[Option.isSome_none];go_wp2;go_returns;exact⟨_,yI,by rw[E.o];exact qv.nil _ _,i8⟩
    clear f6;obtain⟨i5,g6⟩:=d9.o vs rfl;obtain⟨c6,h3⟩:=g7.o vs rfl;obtain⟨c3,z,l7,j3⟩:=dc g6 c6 h3 e4.o;have j0:l3=ts:=i5.trans c6;subst j0;clear i5 g6 c6 h3 d9 g7 e4;simp only[Option.isSome_some];go_wp2;generalize l9=wL at*;go_loopw [19,92] (λl8 d8 wr=>∃i:Nat,i<=ts.length/\d8=(i:Int)/\Hid (wr.ownsRow wL 81 2 l8 i (cv ((iU f ts vs).take i)))/\Hid (Below wL wL wr)) (λ_ d8 _=>(ts.length-intOf d8).toNat);exact EO;obtain⟨i,hi,rfl,j,hb⟩:=hrel;obtain⟨g3,l2,rfl,c9⟩:=Zh j.o;have k3:=J (b0.o.trans (hb.o.mono b0.o.size));obtain⟨f8,f9,a3,m5⟩:=c7.o _ k3.o;by_cases ab:i<ts.length;exact Nl;have a1:i=ts.length:=O;subst a1;rw[d' (by rw[XK f ts vs z.o.symm];exact aU)] at c9;obtain⟨b4,f4,c5,b3⟩:=dc (j1.o wr g3 l2 vs z.o l7.o c9 a3 j5) c9 (λb o (k:g3=some ⟨b,o,none⟩)=>(OC:w.heap.size<=b)) a3;have b6:Hid (R=if eE (a,c) f t b (iU f ts vs)=true then(iU f ts vs,0) else([],12)):=J (by rw[a9.o,i6.o,j3.o];rfl);have b7:=J (XK f ts vs z.o.symm);obtain⟨B,G⟩:=ay (eE (a,c) f t b (iU f ts vs));exact NW
   exact Nz
  exact NB
 have E:Hid (R=([],12)):=J PW;have k5:((fr.length:Int) !=2)=true:=eV;exact OA
theorem Zjn (c f t:Int) (a4:rj 3 c w) (L:b.size<=1099511627776) (d:ax) (d1:eE (3,c) f t b []=true) (h0:d≠[]) (e4:¬4096<d.length) (hu:jJ d=some fr):
  Calls prog 52 #[.agg #[(3:Int),c],f,t,b,bs d] w λx w'=>yg w (iS (3,c) f t b d) x w':=by
 have e1:=J (λW (hb:Below w w W)=>Yk (l:=[]) (At.nil W none) 3 c f t (a4.below hb) L (λx g5=>by cases g5) 0 0 rfl aY);rw[d1] at e1;have f6:=J (λW A cap (vs:a') {ts:List Int} (g3:vs=ts.length) (g4:∀v∈vs,v.size<=128) (h:At W A (cv (iU f ts vs))) (hb:Below w w W) (i8:ts.length<=4096)=>Yk h 3 c f t (a4.below hb) L (Sw f g4) ts cap (by rw[XK f ts vs g3.symm]) O);have c6:=J (λW h=>Dc (w:=w) (W:=W) (a:=3) (c:=c) h);obtain⟨e8,e9,_⟩:=Xn.1 d1;obtain⟨i1,g6,g7⟩:=Hb.1 e9;have b8:Hid (-1<=f/\f<=1099511627776):=J ⟨i1,O⟩;have i7:=J e8;have f9:=YU d;rw[cI h0] at f9;have i9:¬(4096:Int)<((bs d).size:Int):=Ar;have f5:=J (λW=>WN O hu W);have a9:=J (Mn d1 h0 e4);unfold yg;generalize iS (3,c) f t b d=R at*;generalize bs d=S at*

 clear a4 L d1 h0 e4 e8 e9 i1 g6 g7;go_in;go_wp21;refine aP (e1.o _ (c6.o _ (bf _ _)).2.2.1) λw1 d6=>?_;obtain⟨_,_,aa,_⟩:=c6.o _ d6;have e2:=J d6;clear d6 aa;go_wp21;refine(f5.o _).mono ?_;rintro x j1 ⟨A2,i5,rfl,a2,aa⟩;have d3:=J (e2.o.trans (aa.mono e2.o.size));obtain⟨f2,f3,M,g1⟩:=c6.o _ d3.o;clear aa;by_cases b1:fr.length=1
 .obtain⟨p,rfl⟩:=List.length_eq_one_iff.1 b1;obtain⟨k,C⟩:=p;obtain⟨i4,j0,rfl,h7,c0,c1⟩:=HB a2 0 (by simp);skip;simp at c0 c1;try simp only[gd,xa]
  have u:=J hu;have b2:=KT hu (k,C) fi;by_cases Q:k=1
  .subst Q;have d7:=J (λW=>R4 (w:=W) (bs C) P' 4096);obtain⟨⟨ts,a5⟩,cU⟩:=ay (nE C 4096);rw[Zm,cU] at d7;unfold rh at d7;have b5:=J cU;have a6:=JA C 4096;rw[cU] at a6;generalize bs C=SC at*;have i0:=J M;clear a2 b2 M cU;go_wp21;refine(d7.o _).mono ?_;rintro x a8 ⟨v,rfl,⟨A3,h5,e3,F⟩,an⟩;try simp only at e3 F
   subst e3;have c8:=J (d3.o.trans (an.mono d3.o.size));obtain⟨f2,f3,a0,g1⟩:=c6.o _ c8.o;by_cases I:a5=0
   .subst I;by_cases y:ts=[];exact NI;have h6:((ts.length:Int)==0)=false:=by rw[lL];intro e;exact y (ia O)
    have d5:Zi ts=true/\ts.length<=4096:=Od;have h3:Hid (qZ (3,c) f d=(Yw (3,c) ts.length []).map (iU f ts)):=J Rj;have c4:=J (λi (h:i<ts.length)=>(Zd.1 d5.1).2.1 ts[i] (dt h));have f8:=d5.2;have i6:=Y5 (P:=prog) 23 9 (.string ⟨#[]⟩) 16 underlying23 GV rfl (ts.length:Int) ts rfl O O a8;have d4:=(Bk.new a8 9 (Array.replicate ts.length (.string ⟨#[]⟩))).at_;have e6:=c8.o.alloc c8.o.size (.cells (Array.replicate ts.length (.string ⟨#[]⟩)) 9);have e7:=F.below ((bf a8 a8).alloc aU (.cells (Array.replicate ts.length (.string ⟨#[]⟩)) 9));clear an a6 F y d5;obtain⟨vs,c7⟩:∃vs:a',vs=List.replicate ts.length ⟨#[]⟩:=⟨_,rfl⟩;have d9:(Array.replicate ts.length (Value.string ⟨#[]⟩)).toList=bz vs:=(by rw[c7];unfold bz;rw[List.map_replicate,Array.toList_replicate];rfl);rw[d9] at d4;have c3:=J d4;have z:Hid (vs=ts.length):=J (by rw[c7,iE]);have g9:Hid (∀v∈vs,v.size<=128):=J (λv a4=>by rw[c7] at a4;rw[(Cf.1 a4).2];decide);have f7:Hid (Yw (3,c) ts.length []=some vs):=J (by rw[c7];exact Zfw rfl);have b9:=J e7;have b0:=J e6;clear d4 e7 e6 d9 c7 a0;go_wp2;generalize a8.alloc (.cells (Array.replicate ts.length (.string ⟨#[]⟩)) 9)=wL at*;generalize (some (⟨a8.heap.size,0,none⟩:Addr))=AV at*;clear c8;go_loopw [19,92] (λh2 d2 wr=>∃i:Nat,i<=ts.length/\d2=(i:Int)/\Hid (wr.ownsRow wL 81 2 h2 i (cv ((iU f ts vs).take i)))/\Hid (Below wL wL wr)) (λ_ d2 _=>(ts.length-intOf d2).toNat);exact EO;obtain⟨i,hi,rfl,j,hb⟩:=hrel;obtain⟨d8,g8,rfl,c9⟩:=Zh j.o;have g0:=J (b0.o.trans (hb.o.mono b0.o.size));obtain⟨f2,f3,a3,h8⟩:=c6.o _ g0.o;by_cases ab:i<ts.length;exact Nl;have a1:i=ts.length:=O;subst a1;rw[d' (by rw[XK f ts vs z.o.symm];exact aU)] at c9;obtain⟨b4,f4,c5,b3⟩:=dc (f6.o wr d8 g8 vs z.o g9.o c9 a3 f8) c9 (λb o (k:d8=some ⟨b,o,none⟩)=>(OC:w.heap.size<=b)) a3;have b6:Hid (R=if eE (3,c) f t b (iU f ts vs)=true then(iU f ts vs,0) else([],12)):=J (by rw[a9.o,h3.o,f7.o];rfl);have b7:=J (XK f ts vs z.o.symm);obtain⟨B,G⟩:=ay (eE (3,c) f t b (iU f ts vs));exact NW
   exact Nz
  exact NB
 have E:Hid (R=([],12)):=J PW;have g2:((fr.length:Int) !=1)=true:=eV;exact OA
theorem ZbO (a c f t:Int) (j:rj a c w) (g:b.size<=1099511627776) (d:ax) (hd:d.length<=1000000000):
  cK 52 #[.agg #[a,c],f,t,b,bs d] w λx w'=>yg w (iS (a,c) f t b d) x w':=by by_cases h:eE (a,c) f t b []=false\/d=[]\/4096<d.length\/jJ d=none;exact Zf9 a c f t j g d hd h;have h1:eE (a,c) f t b []=true:=(by cases q:eE (a,c) f t b []<;>simp_all);have h0:d≠[]:=λe=>h (.inr (.inl e));have l:¬4096<d.length:=λe=>h (.inr (.inr (.inl e)));obtain⟨fr,p⟩:∃fr,jJ d=some fr:=Option.ne_none_iff_exists'.1 (λe=>h (.inr (.inr (.inr e))));by_cases k:a=3;subst k;exact Zjn c f t j g d h1 h0 l p;exact Zfa a c f t j g d h1 h0 l p k
end
variable{A1 A2 A3:bN}{B k k1 k2 k3:Nat}{b:Int}{w:aq}
structure wG (w:World) (B:Nat) (c:eS) (A1:Option Addr) (k1:Nat) (A2:Option Addr) (k2:Nat) (A3:Option Addr) (k3:Nat):Prop where
 bk:Bk w B 27 (iC c.f c.t A1 c.vs.length k1 A2 c.ch.length k2 A3 c.gaps.length k3)
 v:At w A1 (eN c.vs)
 h:pN w A2 c.ch
 g:At w A3 (pv c.gaps)
theorem wG.below {w':aq} {c:eS} (h:wG w B c A1 k1 A2 k2 A3 k3) (hb:Below w w w'):wG w' B c A1 k1 A2 k2 A3 k3:=⟨h.bk.below hb h.bk.lt,h.v.below hb,h.h.below hb,h.g.below hb⟩
structure wJ (c:eS):Prop where
 f:mE c.f
 t:mE c.t
 v:c.vs.length<=9223372036854775807
 h:c.ch.length<=9223372036854775807
 g:c.gaps.length<=9223372036854775807
 vs:∀s∈c.vs,s.size<=1099511627776
 ch:∀l∈c.ch,l.length<=9223372036854775807/\∀x∈l,x.2.size<=1099511627776
theorem Zji {c:eS} (h:wG w B c A1 k1 A2 k2 A3 k3) (l:wJ c) (i:Nat) (E:i<c.vs) (z:i<c.ch) (a b:Int) (S:rj a b w):
  Calls prog 36 #[i,.agg #[a,b],(B,0)] w (bM w (eE (a,b) c.f c.t (jU c.vs i) (fG c.ch i))):=by have k:=(bf w w).alloc aU (.cells #[a,b] 68);have h1:=h.below k;have D:=h1.bk.cell 0;have q1:=h1.bk.cell 1;have q2:=h1.bk.cell 2;have q3:=h1.bk.cell 3;simp at D q1 q2 q3;obtain⟨b1,g,rfl,a7,c1⟩:=QB h1.v i E;obtain⟨d,j,G,p,rfl,l2,c2,Q⟩:=h1.h i z;have I:=l.vs _ (dt E);obtain⟨L,a1⟩:=l.ch _ (dt z);rw[show jU c.vs i=c.vs[i] from ZO _ E,show fG c.ch i=c.ch[i] from ZO _ z];have u:=(bf (w.alloc (.cells #[a,b] 68)) (w.alloc (.cells #[a,b] 68))).drew;have a5:=J (Yk (Q.below u) a b c.f c.t ((S.below k).below u) I a1 c.ch[i].length p rfl L);have F:=J (k.trans (u.mono k.size));have i0:(0:Int)<=i:=O;have i1:(i:Int)<c.vs:=O;have b0:(i:Int)<c.ch:=O;have b4:=l.v;have b5:=l.h;have q:=h1.bk.lt;have b3:(w.alloc (.cells #[a,b] 68))=w.heap.size+1:=(by simp);clear h h1 l S Q I L a1 k u;generalize eE (a,b) c.f c.t c.vs[i] c.ch[i]=R at*;generalize c.vs[i]=s at*;generalize c.ch[i].length=nl at*;obtain⟨f,t,vs,ch,a6⟩:=c;simp only at*;generalize vs.length=nv at*;generalize ch.length=nc at*;generalize a6.length=ng at*;have a2:(w.alloc (.cells #[a,b] 68)).cell? (w,0)=a:=(Bk.new w 68 #[a,b]).cell 0;have a3:(w.alloc (.cells #[a,b] 68)).cell? (w,1)=b:=(Bk.new w 68 #[a,b]).cell 1;have a0:w<(w.alloc (.cells #[a,b] 68)).heap.size:=O;have a9:(w.alloc (.cells #[a,b] 68)).drew.cell? (w,0)=a/\(w.alloc (.cells #[a,b] 68)).drew.cell? (w,1)=b/\(w.alloc (.cells #[a,b] 68)).drew.cell? (B,0)=f/\(w.alloc (.cells #[a,b] 68)).drew.cell? (B,1)=t/\(w.alloc (.cells #[a,b] 68)).drew.cell? (B,2)=some (.slice (some (b1,g)) nv k1)/\(w.alloc (.cells #[a,b] 68)).drew.cell? (B,3)=some (.slice (some (d,j)) nc k2)/\(w.alloc (.cells #[a,b] 68)).drew.cell? (b1,g+i)=s/\(w.alloc (.cells #[a,b] 68)).drew.cell? (d,j+i)=(G,nl,p):=⟨a2,a3,D,q1,q2,q3,c1,c2⟩;have a4:Hid (∀W,Below (w.alloc (.cells #[a,b] 68)).drew (w.alloc (.cells #[a,b] 68)).drew W->W.cell? (w,0)=some (.int .i64 a)/\W.cell? (w,1)=some (.int .i64 b)/\W.cell? (B,0)=some (.int .i64 f)/\W.cell? (B,1)=some (.int .i64 t)/\W.cell? (B,2)=some (.slice (some (b1,g)) nv k1)/\W.cell? (B,3)=some (.slice (some (d,j)) nc k2)/\W.cell? (b1,g+i)=some (.string s)/\W.cell? (d,j+i)=some (.slice G nl p)):=J (λW hb=>⟨Below.cellAt hb a0 a2,Below.cellAt hb a0 a3,Below.cellAt hb q D,Below.cellAt hb q q1,Below.cellAt hb q q2,Below.cellAt hb q q3,Below.cellAt hb a7 c1,Below.cellAt hb l2 c2⟩);go_in;go_wp2;go_region_held3 (λW=>W.cell? (w,0)=some (.int .i64 a)/\W.cell? (w,1)=some (.int .i64 b)/\W.cell? (B,0)=some (.int .i64 f)/\W.cell? (B,1)=some (.int .i64 t)/\W.cell? (B,2)=some (.slice (some (b1,g)) nv k1)/\W.cell? (B,3)=some (.slice (some (d,j)) nc k2)/\W.cell? (b1,g+i)=some (.string s)/\W.cell? (d,j+i)=some (.slice G nl p)) (first|with_reducible assumption) ((go_at_call 29;with_reducible refine(a5.o).mono ?_;rintro x w1 ⟨rfl,M⟩;have a8:=a4.o _ M;have y:=J (F.o.trans (M.mono F.o.size))));exact EQ
theorem Zfk (a c f t:Int) (w:aq):Calls prog 75 #[.agg #[a,c],f,t,(0:Int)] w (bM w (.tuple #[.slice none 0 0,(1:Int)])):=by
 have d:=J ((bf w w).alloc aU (.cells #[a,c] 68));have g:=J (λW=>V2 a c f t W);generalize (dS (a,c)&&sx f t)=B at*
 cases B<;>(
  go_in;go_wp21;refine ij (g.o _) d λw1 j=>?_;clear d;go_wp2;go_returns;exact⟨rfl,j.o⟩)
theorem Zjr (a c f t:Int) (S:aT) (w:aq):Calls prog 51 #[.agg #[a,c],f,t,(0:Int),S] w (bM w (.tuple #[.slice none 0 0,(1:Int)])):=by have d:=J ((bf w w).alloc aU (.cells #[a,c] 68));have g:=J (λW=>Zfk a c f t W);go_in;go_wp21;refine ij (g.o _) d λw1 y=>?_;clear d;exact EQ
theorem Zjj {c:eS} (h:wG w B c A1 k1 A2 k2 A3 k3) (q:wJ c) (i:Nat) (l:i<c.ch) (a b:Int) {N:Nat} {m:Int} (k:Bk w N 3 #[m]) (a4:0<=m) (Q:m<=1000000) (F:(fG c.ch i).length<=4611686018427387904):
  Calls prog 37 #[i,.agg #[a,b],(N,0),(B,0)] w λx w'=>x=.returned (decide (m+((fG c.ch i).length:Int)<=4096))/\Bk w' N 3 #[(m+(fG c.ch i).length:Int)]/\Fr (only N) w w':=by
 have j:=(bf w w).alloc aU (.cells #[a,b] 68);have h1:=h.below j;have d:=k.below j k.lt;have q3:=h1.bk.cell 3;have I:=d.cell 0;have D:=d.frozen 0;simp at q3 I D;obtain⟨L,a5,G,a0,rfl,l2,c2,E⟩:=h1.h i l;rw[show fG c.ch i=c.ch[i] from ZO _ l] at F⊢;clear E;have i0:(0:Int)<=i:=O;have R:(i:Int)<c.ch:=O;have a3:=q.h;have u:=J d;have z:=J ((Fr.refl (only N) w).alloc (.cells #[a,b] 68));have a1:=h1.bk.lt;have a2:=d.lt;generalize c.ch[i].length=g at*;have S:IntKind.i64.wrap (m+(g:Int))=m+(g:Int):=lO;clear h h1 q k d j;clear l;obtain⟨f,t,vs,ch,M⟩:=c;simp only at*;generalize ch.length=nc at*;have y:Hid (Bk ((w.alloc (.cells #[a,b] 68)).setCell (N,0) (m+(g:Int):Int)) N 3 #[(m+(g:Int):Int)]):=J (by simpa using u.o.put 0 (m+(g:Int):Int));go_in;go_wp2;go_region
 all_goals
  go_wp2;go_returns;exact⟨rfl,y.o,(z.o.setCell (p:=⟨N,0,none⟩) (.inl rfl) _).drew⟩
def xV (b:Int) (v:aT) (l:List dO) (g:Int×Int):Bool:=decide (ti v l g.1=bs (List.replicate b.toNat 120))&&l.all λx=> !(decide (g.1<x.1)&&decide (x.1<g.2))
theorem ZiG (d:List (Int×Int)) (a b:Int) (v:aT) (l:List dO):Br d (a,b) v l=(!decide (a=0)||d.all (xV b v l)):=rfl
theorem Zoj (h1:1<=b) (d:b<=128):mr b 120=List.replicate b.toNat 120:=by unfold mr;rw[aD];rintro(h|h|h);exact O;exact O;revert h;decide
abbrev vB (X:aq) (B G H nv nc ng:Nat) (f t x b:Int) (A1:bN) (k1:Nat) (A2:bN) (k2:Nat) (A3:bN) (k3:Nat) (W:aq):Prop:=
 (W.cell? ⟨B,0,none⟩=f/\W.cell? ⟨B,1,none⟩=t/\W.cell? ⟨B,2,none⟩=some (.slice A1 nv k1)/\W.cell? ⟨B,3,none⟩=some (.slice A2 nc k2)/\W.cell? ⟨B,4,none⟩=some (.slice A3 ng k3)/\W.cell? ⟨G,0,none⟩=x/\W.cell? ⟨H,1,none⟩=b/\Below X X W)
theorem vB.below {X:aq} {G d k nc j:Nat} {f t x:Int} {W W':aq} (h:vB X B G d k nc j f t x b A1 k1 A2 k2 A3 k3 W) (y:B<X) (z:G<X) (D:d<X) (hb:Below W W W'):vB X B G d k nc j f t x b A1 k1 A2 k2 A3 k3 W':=by obtain⟨h0,h1,l,p,q,u,w,g⟩:=h;have s:=g.size;exact⟨Below.cellAt hb aO h0,Below.cellAt hb aO h1,Below.cellAt hb aO l,Below.cellAt hb aO p,Below.cellAt hb aO q,Below.cellAt hb aO u,Below.cellAt hb aO w,g.trans (hb.mono s)⟩
def Bx (n:Nat) (c:eS):Bool:=c.vs.all (λs=>decide ((s.size:Int)<=150))&&c.ch.all (λl=>tz l 30)&&((decide ((n:Int)<=8)&&decide ((c.vs.length:Int)<=10))&&decide ((c.ch.length:Int)<=10)&&decide ((c.gaps.length:Int)<=20))
theorem HA {α:Type} {p:α->Bool} {l:List α} (h:k<l) (d:p l[k]=false):l.all p=false:=by rw[IC];exact⟨l[k],dt h,by rw[d];decide⟩
theorem Gh {α:Type} {p:α->Bool} {l:List α} (h:k<l) (d:(l.take k).all p=true) (g:p l[k]=true):(l.take (k+1)).all p=true:=by rw[dK h,List.all_append,d];simp[g]
theorem ZfN {c:eS} (h1:At w A1 (eN c.vs)) (b5:pN w A2 c.ch) (d6:c.vs.length<=9223372036854775807) (d5:c.ch.length<=9223372036854775807) (b7:∀l∈c.ch,l.length<=9223372036854775807) (A:bN) (n cap:Nat):
  Calls prog 10 #[(A,n,cap),.agg (iC c.f c.t A1 c.vs k1 A2 c.ch k2 A3 c.gaps k3)] w (bM w (Bx n c)):=by
 obtain⟨f,t,vs,ch,E⟩:=c;simp only[iC] at*;have L:=(bf w w).alloc aU (.cells (iC f t A1 vs k1 A2 ch k2 A3 E k3) 27);obtain⟨a7,a8,I⟩:=bD (h1.below L) (b5.below L) L;have u:Hid (Bx n ⟨f,t,vs,ch,E⟩=(vs.all (λs=>decide ((s.size:Int)<=150))&&ch.all (λl=>tz l 30)&&((decide ((n:Int)<=8)&&decide ((vs.length:Int)<=10))&&decide ((ch.length:Int)<=10)&&decide ((E.length:Int)<=20)))):=J rfl;obtain⟨z,D⟩:=ay vs.length;obtain⟨nc,y⟩:=ay ch.length;obtain⟨a4,Q⟩:=ay E.length;rw[D,y,Q] at u;have b9:=J (λ(W:aq) i (hi:i<ch.length) B kB (c9:At W B (cv ch[i]))=>ZjD c9 ch[i].length kB rfl (b7 _ (dt hi)) 30);rw[D] at d6;rw[y] at d5;generalize Bx n ⟨f,t,vs,ch,E⟩=R at*;have b3:=J D;have b0:=J y;rw[D,y,Q] at I⊢;rw[D,y,Q] at a7 a8;clear h1 b5 L b7 D y Q;go_in;go_wp2;go_loopw [5] (λa5 wr=>∃k:Nat,k<=z/\a5=k/\Hid ((vs.take k).all (λs=>decide ((s.size:Int)<=150))=true)/\wr=w.alloc (.cells (iC f t A1 z k1 A2 nc k2 A3 a4 k3) 27)) (λa5 _=>(z-intOf a5).toNat);exact yw;obtain⟨k,e4,rfl,d,rfl⟩:=hrel;by_cases ab:k<z
 .have a3:k<vs:=(by rw[b3.o];exact ab);obtain⟨b1,e7,rfl,e6,c1⟩:=QB a7.o k a3;have d9:(0:Int)<=k:=O;have e1:(k:Int)<z:=O;have g:=λh=>HA (p:=λs:aT=>decide ((s.size:Int)<=150)) a3 h;have q:=λh=>Gh (p:=λs:aT=>decide ((s.size:Int)<=150)) a3 d.o h;generalize vs[k]=s at*;by_cases e5:(150:Int)<s.size;.have a1:Hid (R=false):=J (by rw[u.o,g (cI O)];rfl);clear g q;go_wp2;go_returns;exact⟨Z4 a1.o.symm,I.o⟩
  have a0:=J (q (dd O));clear g q;go_wp2;refine⟨⟨k+1,ab,ci,a0,Fv⟩,?_⟩;simp[intOf]<;>omega
 have c3:k=z:=O;subst c3;have a2:Hid (vs.all (λs=>decide ((s.size:Int)<=150))=true):=J (by have:=d.o;rw[d' (by rw[b3.o];exact aU)] at this;exact this);clear d;go_wp2;go_loopw [6] (λa6 wr=>∃j:Nat,j<=nc/\a6=j/\Hid ((ch.take j).all (λl=>tz l 30)=true)/\wr=w.alloc (.cells (iC f t A1 k k1 A2 nc k2 A3 a4 k3) 27)) (λa6 _=>(nc-intOf a6).toNat);exact yw;obtain⟨j,e3,rfl,d,rfl⟩:=hrel;by_cases b4:j<nc
 .have M:j<ch:=(by rw[b0.o];exact b4);obtain⟨d8,e8,G,d7,rfl,l2,c2,b6⟩:=a8.o j M;have e2:(0:Int)<=j:=O;have b8:(j:Int)<nc:=O;have S:=J (b9.o _ j M G d7 b6);have g:=λh=>HA (p:=λl:List dO=>tz l 30) M h;have q:=λh=>Gh (p:=λl:List dO=>tz l 30) M d.o h;generalize tz ch[j] 30=F at*;clear b6;generalize ch[j].length=nl at*;go_wp21;refine cp S.o ?_;cases F;.have a1:Hid (R=false):=J (by rw[u.o,a2.o,g rfl];rfl);clear g q;go_wp2;go_returns;exact⟨Z4 a1.o.symm,I.o⟩
  have a0:=J (q rfl);clear g q;go_wp2;refine⟨⟨j+1,b4,ci,a0,Fv⟩,?_⟩;simp[intOf]<;>omega
 have c8:j=nc:=O;subst c8;have a9:Hid (ch.all (λl=>tz l 30)=true):=J (by have:=d.o;rw[d' (by rw[b0.o];exact aU)] at this;exact this);rw[a2.o,a9.o] at u;clear d a9 a2
 by_cases c4:(n:Int)<=8<;>by_cases c5:(k:Int)<=10<;>by_cases c6:(j:Int)<=10<;>by_cases c7:(a4:Int)<=20<;>(
  simp only[c4,c5,c6,c7,decide_true,decide_false,Bool.and_true,Bool.and_false,Bool.false_and,Bool.true_and] at u;go_wp2;go_returns;exact⟨Z4 u.o.symm,I.o⟩)
