import Derived.Test.YtikecoijpkmnbaaGreatDoorJ36
import Derived.Test.YtikecoijpkmnbaaGreatDoorJ21
import Derived.Test.YtikecoijpkmnbaaGreatDoorJ38
set_option linter.all false
set_option maxRecDepth 100000
set_option maxHeartbeats 0
open Go.Proofs.Tryz (prog underlying105 underlying23)
theorem RM{P:Prop}(h:P:=by rw[IntWalk.i64_in _ (by have:=b8.o;omega)]):P:=h
theorem P9{P:Prop}(h:P:=by simp only[Q];clear M q a3 G F a4 I;go_in;go_wp21;refine aP (z.o _ (a2.o _ (bf _ _)).2.2.1) λw1 E=>?_;obtain⟨_,_,aa,_⟩:=a2.o _ E;go_wp2;go_returns;exact⟨rfl,aa⟩):P:=h
theorem Ni{P:Prop}(h:P:=by
 have q:i<l:=(by rw[<-a0.o];exact ab);obtain⟨u,z1,y,z⟩:=a2.o _ hb.o;obtain⟨f9,g3,rfl,I,c0,c1⟩:=xx (Ha.o.below y) i q;have e3:=a5.o i q;have a1:=a7.o i q;obtain⟨⟨X,V⟩,hTV⟩:=ay l[i];rw[hTV] at c0 c1 e3 a1;simp only at c0 c1 e3 a1;have F:IntKind.i64.wrap (X-(f+1))=X-(f+1):=(by rw[IntWalk.i64_in _ (by have:=g.o;omega)]);have E:=hb.o.alloc hb.o.size (.cells #[X,V] 68);have t:=Z6 a8.o (Fr.of_below (S:=nob) ((bf wr wr).alloc aU (.cells #[X,V] 68))) (λ_ _ f=>f);obtain⟨v',W',b4,b5,a6⟩:=Zei t E E.size (by omega) (X-(f+1));rw[<-e3] at b5;rw[World.size_alloc] at b4;obtain⟨b7,p,B⟩:=bD b4 b5 a6;have D:(0:Int)<=i:=(by omega);have G:(i:Int)<n:=(by omega);clear b4 b5 a6 e3 hTV q E t a8 hb a1 y k
 go_wp2_with (
  at_builtin;refine Z5 (by with_reducible rfl) rfl _ _ _ rfl _ _ (by rfl) (by rfl) b7.o ?_);refine⟨⟨i+1,ab,by go_num,p,B⟩,?_⟩;simp[intOf]<;>omega):P:=h
namespace Wv
open Go.Proofs.Y
variable{b:aT}{f t:Int}{s:Int×Int}
theorem ZpX {l:List dO} (h:eE s f t b l=false):mX s f t b l=([],1):=by unfold mX;rw[Vag h]
theorem Znu (h:eE s f t b []=true):mX s f t b []=([],0):=by unfold mX;rw[Vae Qe,Vag rfl]
theorem ZpW {l:List dO} (h:eE s f t b l=true) (g:l≠[]):mX s f t b l=rb (tA s f l):=by unfold mX;rw[Vae Qe,Vae g]
theorem Zkh {vs:a'} (hs:dS s=true) (hv:∀v∈vs,fO Z3 s (aH v)=true) (hl:vs.length<=4096):(mZ s vs).1.length<=1000000000:=by
 unfold mZ;split;.rename_i h0;obtain⟨w1,w2⟩:=XI hs h0;have hb:ZG s.2 vs=true:=ZH.2 ⟨λv h=>E_ h0 (hv v h),w1,w2,hl⟩;unfold Y8;rw[Vae (by simp[hb])];have:=Vt hb 4;show(iB _ _ 4).length<=_;omega
 have:=Q6 hl (λv h=>by have:=Gc (hv v h);rwa [Z2] at this);omega
theorem Zkb (f:Int) (l:List dO) (i:Nat) (h:i<l):gY f (l.take (i+1))=gY f (l.take i)++[l[i].1-(f+1)]:=by unfold gY;rw[dK h,jy];rfl
theorem k_ {s:Int×Int} {t:Int} :∀ {l:List dO} {a:Int} {b:aT},oq s t a b l=true->∀c∈l,a<c.1/\c.1<=t
 |[],_,_,_,c,g=>by cases g
 |d::l,a,b,h,c,g=>by obtain⟨h1,k,_,_,p⟩:=Kn.1 h;rcases jA.1 g with rfl|g;exact⟨h1,k⟩;have:=k_ p c g;exact⟨O,this.2⟩
end Wv
namespace Go.Proofs.Y
open Wv Go.RowKit
theorem Zda {l:List Int} (h:Zi l=true) {c:Nat} (u:c<=2) (h1:c=1->2<=l.length):(codT c l).length<=3000000:=by have g:=λn=>Yf n;have k:c=0\/c=1\/c=2:=O;rcases k with rfl|rfl|rfl;show(bi 0++ZS (Za l)).length<=_;rw[Vab,Yq6];have:=Yg h;have:=g 0;omega;show(oK l).length<=_;have p:=Qf h (h1 rfl);have hi:=(YH.1 p).1;have q:=Yg (Xi hi l);have t:=Yg (FI (c:=Zt l) h);rw[WE];unfold text;simp only[Vab,Yq6,Z2,Z0];have:=g 1;have:=g (Zt l).st.toNat;have:=g (Zt l).f.toNat;have:=g (Zt l).s.toNat;have:=g (Zt l).n.toNat;have:=g (ZS (Za (Qy (Zt l) l)));omega;show(bi 2++(enc (hO (Za l))).1).length<=_;rw[Vab,Yq6];have:=(UX h).2;have:=g 2;omega
theorem ZdF (l:List Int):(ke l).1.length<=3000000:=by cases h:Zi l;rw[Ve h];simp;obtain⟨c,g,h1,k⟩:=XT h;rw[k];exact Zda h g h1
theorem Zjb (W:aq) (B:Nat) (e:TypeId) (x y:aI) (g:B<=W):(W.alloc (.cells #[x,y] e)).ownsRow B e 2 (.slice (some (W,0)) 1 1) 1 [x,y]:=
 ⟨rfl,.inr ⟨W,1,#[x,y],rfl,g,heap_alloc_new W _,aU,fU,rfl,by simp⟩⟩
theorem Zfb {w:aq} {A:Wto} {b:aT} {l:List (Int×aT)} (M:At w A (cv l)) (a c f t:Int) (q:rj a c w) (a3:b.size<=1099511627776) (G:∀x∈l,x.2.size<=1099511627776) (n cap:Nat) (F:n=l) (a4:n<=9223372036854775807):
  Calls prog 16 #[.agg #[a,c],f,t,b,(A,n,cap)] w λx w'=>fZ w (mX (a,c) f t b l) x w':=by
 have z:=J (λW (hb:Below w w W)=>Yk (M.below hb) a c f t (q.below hb) a3 G n cap F a4);have a2:=J (λW h=>Dc (w:=w) (W:=W) (a:=a) (c:=c) h);obtain⟨R,a9⟩:=ay (mX (a,c) f t b l);rw[a9];unfold fZ;cases I:eE (a,c) f t b l;rw[I] at z;rw[ZpX I] at a9;subst a9;have Q:bs ([]:ax)=⟨#[]⟩:=rfl;exact P9;rw[I] at z;by_cases h0:l=[];subst h0;rw[Znu I] at a9;subst a9;have Q:bs ([]:ax)=⟨#[]⟩:=rfl;have i4:n=0:=F;subst i4;exact P9;rw[ZpW I h0] at a9;obtain⟨c6,f2,g7,d4,d5⟩:=Xn.1 I;obtain⟨i1,g6,e4⟩:=Hb.1 f2;have e2:=Kr I;obtain⟨cc,_,_,d6⟩:=XT e2;have f3:=ZdF (gY f l);have f5:(ke (gY f l)).2=0:=(by rw[d6]);have d3:∀v∈l.map (·.2),fO Z3 (a,c) (aH v)=true:=λv h7=>by obtain⟨x,h8,rfl⟩:=Vbm.1 h7;exact QP d5 x h8
 have d1:(gY f l)=l.length:=(by unfold gY;rw[Vah]);have i8:n<=4096:=O;have i6:((n:Int)==0)=false:=by rw[lL];intro e;exact h0 (ia O)
 obtain⟨a7,a5,Ha,a0,c8⟩:=ii (λi (h:i<l.length)=>k_ d5 _ (dt h)) (λi (h:i<l.length)=>Zkb f l i h) M F (λ(W:aq) A2 bd (h:At W A2 (bO (gY f l)))=>R5 h n bd (by rw[d1,F]) a4);unfold fZ at c8;rw[f5] at c8;have j0:Hid ((gY f l)=n):=J (by rw[d1,F]);have i9:IntKind.i64.wrap (f+1)=f+1:=lO;have g1:=J (λ(W:aq) (B:Nat)=>(Zl:W.ownsRow B 3 1 (.slice none 0 0) 0 []));obtain⟨T,d2⟩:=ay ((ke (gY f l)).1);rw[d2] at c8 f3;have b3:tA (a,c) f l=(1,T)::if a=3 then[] else[(oN (a,c),(mZ (a,c) (l.map (·.2))).1)]:=by unfold tA;rw[d2]
 have g2:Hid (gY f (l.take 0)=[]):=J rfl;have f7:Hid (gY f (l.take n)=gY f l):=J (by rw[d' (by rw[F];exact aU)]);have g:Hid (-1<=f/\t<=1099511627776):=J ⟨i1,e4⟩;by_cases b8:a=3;.rw[Vag b8] at b3;rw[b3] at a9;have b9:=J (λ(W:aq) A2 (h:At W A2 (mP [(1,T)])) bd=>RX h (λp b0=>by rw[jv.1 b0];show(1:Nat)<16;decide) (λp b0=>by rw[jv.1 b0];show T.length<=_;omega) 1 bd rfl aY);rw[a9] at b9;have c5:mP [(1,T)]=[.int .i64 1,.string (bs T)]:=rfl;have f6:=J c5;subst b8;generalize bs T=S at*;clear M q a3 G F I h0 a9 c6 f2 g7 d4 d5 e2 d6 f5 d3 d1 d2 b3 f3 i1 g6 e4 c5;go_in;go_wp21;refine aP (z.o _ (a2.o _ (bf _ _)).2.2.1) λw1 E=>?_;have c4:=J E;clear E;go_wp2;go_loopw [12,32] (λe6 b1 wr=>∃i:Nat,i<=n/\b1=(i:Int)/\Hid (wr.ownsRow (w.alloc (.cells #[(3:Int),c] 57)) 3 1 e6 i ((gY f (l.take i)).map iv))/\Hid (Below (w.alloc (.cells #[(3:Int),c] 57)) (w.alloc (.cells #[(3:Int),c] 57)) wr)) (λ_ b1 _=>(n-intOf b1).toNat);exact⟨0,cf _,rfl,J (g1.o _ _),c4⟩;clear c4;obtain⟨i,hi,rfl,a8,hb⟩:=hrel;obtain⟨A5,d8,rfl,k⟩:=Zh a8.o;by_cases ab:i<n;exact Ni;have a1:i=n:=O;subst a1;rw[f7.o] at k;have e7:=J (c8.o wr A5 d8 k);clear a8 k;have h9:=a2.o _ hb.o;go_wp21;refine aP e7.o λc7 aa=>?_;have b2:=J (hb.o.trans (aa.mono hb.o.size));have b6:=b2.o.alloc b2.o.size (.cells #[(1:Int),S] 78);obtain⟨u,_,c3,_⟩:=a2.o _ b6;have e9:=J (b9.o (c7.alloc (.cells #[(1:Int),S] 78)) (some ⟨c7.heap.size,0,none⟩) (by rw[f6.o];exact(Bk.new c7 78 #[(1:Int),S]).at_) 1);have h4:=J c3;clear aa b6 c3 h9;go_wp21;refine ij e9.o h4 λf4 h5=>?_;go_wp2;go_returns;exact⟨rfl,h5.o⟩
 rw[Vae b8] at b3;rw[b3] at a9;have e8:=Zkh c6 d3 (by rw[Vah];exact d4);have IS:=(Lm c6 b8 d3 (by rw[Vah];exact d4)).1;have c9:=J (λ(W:aq) (hb:Below w w W)=>Zn9 (M.below hb) n cap F O a c c6 b8 G);rw[IS] at c9;obtain⟨D,d9⟩:=ay ((mZ (a,c) (l.map (·.2))).1);obtain⟨K,e1⟩:=ay (oN (a,c));have f8:K<16:=(by rw[<-e1];exact Zp3 _);rw[d9,e1] at c9 a9;rw[d9] at e8;have b9:=J (λ(W:aq) A2 (h:At W A2 (mP [(1,T),(K,D)])) bd=>RX h (λp b0=>by rcases jA.1 b0 with rfl|b0;show(1:Nat)<16;decide;rw[jv.1 b0];exact f8) (λp b0=>by rcases jA.1 b0 with rfl|b0;show T.length<=_;omega;rw[jv.1 b0];exact e8) 2 bd rfl aY);rw[a9] at b9;have g0:xM (K:Int) D 0=.tuple #[.agg #[K,bs D],(0:Int)]:=rfl;rw[g0] at c9;have c5:mP [(1,T),(K,D)]=[.int .i64 1,.string (bs T)]++[.int .i64 (K:Int),.string (bs D)]:=rfl;have f6:=J c5;have i7:(a !=3)=true:=(by rw[kx];exact b8);generalize bs T=S at*;generalize bs D=S2 at*;generalize (K:Int)=KI at*;clear M q a3 G F I h0 a9 c6 f2 g7 d4 d5 e2 d6 f5 d3 d1 d2 b3 f3 i1 g6 e4 c5 IS e8 g0 e1 f8 d9;go_in;go_wp21;refine aP (z.o _ (a2.o _ (bf _ _)).2.2.1) λw1 E=>?_;have c4:=J E;clear E;go_wp2;go_loopw [12,32] (λe6 b1 wr=>∃i:Nat,i<=n/\b1=(i:Int)/\Hid (wr.ownsRow (w.alloc (.cells #[a,c] 57)) 3 1 e6 i ((gY f (l.take i)).map iv))/\Hid (Below (w.alloc (.cells #[a,c] 57)) (w.alloc (.cells #[a,c] 57)) wr)) (λ_ b1 _=>(n-intOf b1).toNat);exact⟨0,cf _,rfl,J (g1.o _ _),c4⟩;clear c4;obtain⟨i,hi,rfl,a8,hb⟩:=hrel;obtain⟨A5,d8,rfl,k⟩:=Zh a8.o;by_cases ab:i<n;exact Ni;have a1:i=n:=O;subst a1;rw[f7.o] at k;have e7:=J (c8.o wr A5 d8 k);clear a8 k;go_wp21;refine aP e7.o λc7 aa=>?_;have b2:=J (hb.o.trans (aa.mono hb.o.size));have b6:=b2.o.alloc b2.o.size (.cells #[(1:Int),S] 78);obtain⟨u,z1,c3,_⟩:=a2.o _ b6;obtain⟨h2,e5,g9⟩:=bD (Zjb c7 (w.alloc (.cells #[a,c] 57)) 78 (1:Int) (.string S) b2.o.size) b6 (c9.o _ c3);clear aa b6 c3;go_wp21;refine aP g9.o λf4 an=>?_;have d7:=(e5.o.trans (an.mono e5.o.size)).alloc (co e5.o.size an.size) (.cells #[KI,S2] 78);have g5:=Z6 (Z6 h2.o (Fr.of_below (S:=nob) an) (λ_ _ f=>f)) (Fr.of_below (S:=nob) ((bf f4.heap.size f4).alloc aU (.cells #[KI,S2] 78))) (λ_ _ f=>f);obtain⟨v',W',b4,b5,a6,_⟩:=Gi (P:=prog) 105 78 _ _ 2 underlying105 N1 rfl aY g5 d7 d7.size [.int .i64 KI,.string S2] rfl I5 fU O;obtain⟨g8,i0,h1,g4⟩:=Zh b5;rw[World.size_alloc] at b4;have b7:=J b4;have e9:=J (b9.o W' g8 (by rw[f6.o];exact g4) i0);have h6:=J (a2.o _ a6).2.2.1;subst h1;clear b4 b5 a6 g5 d7 an g4
 go_wp2_with (
  at_builtin;refine Z5 iG rfl _ _ _ rfl _ _ (by rfl) (by rfl) b7.o ?_);go_wp21;refine ij e9.o h6 λj2 i5=>?_;go_wp2;go_returns;exact⟨rfl,i5.o⟩
end Go.Proofs.Y
namespace Go.Proofs.Y
open Wv Go.RowKit
theorem ZtJ {data:ax} {g:List (Nat×ax)} (a0:jJ data=some g) (hd:data.length<=1000000) (w:aq):
  Calls prog 59 #[bs data] w λx w'=>BK w (some g) x w':=by
 have a3:=J (λ(d c:ax) (h:d.length<=1000000000) (k n:Nat) (t:ZI d=some (k,c,n)) W=>Aj h t W);have h0:Hid (some g=(jJ data).map ([]++·)):=J (by rw[a0];simp);have c3:Hid (w.ownsRow w 78 2 (.slice none 0 0) 0 (mP [])):=J Zl;clear a0;go_in;go_wp2;go_loopw [0,4] (λG b9 wr=>∃(r:ax) (fr:List (Nat×ax)),G=.string (bs r)/\r.length<=1000000/\Hid (fr.length+r.length<=1000000)/\Hid (some g=(jJ r).map (fr++·))/\Hid (wr.ownsRow w 78 2 b9 fr (mP fr))/\Hid (Below w w wr)) (λG _ _=>Zr2 G);exact⟨data,[],rfl,hd,J (by simpa using hd),h0,c3,J (bf _ _)⟩;obtain⟨r,fr,rfl,c6,p,D,u,hb⟩:=hrel;obtain⟨A5,a6,b3,rfl⟩:=Z7 u.o;have R:=YU r;by_cases h0:r=[];.subst h0;have I:Hid (g=fr):=J (by have k:=D.o;rw[Zke] at k;simpa using k);have a2:Hid (Ir wr (.slice A5 a6 b3) fr):=J (Zn0 u.o);rw[show bs ([]:ax)=⟨#[]⟩ from rfl] at R⊢;go_wp2;go_returns;exact⟨_,rfl,by rw[I.o];exact a2.o,hb.o⟩
 rw[Vai h0] at R;obtain⟨k,c,z,t⟩:∃k c z,ZI r=some (k,c,z):=by rcases t:ZI r with _|q;have k:=D.o;rw[D_ h0 t] at k;cases k;exact⟨q.1,q.2.1,q.2.2,rfl⟩
 have a4:=J (a3.o r c O k z t wr);obtain⟨c8,c9⟩:=FH t;have F:=Kb t;have I:Hid (some g=(jJ (r.drop z)).map ((fr++[(k,c)])++·)):=J (by rw[D.o,F,Option.map_map];congr 1;funext y;simp);have a8:(bs r).size=r:=Z0 r;have E:(bs r).extract z (bs r).size=bs (r.drop z):=(by rw[Z01,Zm]);have b2:Hid ((fr++[(k,c)]).length+(r.drop z).length<=1000000):=J (by have:=p.o;rw[Vab,iW];exact fj);have b0:(r.drop z).length<=1000000:=(by rw[iW];omega);have a5:(bs (r.drop z)).size<(bs r).size:=(by rw[Z0,Z0,iW];omega);have b8:(z:Int)<=((bs r).size:Int):=O;have c4:(0:Int)<=z:=O;have c5:fr.length<=1000000:=(by have:=p.o;omega);go_wp21;refine aP a4.o λa1 aa=>?_;have M:=(hb.o.trans (aa.mono hb.o.size)).alloc (co hb.o.size aa.size) (.cells #[.int .i64 (k:Int),bs c] 78);have b5:=Z6 (Z6 u.o (Fr.of_below (S:=nob) aa) (λ_ _ f=>f)) (Fr.of_below (S:=nob) ((bf a1.heap.size a1).alloc aU (.cells #[.int .i64 (k:Int),bs c] 78))) (λ_ _ f=>f);obtain⟨c7,W',Q,B,a7,_⟩:=Gi (P:=prog) 105 78 _ _ 2 underlying105 N1 rfl aY b5 M M.size [.int .i64 (k:Int),.string (bs c)] rfl I5 fU O;have b4:mP (fr++[(k,c)])=mP fr++[.int .i64 (k:Int),.string (bs c)]:=ZiF fr (k,c);rw[<-b4] at B;rw[World.size_alloc] at Q;have b6:(fr++[(k,c)]).length=fr.length+1:=(by simp);rw[<-b6] at B;obtain⟨a9,b1,b7⟩:=bD Q B a7
 go_wp2_with (
  at_builtin;refine Z5 iG rfl _ _ _ rfl _ _ (by rfl) (by rfl) a9.o ?_);rw[<-a8,E];exact⟨⟨r.drop z,fr++[(k,c)],rfl,b0,b2,I,b1,b7⟩,a5⟩
end Go.Proofs.Y
namespace Wv
open Go.Proofs.Y
variable{b:aT}{d:ax}{f t:Int}{s:Int×Int}{ts:List Int}{vs:a'}
theorem Znr (h:eE s f t b []=false):sgD s f t b d=([],1):=by unfold sgD;rw[Vag h]
theorem Znt (h:eE s f t b []=true):sgD s f t b []=([],0):=by unfold sgD;rw[Vae Qe,Vag rfl]
theorem Zns (h:eE s f t b []=true) (g:4096<d.length):sgD s f t b d=([],12):=by unfold sgD;rw[Vae Qe,Vae (by intro e;subst e;simp at g),Vag g]
theorem Mn (h:eE s f t b []=true) (h0:d≠[]) (g:¬4096<d.length):sgD s f t b d=match qZ s f d with
  |none=>([],12)
  |some l=>if eE s f t b l=true then(l,0) else([],12):=by unfold sgD;rw[Vae Qe,Vae h0,Vae g];cases qZ s f d<;>rfl
theorem Zng (h:jJ d=none):qZ s f d=none:=by unfold qZ;rw[h]
theorem XG {p:Nat×ax} {r:List (Nat×ax)} (h:jJ d=some (p::r)):qZ s f d=if p.1=1/\(nE p.2 4096).2=0/\(nE p.2 4096).1≠[] then(Yw s (nE p.2 4096).1 r).map (iU f (nE p.2 4096).1) else none:=by unfold qZ;rw[h]
theorem ZbW {n:Nat} {q:Nat×ax} (g:s.1≠3):Yw s n [q]=if q.1=oN s/\(ow s q.2 n).2=0/\(ow s q.2 n).1=n then some (ow s q.2 n).1 else none:=by unfold Yw;rw[Vae g]
theorem Z7S (f:Int) (h:ts=vs.length) {i:Nat} (hi:i<ts):(iU f ts vs).take (i+1)=(iU f ts vs).take i++[(ts[i]+f+1,vs[i]'O)]:=by have g:i<(iU f ts vs):=(by rw[XK f ts vs h];exact hi);rw[dK g];congr 2;simp[iU]
theorem Z4O (f:Int) (k:∀v∈vs,v.size<=128):∀c∈iU f ts vs,c.2.size<=1099511627776:=by intro c g;obtain⟨i,hi,rfl⟩:=List.getElem_of_mem g;have l:i<vs:=(by unfold iU at hi;rw[Ah] at hi;omega);have e:((iU f ts vs)[i]).2=vs[i]:=(by simp[iU]);rw[e];have:=k _ (dt l);omega
theorem Uv:∀ {l:List (Nat×ax)} {d:ax},Y0 l=some d->∀p∈l,p.2.length<=4096
 |[],_,_,p,g=>by cases g
 |q::l,d,h,p,g=>by unfold Y0 at h;rcases t:Zo q.1 q.2 with _|w;rw[t] at h;cases h;rw[t] at h;simp only at h;rcases y:Y0 l with _|x;rw[y] at h;cases h;rcases jA.1 g with rfl|g;have u:=X7 (k:=p.1) (c:=p.2);rw[t] at u;exact of_decide_eq_true u.symm;exact Uv y p g
theorem KT {l:List (Nat×ax)} (h:jJ d=some l):∀p∈l,p.2.length<=4096:=Uv (JT d aU h)
end Wv
namespace Go.Proofs.Y
open Wv Go.RowKit
variable{A:Wto}{C:ax}{n:Nat}{s:Int×Int}{w:aq}
def qv (B:Nat) (w:aq) (v:aI) (l:List (Int×aT)):Prop:=∃A cap,v=.slice A l cap/\At w A (cv l)/\∀b o,A=some ⟨b,o,none⟩->B<=b
theorem qv.nil (B:Nat) (w:aq):qv B w (.slice none 0 0) []:=⟨none,0,rfl,At.nil _ _,λ_ _ h=>po⟩
def yg (w:aq) (r:List (Int×aT)×Nat) (x:Ending) (w':aq):Prop:=∃v,x=.returned (.tuple #[v,r.2])/\qv w w' v r.1/\Below w w w'
theorem WN {d:ax} {fr:List (Nat×ax)} (hd:d.length<=1000000) (h:jJ d=some fr) (W:aq):cK 59 #[bs d] W λx w'=>∃A cap,x=.returned (.tuple #[.slice A fr cap,(0:Int)])/\At w' A (mP fr)/\Below W W w':=
 (ZtJ h hd W).mono λx w' p=>by obtain⟨v,h1,⟨A,cap,g,k⟩,l⟩:=p;subst g;exact⟨A,cap,by simpa using h1,k,l⟩
theorem ZoV {k:Nat} (g:s.1≠3):Yw s n [(k,C)]=vr s k C n:=by rw[ZbW g];unfold vr;simp only[Int.ofNat_inj]
theorem Zm4 {k:Int} {r:a'} (h:vr s k C n=some r):r=n/\∀v∈r,v.size<=128:=by
 unfold vr at h;split at h;.rename_i hc;injection h with h;subst h;exact⟨by have:=hc.2.2;omega,Zcp _ _ _⟩
 cases h
theorem O7 {l:List Int} (g:At w A (bO l)) (k:Nat) (h:k<l):∃b o,A=some ⟨b,o,none⟩/\b<w.heap.size/\w.cell? ⟨b,o+k,none⟩=some (.int .i64 l[k]):=
 g.get k _ (by unfold bO;rw[jX,fb h];rfl)
theorem Zkw {l:a'} (g:At w A (bz l)) (k:Nat) (h:k<l):∃b o,A=some ⟨b,o,none⟩/\b<w.heap.size/\w.cell? ⟨b,o+k,none⟩=some (.string l[k]):=
 g.get k _ (by unfold bz;rw[jX,fb h];rfl)
theorem SY {W:aq} {p:Addr} {v:aI} (hb:Below w w W) (k:p.block<w) (g:w.cell? p=some v):W.cell? p=some v:=by rw[World.cell?_of_block (hb.block _ k)];exact g
theorem ZpC (a c k:Int) (n:Nat) (D:ax) (l:dS (a,c)=true) (g:a≠3) (hd:D.length<=1000000000):
  cK 60 #[.agg #[a,c],.agg #[k,bs D],n] w λx w'=>∃A m cap,x=.returned (.tuple #[.slice A m cap,.bool (vr (a,c) k D n).isSome])/\(∀r,vr (a,c) k D n=some r->m=r.length/\At w' A (bz r))/\Below w w w':=
 Zn8 a c k n D l g hd
end Go.Proofs.Y
namespace Wv
open Go.Proofs.Y
theorem Zu3 {s:Int×Int} {f t:Int} {b:aT} {d:ax} {l:List dO} (h:sgD s f t b d=(l,0)) (hl:l≠[]):eE s f t b []=true/\d≠[]/\¬4096<d.length/\eE s f t b l=true/\∃C r ts vs,jJ d=some ((1,C)::r)/\nE C 4096=(ts,0)/\ts≠[]/\l=iU f ts vs/\((s.1=3/\r=[]/\vs=List.replicate ts.length ⟨#[]⟩)\/(s.1≠3/\∃q D,r=[(q,D)]/\vr s (q:Nat) D ts.length=some vs)):=by
 have h1:eE s f t b []=true:=by
  cases hq:eE s f t b [] with
  |true=>rfl
  |false=>rw[Znr hq] at h;cases h
 have h0:d≠[]:=λe=>by rw[e,Znt h1] at h;injection h with h;exact hl h.symm
 have h4:¬4096<d.length:=λe=>by rw[Zns h1 e] at h;cases h
 rw[Mn h1 h0 h4] at h;rcases hr:qZ s f d with _|l';rw[hr] at h;cases h;rw[hr] at h;simp only at h;split at h
 .rename_i hv;injection h with h;subst h;refine⟨h1,h0,h4,hv,?_⟩;rcases hu:jJ d with _|fr;rw[Zng hu] at hr;cases hr
  match fr,hu with
  |[],hu=>unfold qZ at hr;rw[hu] at hr;cases hr
  |p::r,hu=>
   rw[XG hu] at hr;obtain⟨k,C⟩:=p;split at hr
   .rename_i hc;obtain⟨rfl,e1,e2⟩:=hc;simp only at e1 e2 hr;rcases jj:Yw s (nE C 4096).1 r with _|vs;rw[jj] at hr;cases hr;rw[jj] at hr;injection hr with hr;refine⟨C,r,(nE C 4096).1,vs,rfl,by rw[<-e1],e2,hr.symm,?_⟩;by_cases h3:s.1=3
    .unfold Yw at jj;rw[Vag h3] at jj;split at jj;.rename_i hn;injection jj with jj;exact .inl ⟨h3,hn,jj.symm⟩
     cases jj
    refine .inr ⟨h3,?_⟩;match r,jj with
    |[],jj=>unfold Yw at jj;rw[Vae h3] at jj;cases jj
    |[(q,D)],jj=>exact⟨q,D,rfl,by rw[<-ZoV h3];exact jj⟩
    |_::_::_,jj=>unfold Yw at jj;rw[Vae h3] at jj;cases jj
   cases hr
 cases h
end Wv
namespace Go.Proofs.Y
open Wv Go.RowKit
theorem ZtQ {w:aq} (a c f t:Int) (a7:rj a c w) {b:aT} (y:b.size<=1099511627776) (d:ax) {l:List (Int×aT)} (h:sgD (a,c) f t b d=(l,0)) (i7:l≠[]):
  Calls prog 33 #[.agg #[a,c],f,t,b,bs d] w λx w'=>yg w (l,0) x w':=by
 obtain⟨d7,h0,F,f8,C,r,ts,vs,b2,d8,b3,rfl,d2⟩:=Zu3 h i7;have c8:=J (λW (hb:Below w w W)=>Yk (l:=[]) (At.nil W none) a c f t (a7.below hb) y (λx m1=>by cases m1) 0 0 rfl aY);rw[d7] at c8;have a1:vs=ts.length/\∀v∈vs,v.size<=128:=by rcases d2 with ⟨_,_,rfl⟩|⟨_,q,D,_,e7⟩;exact⟨iE,λv a7=>by rw[(Cf.1 a7).2];decide⟩;exact Zm4 e7
 have c6:=XK f ts vs a1.1.symm;have e4:Zi ts=true:=by have h9:=JA C 4096;rw[d8] at h9;rcases h9 with (h|h)|⟨l,h,_,i0,_,a3⟩;injection h with h _;exact absurd h b3;injection h with h _;exact absurd h b3;injection h with h _;subst h;exact i0
 have n9:=(Zd.1 e4).2.2;have f9:=J (λW A cap (h:At W A (cv (iU f ts vs))) (hb:Below w w W)=>Yk h a c f t (a7.below hb) y (Z4O f a1.2) ts cap (by rw[c6]) O);rw[f8] at f9;have z:=J (λW h=>Dc (w:=w) (W:=W) (a:=a) (c:=c) h);obtain⟨j6,j7,_⟩:=Xn.1 d7;obtain⟨i1,m2,m3⟩:=Hb.1 j7;have b8:Hid (-1<=f/\f<=1099511627776):=J ⟨i1,O⟩;have k8:=YU d;rw[Vai h0] at k8;have o5:¬(4096:Int)<((bs d).size:Int):=Ar;have c7:=J (λW=>WN O b2 W);have n4:=J (λi (h:i<ts.length)=>(Zd.1 e4).2.1 ts[i] (dt h));have j8:=KT b2 (1,C) fi;have b5:=λW=>R4 (w:=W) (bs C) (by rw[Z0];show C.length<=_;have:C.length<=4096:=j8;omega) 4096;simp only[Zm,d8] at b5;unfold rh at b5;have g5:=J b5;have n7:((ts.length:Int)==0)=false:=by rw[lL];intro e;exact b3 (ia O)
 obtain⟨I,e9⟩:=ay ((a==3));have e8:(I=true/\r=[]/\vs=List.replicate ts.length ⟨#[]⟩)\/(I=false/\∃q D,r=[(q,D)]/\∀W,Calls prog 60 #[.agg #[a,c],.agg #[.int .i64 (q:Int),bs D],ts.length] W λx w'=>∃A cap,x=.returned (.tuple #[.slice A ts cap,true])/\At w' A (bz vs)/\Below W.heap.size W w'):=by rcases d2 with ⟨a3,h⟩|⟨a3,q,D,i9,e7⟩;exact .inl ⟨by rw[<-e9];exact beq_iff_eq.2 a3,h⟩;refine .inr ⟨by rw[<-e9];exact lL.2 a3,q,D,i9,λW=> ?_⟩;have l5:=KT b2 (q,D) (by rw[i9];simp);refine(ZpC (w:=W) a c (q:Int) ts D j6 a3 (by show D.length<=_;have:D.length<=4096:=l5;omega)).mono ?_;rw[e7];rintro x w' ⟨A,m,cap,rfl,F,hb⟩;obtain⟨l9,u⟩:=F vs rfl;rw[l9,a1.1];exact⟨A,cap,rfl,u,hb⟩
 obtain⟨M,b1⟩:=ay (((1,C)::r).length);rw[b1] at c7;have E:Hid ((I=true->M=1)/\(I=false->M=2)):=J (by rcases e8 with ⟨rfl,rfl,_⟩|⟨rfl,q,D,rfl,_⟩;exact⟨λ_=>b1.symm,λh=>po⟩;exact⟨λh=>po,λ_=>b1.symm⟩);obtain⟨e3,b9,k0⟩:=bD e8 a1 c6;have i8:(a !=3)= !I:=(by rw[<-e9];rfl);unfold yg;generalize bs d=S at*;clear a7 y d7 h0 F j6 j7 i1 m2 m3 h i7 f8 b2 d8 b3 d2 e8 a1 c6 e4 j8 b5 b1;go_in;go_wp21;refine aP (c8.o _ (z.o _ (bf _ _)).2.2.1) λw1 e5=>?_;obtain⟨_,_,aa,_⟩:=z.o _ e5;have d3:=J e5;clear e5 aa c8;go_wp21;refine(c7.o _).mono ?_;rintro x n2 ⟨A2,o2,rfl,u,aa⟩;have a9:=J (d3.o.trans (aa.mono d3.o.size));obtain⟨f3,f4,k5,h6⟩:=z.o _ a9.o;obtain⟨b0,b6,rfl,f7,c0,c1⟩:=HB u 0 (by simp);simp at c0 c1;have g8:=J u;clear aa k5 u c7 d3;generalize bs C=SC at*;go_upto_if 40 with fail;go_cut [14] (λs wx=>s=M/\wx=n2)
 case first=>
  cases I with
  |true=>have h1:=J (E.o.1 rfl);go_wp2;go_meet;case rel=>exact⟨by rw[h1.o];rfl,rfl⟩
  |false=>have h1:=J (E.o.2 rfl);go_wp2;go_meet;case rel=>exact⟨by rw[h1.o];rfl,rfl⟩
 obtain⟨rfl,rfl⟩:=hcut;have g1:0<M:=by rcases e3.o with ⟨h,_⟩|⟨h,_⟩;rw[E.o.1 h];decide;rw[E.o.2 h];decide
 have a5:(0:Int)<M:=O;go_wp21;refine(g5.o _).mono ?_;rintro x G ⟨v,rfl,⟨A3,n6,l6,h7⟩,an⟩;subst l6;have d5:=J (a9.o.trans (an.mono a9.o.size));obtain⟨f3,f4,Q,h6⟩:=z.o _ d5.o;have o3:=Y5 (P:=prog) 23 9 (.string ⟨#[]⟩) 16 underlying23 GV rfl (ts.length:Int) ts rfl O O G;have g9:=(Bk.new G 9 (Array.replicate ts.length (.string ⟨#[]⟩))).at_;have a2:=(bf G G).alloc aU (.cells (Array.replicate ts.length (.string ⟨#[]⟩)) 9);obtain⟨c3,k1,j0,h5⟩:=dc (d5.o.trans (a2.mono d5.o.size)) (h7.below a2) (g8.o.below (an.trans (a2.mono an.size))) g9;have c9:=Vas f7 (an.trans (a2.mono an.size)).size;clear an h7 g9 a2 Q g8 a9 g5 f7 c0 c1;go_upto_if 76 with fail;generalize G.alloc (.cells (Array.replicate ts.length (.string ⟨#[]⟩)) 9)=wM at*;go_cut [16] (λs wx=>∃c4 cap,s=.slice c4 ts cap/\Hid (At wx c4 (bz vs))/\Hid (Below wM wM wx))
 case first=>
  rcases e3.o with ⟨rfl,_,g4⟩|⟨rfl,q,D,g0,a4⟩;.have ff:Hid (At wM (some ⟨G,0,none⟩) (bz vs)):=J (by have k:=h5.o;rw[g4];unfold bz;rw[List.map_replicate];rw[Array.toList_replicate] at k;exact k);clear g4;go_wp2;go_meet;case rel=>exact⟨_,_,rfl,ff,J (bf _ _)⟩
  have n1:=E.o.2 rfl;have k4:=J a4;have u:=j0.o;rw[g0] at u;obtain⟨k6,m9,e6,_,d0,d9⟩:=HB u 1 (by simp);injection e6 with e6;injection e6 with l0 l1;subst l0;subst l1;simp at d0 d9;have f5:∀X,Below wM.drew wM.drew X->X.cell? (w,0)=some (.int .i64 a)/\X.cell? (w,1)=some (.int .i64 c)/\X.cell? (b0,b6+2)=some (.int .i64 (q:Int))/\X.cell? (b0,b6+3)=some (.string (bs D)):=λX h=>by have g:=z.o X (c3.o.drew.trans (h.mono c3.o.drew.size));have h8:=((bf wM wM).drew).trans h;exact⟨g.1,g.2.1,SY h8 c9 d0,SY h8 c9 d9⟩
  have j5:=J f5;have h0:=f5 _ (bf _ _);have i4:(1:Int)<M:=O;have g3:=J ((bf wM wM).drew);generalize bs D=SD at*;clear u g0 f5 a4 d0 d9 n1 g1;go_upto_region 18 with fail
  go_region_held3 (λX=>X.cell? (w,0)=some (.int .i64 a)/\X.cell? (w,1)=some (.int .i64 c)/\X.cell? (b0,b6+2)=some (.int .i64 (q:Int))/\X.cell? (b0,b6+3)=some (.string SD)) (first|with_reducible assumption) (first
   |(go_at_call 60;with_reducible refine(k4.o _).mono ?_;rintro r p2 ⟨A4,j4,rfl,F,Q⟩;have j9:=J F;have k9:=j5.o _ Q;have k7:=J (g3.o.trans (Q.mono g3.o.size));clear F Q));clear h0 k9 j5;go_wp2;go_meet;case rel=>exact⟨A4,j4,rfl,j9,k7⟩
 obtain⟨c4,j4,rfl,k3,a6⟩:=hcut;clear f3 f4 h6 c9 j0 h5 E e3 g1 a5;generalize wc=wL at*;have f2:=J (c3.o.trans (a6.o.mono c3.o.size));have k2:=J (k1.o.below a6.o);go_wp2;go_loopw [19,92] (λn0 c5 wr=>∃i:Nat,i<=ts.length/\c5=(i:Int)/\Hid (wr.ownsRow wL 68 2 n0 i (cv ((iU f ts vs).take i)))/\Hid (Below wL wL wr)) (λ_ c5 _=>(ts.length-intOf c5).toNat);exact EO;obtain⟨i,hi,rfl,R,hb⟩:=hrel;obtain⟨f6,m6,rfl,a0⟩:=Zh R.o;have l2:=J (f2.o.trans (hb.o.mono f2.o.size));obtain⟨f3,f4,d6,n8⟩:=z.o _ l2.o;by_cases ab:i<ts.length;obtain⟨o0,o8,rfl,l7,t0⟩:=O7 (k2.o.below hb.o) i ab;obtain⟨o1,o9,rfl,l8,n3⟩:=Zkw (k3.o.below hb.o) i (by rw[b9.o.1];exact ab);have b4:=Z7S f (ts:=ts) (vs:=vs) b9.o.1.symm ab;have a8:=n4.o i ab;obtain⟨X,i6⟩:=ay ts[i];obtain⟨V,i5⟩:∃V,vs[i]'(by rw[b9.o.1];exact ab)=V:=⟨_,rfl⟩;rw[i6] at t0 b4 a8;rw[i5] at n3 b4;have o6:IntKind.i64.wrap (X+f)=X+f:=RM;have o7:IntKind.i64.wrap (X+f+1)=X+f+1:=RM;obtain⟨p0,W',g7,d4,g6⟩:=xZ R.o hb.o hb.o.size O (X+f+1,V);rw[<-b4] at d4;obtain⟨b7,p,B⟩:=bD g7 d4 g6;have o4:(0:Int)<=i:=O;have p1:(i:Int)<ts:=O;clear g7 d4 g6 b4 R hb a8 a0 i6 i5;exact uY;have a8:i=ts.length:=O;subst a8;rw[d' (by rw[XK f ts vs b9.o.1.symm];exact aU)] at a0;obtain⟨m8,l3,n5,j3⟩:=dc (f9.o wr f6 m6 a0 d6) a0 (λb o (k:f6=some ⟨b,o,none⟩)=>(by have h1:=f2.o.size;have i0:=(R.o.lt b (by rw[k];rfl)).1;rw[World.size_alloc] at h1;omega:w.heap.size<=b)) d6;clear R a0 d6;go_wp21;refine aP m8.o λp3 y=>?_;have m5:=J (j3.o.trans (y.mono j3.o.size));have m4:=J (l3.o.below y);clear y;go_wp2;go_returns;exact⟨_,rfl,⟨_,_,by rw[k0.o];rfl,m4.o,n5.o⟩,m5.o⟩
variable{A1 A2 A3:Wto}{B k k1 k2 k3:Nat}{b:Int}{w:aq}
structure wG (w:World) (B:Nat) (c:eS) (A1:Option Addr) (k1:Nat) (A2:Option Addr) (k2:Nat) (A3:Option Addr) (k3:Nat):Prop where
 bk:Bk w B 27 (iC c.f c.t A1 c.vs.length k1 A2 c.ch.length k2 A3 c.gaps.length k3)
 v:At w A1 (eN c.vs)
 h:pN w A2 c.ch
 g:At w A3 (pv c.gaps)
theorem wG.below {w':aq} {c:eS} (h:wG w B c A1 k1 A2 k2 A3 k3) (hb:Below w w w'):wG w' B c A1 k1 A2 k2 A3 k3:=⟨h.bk.below hb h.bk.lt,h.v.below hb,h.h.below hb,h.g.below hb⟩
structure wJ (c:eS):Prop where
 f:mE c.f
 t:mE c.t
 v:c.vs.length<=9223372036854775807
 h:c.ch.length<=9223372036854775807
 g:c.gaps.length<=9223372036854775807
 vs:∀s∈c.vs,s.size<=1099511627776
 ch:∀l∈c.ch,l.length<=9223372036854775807/\∀x∈l,x.2.size<=1099511627776
theorem Zji {c:eS} (h:wG w B c A1 k1 A2 k2 A3 k3) (q:wJ c) (i:Nat) (I:i<c.vs) (E:i<c.ch) (a b:Int) (a2:rj a b w):
  Calls prog 36 #[i,.agg #[a,b],(B,0)] w (bM w (eE (a,b) c.f c.t (jU c.vs i) (fG c.ch i))):=by have p:=(bf w w).alloc aU (.cells #[a,b] 57);have h1:=h.below p;have F:=h1.bk.cell 0;have q1:=h1.bk.cell 1;have q2:=h1.bk.cell 2;have q3:=h1.bk.cell 3;simp at F q1 q2 q3;obtain⟨b1,k,rfl,a9,c1⟩:=QB h1.v i I;obtain⟨g,l,G,u,rfl,l2,c2,a1⟩:=h1.h i E;have Q:=q.vs _ (dt I);obtain⟨S,a4⟩:=q.ch _ (dt E);rw[show jU c.vs i=c.vs[i] from ZO _ I,show fG c.ch i=c.ch[i] from ZO _ E];have D:=(bf (w.alloc (.cells #[a,b] 57)) (w.alloc (.cells #[a,b] 57))).drew;have a8:=J (Yk (a1.below D) a b c.f c.t ((a2.below p).below D) Q a4 c.ch[i].length u rfl S);have M:=J (p.trans (D.mono p.size));have i0:(0:Int)<=i:=O;have i1:(i:Int)<c.vs:=O;have b4:(i:Int)<c.ch:=O;have b6:=q.v;have b7:=q.h;have z:=h1.bk.lt;have b5:(w.alloc (.cells #[a,b] 57))=w.heap.size+1:=(by simp);clear h h1 q a2 a1 Q S a4 p D;generalize eE (a,b) c.f c.t c.vs[i] c.ch[i]=R at*;generalize c.vs[i]=s at*;generalize c.ch[i].length=nl at*;obtain⟨f,t,vs,ch,gs⟩:=c;simp only at*;generalize vs.length=nv at*;generalize ch.length=nc at*;generalize gs.length=ng at*;have a5:(w.alloc (.cells #[a,b] 57)).cell? (w,0)=a:=(Bk.new w 57 #[a,b]).cell 0;have a6:(w.alloc (.cells #[a,b] 57)).cell? (w,1)=b:=(Bk.new w 57 #[a,b]).cell 1;have a3:w<(w.alloc (.cells #[a,b] 57)).heap.size:=O;have b3:(w.alloc (.cells #[a,b] 57)).drew.cell? (w,0)=a/\(w.alloc (.cells #[a,b] 57)).drew.cell? (w,1)=b/\(w.alloc (.cells #[a,b] 57)).drew.cell? (B,0)=f/\(w.alloc (.cells #[a,b] 57)).drew.cell? (B,1)=t/\(w.alloc (.cells #[a,b] 57)).drew.cell? (B,2)=some (.slice (some (b1,k)) nv k1)/\(w.alloc (.cells #[a,b] 57)).drew.cell? (B,3)=some (.slice (some (g,l)) nc k2)/\(w.alloc (.cells #[a,b] 57)).drew.cell? (b1,k+i)=s/\(w.alloc (.cells #[a,b] 57)).drew.cell? (g,l+i)=(G,nl,u):=⟨a5,a6,F,q1,q2,q3,c1,c2⟩;have a7:Hid (∀W,Below (w.alloc (.cells #[a,b] 57)).drew (w.alloc (.cells #[a,b] 57)).drew W->W.cell? (w,0)=some (.int .i64 a)/\W.cell? (w,1)=some (.int .i64 b)/\W.cell? (B,0)=some (.int .i64 f)/\W.cell? (B,1)=some (.int .i64 t)/\W.cell? (B,2)=some (.slice (some (b1,k)) nv k1)/\W.cell? (B,3)=some (.slice (some (g,l)) nc k2)/\W.cell? (b1,k+i)=some (.string s)/\W.cell? (g,l+i)=some (.slice G nl u)):=J (λW hb=>⟨Below.cellAt hb a3 a5,Below.cellAt hb a3 a6,Below.cellAt hb z F,Below.cellAt hb z q1,Below.cellAt hb z q2,Below.cellAt hb z q3,Below.cellAt hb a9 c1,Below.cellAt hb l2 c2⟩);go_in;go_wp2;go_region_held3 (λW=>W.cell? (w,0)=some (.int .i64 a)/\W.cell? (w,1)=some (.int .i64 b)/\W.cell? (B,0)=some (.int .i64 f)/\W.cell? (B,1)=some (.int .i64 t)/\W.cell? (B,2)=some (.slice (some (b1,k)) nv k1)/\W.cell? (B,3)=some (.slice (some (g,l)) nc k2)/\W.cell? (b1,k+i)=some (.string s)/\W.cell? (g,l+i)=some (.slice G nl u)) (first|with_reducible assumption) ((go_at_call 37;with_reducible refine(a8.o).mono ?_;rintro x w1 ⟨rfl,a0⟩;have b0:=a7.o _ a0;have y:=J (M.o.trans (a0.mono M.o.size))));exact EQ
theorem Zfk (a c f t:Int) (w:aq):Calls prog 51 #[.agg #[a,c],f,t,(0:Int)] w (bM w (.tuple #[.slice none 0 0,(1:Int)])):=by
 have g:=J ((bf w w).alloc aU (.cells #[a,c] 57));have k:=J (λW=>V2 a c f t W);generalize (dS (a,c)&&sx f t)=B at*
 cases B<;>(
  go_in;go_wp21;refine ij (k.o _) g λw1 l=>?_;clear g;go_wp2;go_returns;exact⟨rfl,l.o⟩)
theorem Zjr (a c f t:Int) (S:aT) (w:aq):Calls prog 32 #[.agg #[a,c],f,t,(0:Int),S] w (bM w (.tuple #[.slice none 0 0,(1:Int)])):=by have g:=J ((bf w w).alloc aU (.cells #[a,c] 57));have k:=J (λW=>Zfk a c f t W);go_in;go_wp21;refine ij (k.o _) g λw1 y=>?_;clear g;exact EQ
theorem Zjj {c:eS} (h:wG w B c A1 k1 A2 k2 A3 k3) (y:wJ c) (i:Nat) (u:i<c.ch) (a b:Int) {N:Nat} {m:Int} (q:Bk w N 3 #[m]) (a6:0<=m) (S:m<=1000000) (M:(fG c.ch i).length<=4611686018427387904):
  Calls prog 38 #[i,.agg #[a,b],(N,0),(B,0)] w λx w'=>x=.returned (decide (m+((fG c.ch i).length:Int)<=4096))/\Bk w' N 3 #[(m+(fG c.ch i).length:Int)]/\Fr (only N) w w':=by
 have l:=(bf w w).alloc aU (.cells #[a,b] 57);have h1:=h.below l;have g:=q.below l q.lt;have q3:=h1.bk.cell 3;have Q:=g.cell 0;have F:=g.frozen 0;simp at q3 Q F;obtain⟨R,a7,G,a2,rfl,l2,c2,I⟩:=h1.h i u;rw[show fG c.ch i=c.ch[i] from ZO _ u] at M⊢;clear I;have i0:(0:Int)<=i:=O;have a0:(i:Int)<c.ch:=O;have a5:=y.h;have z:=J g;have E:=J ((Fr.refl (only N) w).alloc (.cells #[a,b] 57));have a3:=h1.bk.lt;have a4:=g.lt;generalize c.ch[i].length=k at*;have a1:IntKind.i64.wrap (m+(k:Int))=m+(k:Int):=lO;clear h h1 y q g l;clear u;obtain⟨f,t,vs,ch,gs⟩:=c;simp only at*;generalize ch.length=nc at*;have D:Hid (Bk ((w.alloc (.cells #[a,b] 57)).setCell (N,0) (m+(k:Int):Int)) N 3 #[(m+(k:Int):Int)]):=J (by simpa using z.o.put 0 (m+(k:Int):Int));go_in;go_wp2;go_region
 all_goals
  go_wp2;go_returns;exact⟨rfl,D.o,(E.o.setCell (p:=⟨N,0,none⟩) (.inl rfl) _).drew⟩
def xV (b:Int) (v:aT) (l:List dO) (g:Int×Int):Bool:=decide (ti v l g.1=bs (List.replicate b.toNat 120))&&l.all λx=> !(decide (g.1<x.1)&&decide (x.1<g.2))
theorem ZiG (gs:List (Int×Int)) (a b:Int) (v:aT) (l:List dO):Br gs (a,b) v l=(!decide (a=0)||gs.all (xV b v l)):=rfl
theorem Zoj (h1:1<=b) (g:b<=128):mr b 120=List.replicate b.toNat 120:=by unfold mr;rw[Vae];rintro(h|h|h);exact O;exact O;revert h;decide
abbrev vB (X:aq) (B G H nv nc ng:Nat) (f t x b:Int) (A1:Wto) (k1:Nat) (A2:Wto) (k2:Nat) (A3:Wto) (k3:Nat) (W:aq):Prop:=
 (W.cell? ⟨B,0,none⟩=f/\W.cell? ⟨B,1,none⟩=t/\W.cell? ⟨B,2,none⟩=some (.slice A1 nv k1)/\W.cell? ⟨B,3,none⟩=some (.slice A2 nc k2)/\W.cell? ⟨B,4,none⟩=some (.slice A3 ng k3)/\W.cell? ⟨G,0,none⟩=x/\W.cell? ⟨H,1,none⟩=b/\Below X X W)
theorem vB.below {X:aq} {G H l nc k:Nat} {f t x:Int} {W W':aq} (h:vB X B G H l nc k f t x b A1 k1 A2 k2 A3 k3 W) (D:B<X) (E:G<X) (F:H<X) (hb:Below W W W'):vB X B G H l nc k f t x b A1 k1 A2 k2 A3 k3 W':=by obtain⟨h0,h1,p,q,u,y,z,g⟩:=h;have s:=g.size;exact⟨Below.cellAt hb aO h0,Below.cellAt hb aO h1,Below.cellAt hb aO p,Below.cellAt hb aO q,Below.cellAt hb aO u,Below.cellAt hb aO y,Below.cellAt hb aO z,g.trans (hb.mono s)⟩
def Bx (n:Nat) (c:eS):Bool:=c.vs.all (λs=>decide ((s.size:Int)<=150))&&c.ch.all (λl=>tz l 30)&&((decide ((n:Int)<=8)&&decide ((c.vs.length:Int)<=10))&&decide ((c.ch.length:Int)<=10)&&decide ((c.gaps.length:Int)<=20))
theorem Z9p {α:Type} {p:α->Bool} {l:List α} (h:k<l) (g:p l[k]=false):l.all p=false:=by rw[Vc5];exact⟨l[k],dt h,by rw[g];decide⟩
theorem Gh {α:Type} {p:α->Bool} {l:List α} (h:k<l) (g:(l.take k).all p=true) (q:p l[k]=true):(l.take (k+1)).all p=true:=by rw[dK h,List.all_append,g];simp[q]
theorem ZfN {c:eS} (h1:At w A1 (eN c.vs)) (b6:pN w A2 c.ch) (d7:c.vs.length<=9223372036854775807) (d6:c.ch.length<=9223372036854775807) (b8:∀l∈c.ch,l.length<=9223372036854775807) (A:Wto) (n cap:Nat):
  Calls prog 5 #[(A,n,cap),.agg (iC c.f c.t A1 c.vs k1 A2 c.ch k2 A3 c.gaps k3)] w (bM w (Bx n c)):=by
 obtain⟨f,t,vs,ch,gs⟩:=c;simp only[iC] at*;have M:=(bf w w).alloc aU (.cells (iC f t A1 vs k1 A2 ch k2 A3 gs k3) 27);obtain⟨a8,a9,I⟩:=bD (h1.below M) (b6.below M) M;have y:Hid (Bx n ⟨f,t,vs,ch,gs⟩=(vs.all (λs=>decide ((s.size:Int)<=150))&&ch.all (λl=>tz l 30)&&((decide ((n:Int)<=8)&&decide ((vs.length:Int)<=10))&&decide ((ch.length:Int)<=10)&&decide ((gs.length:Int)<=20)))):=J rfl;obtain⟨D,E⟩:=ay vs.length;obtain⟨nc,z⟩:=ay ch.length;obtain⟨a5,S⟩:=ay gs.length;rw[E,z,S] at y;have c3:=J (λ(W:aq) i (hi:i<ch.length) B kB (d5:At W B (cv ch[i]))=>ZjD d5 ch[i].length kB rfl (b8 _ (dt hi)) 30);rw[E] at d7;rw[z] at d6;generalize Bx n ⟨f,t,vs,ch,gs⟩=R at*;have b4:=J E;have b3:=J z;rw[E,z,S] at I⊢;rw[E,z,S] at a8 a9;clear h1 b6 M b8 E z S;go_in;go_wp2;go_loopw [5] (λa6 wr=>∃k:Nat,k<=D/\a6=k/\Hid ((vs.take k).all (λs=>decide ((s.size:Int)<=150))=true)/\wr=w.alloc (.cells (iC f t A1 D k1 A2 nc k2 A3 a5 k3) 27)) (λa6 _=>(D-intOf a6).toNat);exact⟨0,cf _,rfl,J rfl,rfl⟩;obtain⟨k,e5,rfl,g,rfl⟩:=hrel;by_cases ab:k<D
 .have a4:k<vs:=(by rw[b4.o];exact ab);obtain⟨b1,e8,rfl,e7,c1⟩:=QB a8.o k a4;have e1:(0:Int)<=k:=O;have e2:(k:Int)<D:=O;have q:=λh=>Z9p (p:=λs:aT=>decide ((s.size:Int)<=150)) a4 h;have u:=λh=>Gh (p:=λs:aT=>decide ((s.size:Int)<=150)) a4 g.o h;generalize vs[k]=s at*;by_cases e6:(150:Int)<s.size;.have a2:Hid (R=false):=J (by rw[y.o,q (Vai O)];rfl);clear q u;go_wp2;go_returns;exact⟨Z4 a2.o.symm,I.o⟩
  have a1:=J (u (dd O));clear q u;go_wp2;refine⟨⟨k+1,ab,ci,a1,Fv⟩,?_⟩;simp[intOf]<;>omega
 have c4:k=D:=O;subst c4;have a3:Hid (vs.all (λs=>decide ((s.size:Int)<=150))=true):=J (by have:=g.o;rw[d' (by rw[b4.o];exact aU)] at this;exact this);clear g;go_wp2;go_loopw [6] (λa7 wr=>∃j:Nat,j<=nc/\a7=j/\Hid ((ch.take j).all (λl=>tz l 30)=true)/\wr=w.alloc (.cells (iC f t A1 k k1 A2 nc k2 A3 a5 k3) 27)) (λa7 _=>(nc-intOf a7).toNat);exact⟨0,cf _,rfl,J rfl,rfl⟩;obtain⟨j,e4,rfl,g,rfl⟩:=hrel;by_cases b5:j<nc
 .have Q:j<ch:=(by rw[b3.o];exact b5);obtain⟨d9,e9,G,d8,rfl,l2,c2,b7⟩:=a9.o j Q;have e3:(0:Int)<=j:=O;have b9:(j:Int)<nc:=O;have a0:=J (c3.o _ j Q G d8 b7);have q:=λh=>Z9p (p:=λl:List dO=>tz l 30) Q h;have u:=λh=>Gh (p:=λl:List dO=>tz l 30) Q g.o h;generalize tz ch[j] 30=F at*;clear b7;generalize ch[j].length=nl at*;go_wp21;refine cp a0.o ?_;cases F;.have a2:Hid (R=false):=J (by rw[y.o,a3.o,q rfl];rfl);clear q u;go_wp2;go_returns;exact⟨Z4 a2.o.symm,I.o⟩
  have a1:=J (u rfl);clear q u;go_wp2;refine⟨⟨j+1,b5,ci,a1,Fv⟩,?_⟩;simp[intOf]<;>omega
 have c9:j=nc:=O;subst c9;have b0:Hid (ch.all (λl=>tz l 30)=true):=J (by have:=g.o;rw[d' (by rw[b3.o];exact aU)] at this;exact this);rw[a3.o,b0.o] at y;clear g b0 a3
 by_cases c5:(n:Int)<=8<;>by_cases c6:(k:Int)<=10<;>by_cases c7:(j:Int)<=10<;>by_cases c8:(a5:Int)<=20<;>(
  simp only[c5,c6,c7,c8,decide_true,decide_false,Bool.and_true,Bool.and_false,Bool.false_and,Bool.true_and] at y;go_wp2;go_returns;exact⟨Z4 y.o.symm,I.o⟩)
