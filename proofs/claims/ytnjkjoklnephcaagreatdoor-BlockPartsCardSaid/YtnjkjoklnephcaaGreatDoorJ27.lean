import Derived.Test.YtnjkjoklnephcaaGreatDoorJ14
set_option linter.all false
set_option maxRecDepth 100000
set_option maxHeartbeats 0
theorem EQ{P:Prop}(h:P:=by go_wp2;go_returns;exact⟨rfl,y.o⟩):P:=h
theorem Jk{P:Prop}(h:P:=by rw[XQ _ i (by rw[c'];exact h) h2,uF]):P:=h
theorem Nv{P:Prop}(h:P:=by generalize bs (A.map dA)=g at*;generalize bs (B.map dA)=y at*;go_in;go_wp21;refine aP Ha.o λw1 z=>?_;go_wp21;refine aP (q.o _) λw2 aa=>?_;have Q:=J (z.trans (aa.mono z.size));clear aa z;go_wp2;go_returns;exact⟨rfl,Q.o⟩):P:=h
namespace Wv
open Go.Proofs.Tryz Go Go.RowKit
def dA (b:Bool):cj:=if b then 49 else 48
def lz (p:Nat) (c:cj):cj:=dA (if p=0 then decide (cd c % 2=1) else decide (2<=cd c))
theorem pch0 (v:ax):v.map (lz 0)=(kA v).map dA:=by unfold kA;rw[qx];rfl
theorem pch1 (v:ax):v.map (lz 1)=(kz v).map dA:=by unfold kz;rw[qx];rfl
end Wv
namespace Go.Proofs.Y
open Tryz Wv Go.RowKit
variable{q:Nat}{w:aq}
theorem Zna (p:Nat) (B:p=0\/p=1) (c:cj) (u:cd c<4) (y:Bk w q 3 #[p]):
  Calls prog 135 #[.int .u8 (c.toNat:Int),(q,0)] w λx w'=>x=.returned (.int .u8 ((lz p c).toNat:Int))/\∃n,w'=w.drewN n:=by
 have g:=J (λW=>Qc c W);have c0:w.cell? (q,0)=p:=y.cell 0;have l:pC c=(cd c:Int):=(by unfold pC;rw[aQ u]);have t:lz p c=dA (if p=0 then decide (cd c % 2=1) else decide (2<=cd c)):=rfl;clear y;rw[l] at g;rw[t];clear l t;generalize cd c=k at*;generalize (c.toNat:Int)=C at*;have z:k=0\/k=1\/k=2\/k=3:=O;clear u;rcases B with rfl|rfl<;>rcases z with rfl|rfl|rfl|rfl
 all_goals
  go_in;go_wp2;go_region_with ((go_at_call 107;with_reducible refine(g.o _).mono ?_;rintro r D ⟨rfl,rfl⟩))
  all_goals
   go_wp2;go_returns;exact⟨rfl,1,rfl⟩
theorem ZdA (p:Nat) (b8:p=0\/p=1) (v:ax) (b9:v.length<=1099511627776) (b0:∀c∈v,cd c<4) (b2:Bk w q 3 #[p]):
  Calls prog 134 #[bs v,.func (.func 135) #[] #[(q,0)]] w (bM w (bs (v.map (lz p)))):=by
 have z:=run_bytes_of_string (P:=prog) w 9 88 5 (bs v) underlying9 underlying88 underlying5;have a4:(bs v).size=v:=Z0 v;have y:=na.new w.drew 5 (bs v) (grownCap w (bs v).size 0 5) ((bytesRow (bs v) (grownCap w (bs v).size 0 5)).size,(bytesRow (bs v) (grownCap w (bs v).size 0 5)).size+1) (by unfold bytesRow;simp);have G:=J (((bf w w).drew).alloc aU (.cells (bytesRow (bs v) (grownCap w (bs v).size 0 5)) 5 ((bytesRow (bs v) (grownCap w (bs v).size 0 5)).size,(bytesRow (bs v) (grownCap w (bs v).size 0 5)).size+1)));have a8:(bs v).data.toList=v:=rfl;rw[a8] at y;obtain⟨F,c3,a2,b4⟩:=dc (show na _ w 5 v from y) (λc W g b7=>Zna p b8 c g (w:=W) (q:=q) b7) b2 b0;clear b2 b0;obtain⟨n,E⟩:=ay v.length;obtain⟨cap,t⟩:=ay (grownCap w (bs v).size 0 5);rw[t] at z G F;have c8:n<=cap:=PI;generalize w.drew.alloc (.cells (bytesRow (bs v) cap) 5 ((bytesRow (bs v) cap).size,(bytesRow (bs v) cap).size+1))=W0 at*;rw[a4,E] at z;rw[E] at b9;have I:=J E;obtain⟨S,b1⟩:=ay (bs v);rw[b1] at z⊢;clear a4 y a8 t E b1;go_in;go_wp2;go_loopw [12] (λa0 wr=>∃i:Nat,i<=n/\a0=i/\Hid (na wr w 5 ((v.take i).map (lz p)++v.drop i))/\Hid (Below w w wr)) (λa0 _=>(n-intOf a0).toNat);exact⟨0,cf _,rfl,F,G⟩;clear F G z;obtain⟨i,hi,rfl,y,hb⟩:=hrel;by_cases ab:i<n;.have M:i<v:=xh;have B:v.take (i+1)=v.take i++[v[i]]:=dK M;have l:v.drop i=v[i]::v.drop (i+1):=kw M;have k:((v.take i).map (lz p)).length=i:=CB;obtain⟨c,g⟩:=ay v[i];rw[g] at B l;have a1:i<((v.take i).map (lz p)++v.drop i).length:=(by rw[bV,k,iW];omega);obtain⟨h1,c7⟩:=y.o.cell i a1;have b3:((v.take i).map (lz p)++v.drop i)[i]=c:=PB;rw[b3] at h1;have c4:wr.cell? (w,i)=some (.int .u8 (c.toNat:Int)):=h1;have a7:((v.take i).map (lz p)++v.drop i).set i (lz p c)=(v.take (i+1)).map (lz p)++v.drop (i+1):=Pu;have a3:Hid (∀m,na ((wr.drewN m).setCell (w,i) (bv (lz p c))) w 5 ((v.take (i+1)).map (lz p)++v.drop (i+1))):=J (λm=>by rw[<-a7];exact na.put (w:=wr.drewN m) y.o i a1 (lz p c));have b5:=J (c3.o c wr (b4.o c (by rw[<-g];exact dt _)) (a2.o.below hb.o a2.o.lt));have a9:Hid (∀m,Below w w ((wr.drewN m).setCell (w,i) (bv (lz p c)))):=J (λm=>Below.setCell (p:=⟨w,i,none⟩) (show Below w w (wr.drewN m) from⟨hb.o.os,hb.o.tape,hb.o.output,hb.o.size,hb.o.block⟩) aU (bv (lz p c)));have c6:(i:Int)<n:=O;have c9:(0:Int)<=i:=O;clear M B l k g a1 h1 b3 a7 y hb;unfold bv at a3 a9;go_wp21;refine aP b5.o ?_;rintro w1 ⟨m,rfl⟩;go_wp2;refine⟨⟨i+1,ab,ci,J (a3.o m),J (a9.o m)⟩,?_⟩;simp[intOf]<;>omega
 have b6:i=n:=O;subst b6;have B:v.take i=v:=d' og;have l:v.drop i=[]:=oc og;have u:=y.o;rw[B,l,fg] at u;have k:(v.map (lz p))=i:=(by rw[c',I.o]);have Q:=run_convert_bytes_back (P:=prog) wr 88 9 5 ⟨w,0,none⟩ cap (v.map (lz p)) underlying88 underlying5 underlying9 (λj D=>P3);rw[k] at Q;have a6:(⟨(v.map (lz p)).toArray⟩:aT)=bs (v.map (lz p)):=rfl;rw[a6] at Q;obtain⟨c5,R⟩:=ay (bs (v.map (lz p)));rw[R] at Q;have a5:=J R;clear B l u k y a6 R;exact Al
theorem o_ (p:Nat) (z:p=0\/p=1) (v:ax) (l:v.length<=1099511627776) (k:∀c∈v,cd c<4) (g:Bk w q 9 #[bs v]):
  Calls prog 133 #[p,(q,0)] w (bM w (bs (v.map (lz p)))):=by have u:=J (ZdA p z v l k (Bk.new w 3 #[p]));have t:=J ((bf w w).alloc aU (.cells #[p] 3));have c0:w.cell? (q,0)=(bs v):=g.cell 0;have c1:=J (g.alloc (.cells #[p] 3));have c2:(w.alloc (.cells #[p] 3)).cell? (q,0)=(bs v):=c1.o.cell 0;clear g l k;generalize bs (v.map (lz p))=R at*;generalize bs v=S at*;go_in;go_wp21;refine ij u.o t λw1 y=>?_;exact EQ
theorem ZbP (v:ax) (g:v.length<=1099511627776) (w:aq):
  Calls prog 92 #[bs v] w (bM w (.tuple #[bs (if fs v=true then(kA v).map dA else[]),bs (if fs v=true then(kz v).map dA else[])])):=by
 obtain⟨k,q,l⟩:=bD (λW=>xz v g W) (Bk.new w 9 #[bs v]) ((bf w w).alloc aU (.cells #[bs v] 9));cases hi:fs v;.rw[hi] at k;simp only[Bool.false_eq_true,if_false];rw[show bs ([]:ax)=⟨#[]⟩ from rfl];clear hi q g;generalize bs v=S at*;go_in;go_wp21;refine ij (k.o _) l λw1 y=>?_;exact EQ
 rw[hi] at k;simp only[if_true];have t:∀c∈v,cd c<4:=(Zp.1 hi).1;have z:=J (λW (u:Bk W w 9 #[bs v])=>o_ 0 (.inl rfl) v g t u);have B:=J (λW (u:Bk W w 9 #[bs v])=>o_ 1 (.inr rfl) v g t u);rw[pch0] at z;rw[pch1] at B;clear hi g t;generalize bs ((kA v).map dA)=R0 at*;generalize bs ((kz v).map dA)=R1 at*;generalize bs v=S at*;go_in;go_wp21;refine aP (k.o _) λw1 p=>?_;have ff:=J (q.o.below p q.o.lt);have y:=J (l.o.trans (p.mono l.o.size));clear p;go_wp21;refine aP (z.o _ ff.o) λF aa=>?_;have gk:=J (ff.o.below aa ff.o.lt);have D:=J (y.o.trans (aa.mono y.o.size));clear aa;go_wp21;refine ij (B.o _ gk.o) D λG E=>?_;go_wp2;go_returns;exact⟨rfl,E.o⟩
end Go.Proofs.Y
namespace Wv
open Go.Proofs.Tryz Go Go.RowKit
theorem ZoH (b:Bool):cd (dA b)=b.toNat:=by cases b<;>decide
theorem ZlN (b:Bool):nP (dA b)=true:=by cases b<;>decide
theorem ZkU {A:List Bool} (h:A.length<=128):jM (A.map dA)= !A.isEmpty:=by
 unfold jM fs;have h1:(A.map dA).all nP=true:=(by rw[List.all_map,uI];exact λb _=>ZlN b);have g:(A.map dA).all (λc=>decide (cd c<2))=true:=by rw[List.all_map,uI];intro b _;show decide (cd (dA b)<2)=true;rw[ZoH];cases b<;>decide
 rw[h1,g,c',dd h];cases A<;>rfl
theorem Zhc (x y:Bool):x.toNat+2*y.toNat<4:=by cases x<;>cases y<;>decide
def wk (A B:List Bool):ax×Nat:=if A=[]\/B=[] then([],1) else if A.length≠B then([],8) else(lH A B,0)
def mA (a b:List Bool) (i:Nat):ax:=lH (a.take i) (b.take i)++List.replicate (a.length-i) 0
theorem Zpo (a b:List Bool) (g:a=b.length) (i:Nat) (hi:i<=a):(mA a b i)=a.length:=by unfold mA lH;rw[bV,Ah,ek,ek,iE];omega
theorem Zpp (a b:List Bool) (l:a=b.length) (i:Nat) (g:i<a) (hb:i<b):(mA a b i).set i (ch (a[i].toNat+2*b[i].toNat))=mA a b (i+1):=by
 have k:(lH (a.take i) (b.take i))=i:=by unfold lH;rw[Ah,ek,ek];omega
 unfold mA;rw[nj _ _ O,k,fh];unfold lH
 rw[dK g,dK hb,
  List.zipWith_append (by rw[ek,ek];omega),show a.length-i=(a.length-(i+1))+1 by omega,pP,List.set_cons_zero];simp
end Wv
namespace Go.Proofs.Y
open Tryz Wv Go.RowKit
theorem Ze5 (A B : List Bool) (d7 : A.length <= 128) (d8 : B.length <= 128) (w : aq) :
    Calls prog 97 #[bs (A.map dA),bs (B.map dA)] w (bM w (.tuple #[bs (wk A B).1,((wk A B).2:Int)])):=by
  have Ha:=J (Bj (A.map dA) (by rw[c'];omega) w);have q:=J (λW=>Bj (B.map dA) (by rw[c'];omega) W);rw[ZkU d7] at Ha;rw[ZkU d8] at q;have k:(bs (A.map dA)).size=A:=(by rw[Z0,c']);have l:(bs (B.map dA)).size=B:=(by rw[Z0,c']);have M:bs ([]:ax)=⟨#[]⟩:=rfl;unfold wk;by_cases h1:A=[];rw[aQ (.inl h1)];rw[show(!A.isEmpty)=false by rw[h1];rfl] at Ha;simp only[M];clear k l M h1;generalize bs (A.map dA)=g at*;generalize bs (B.map dA)=y at*;exact PR
  have a2 : A.isEmpty = false := by cases A with
    |nil=>exact absurd rfl h1
    |cons _ _=>rfl
  rw[a2] at Ha;by_cases h2:B=[];rw[aQ (.inr h2)];rw[show(!B.isEmpty)=false by rw[h2];rfl] at q;simp only[M];clear k l M h1 h2 a2;exact Nv
  have c7 : B.isEmpty = false := by cases B with
    |nil=>exact absurd rfl h2
    |cons _ _=>rfl
  rw[c7] at q;rw[aD (λh=>h.elim h1 h2)];by_cases t:A=B.length
  . rw[aD (by simp[t])];simp only;have b3:(((bs (A.map dA)).size:Int) !=((bs (B.map dA)).size:Int))=false:=Fa;have b1:Hid (∀(i:Nat) (h:i<A.length) (h2:i<(bs (A.map dA)).size),(bs (A.map dA))[i]'h2=dA (A[i]'h)):=J (λi h h2=>Jk);have b2:Hid (∀(i:Nat) (h:i<B.length) (h2:i<(bs (B.map dA)).size),(bs (B.map dA))[i]'h2=dA (B[i]'h)):=J (λi h h2=>Jk);obtain⟨n,F⟩:=ay A.length;have c6:B=n:=O;have b8:=λW=>Y5 (P:=prog) 88 5 (.int .u8 0) 1 underlying88 dw rfl ((bs (A.map dA)).size:Int) n (by rw[k,F]) O O W;have d4:(Array.replicate n (.int .u8 0:aI))=((mA A B 0).map bv).toArray:=by unfold mA lH;exact PS
    obtain⟨a7,a6,b4⟩:=bD d4 (λi (hi:i<=n)=>(show(mA A B i).length=n by rw[Zpo A B t i O,F])) (λi (h1:i<A.length) (h2:i<B.length)=>Zpp A B t i h1 h2);have a9:Hid (mA A B n=lH A B):=J (by unfold mA;exact Pr);have I:=J F;have f3:=J c6;rw[F] at k;rw[c6] at l;obtain⟨g,e4⟩:=ay (bs (A.map dA));obtain⟨y,e5⟩:=ay (bs (B.map dA));rw[e4] at k b3 b8 b1 Ha⊢;rw[e5] at l b3 b2 q⊢;have a3:n<=128:=O;have f7:=J k;have f2:=J l;clear d4 F c6 e4 e5 k l M t h1 h2 a2 c7 d7 d8;go_in;go_wp21;refine aP Ha.o λw1 z=>?_;go_wp21;refine aP (q.o _) λw2 aa=>?_;have a8:=z.trans (aa.mono z.size);have e3:=b8 w2;have b7:=Bk.new w2 5 (Array.replicate n (.int .u8 0));rw[a7.o] at b7;have R:=J b7;have a4:=J (a8.alloc a8.size (.cells (Array.replicate n (.int .u8 0)) 5));have d9:=a8.size;obtain⟨G,d1⟩:=ay w2.heap.size;rw[d1] at e3 d9 R;rw[<-a7.o] at R;generalize w2.alloc (.cells (Array.replicate n (.int .u8 0)) 5)=W0 at*;clear b8 Ha q z aa a8 b7 d1;rw[a7.o] at R;go_wp2;go_loopw [26] (λc8 wr=>∃i:Nat,i<=n/\c8=(i:Int)/\Hid (Bk wr G 5 ((mA A B i).map bv).toArray)/\Hid (Below w w wr)) (λc8 _=>(n-intOf c8).toNat);exact Cq;clear R a4 e3 a7;obtain⟨i,hi,rfl,a1,hb⟩:=hrel;by_cases ab:i<n
    . have c5:i<A.length:=xh;have c4:i<B.length:=(by rw[f3.o];exact ab);have e2:=b1.o i c5;have d5:=b2.o i c4;have e1:=b4.o i c5 c4;have b0:=a6.o i hi;have b6:=a1.o.put i (bv (ch (A[i].toNat+2*B[i].toNat)));rw[List.setIfInBounds_toArray,<-List.map_set,e1] at b6;have b5:=a1.o.cell i;rw[mF,jX,fb O] at b5;have f5:=a1.o.frozen i;obtain⟨g2,u⟩:∃o,(Option.map bv (some (mA A B i)[i]))=some o:=⟨_,rfl⟩;rw[u] at b5;have a0:=J b6;have S:=J (hb.o.setCell (p:=⟨G,i,none⟩) d9 (bv (ch (A[i].toNat+2*B[i].toNat))));unfold bv at a0 S;have e6:∀h:i<g.size,((g[i]'h).toNat:Int)=((dA A[i]).toNat:Int):=λh=>(by rw[e2 h]);have e7:∀h:i<y.size,((y[i]'h).toNat:Int)=((dA B[i]).toNat:Int):=λh=>(by rw[d5 h]);have f6:i<g.size:=(by rw[f7.o];omega);have e8:i<y.size:=(by rw[f2.o];omega);have c9:=e6 f6;have d3:=e7 e8;have d2:=J (λW=>KB (A[i].toNat+2*B[i].toNat) (Zhc A[i] B[i]) W);clear b6 e1 b0 u e2 d5 a1 hb e6 e7;have g3:(0:Int)<=i:=O;have g1:(i:Int)<n:=O;have f8:(i:Int)<g.size:=O;have f9:(i:Int)<y.size:=O;generalize A[i]=X at*;generalize B[i]=Y at*;clear c5 c4 b4 a6 a9 b1 b2;cases X<;>cases Y
      all_goals
        (try rw[show((dA false).toNat:Int)=48 from rfl] at c9);(try rw[show((dA true).toNat:Int)=49 from rfl] at c9);(try rw[show((dA false).toNat:Int)=48 from rfl] at d3);(try rw[show((dA true).toNat:Int)=49 from rfl] at d3);go_wp2;go_region_with ((go_at_call 137;refine(d2.o _).mono ?_;rintro r g4 ⟨rfl,rfl⟩))
        all_goals
          clear b5 f5 d2;go_wp2;go_roundw;exact OQ;simp[intOf]<;>omega
    have f4:i=n:=O;subst f4;have E:=a1.o;rw[a9.o] at E;have b0:(lH A B).length=i:=(by rw[<-a9.o];exact a6.o i aU);have b9:=run_convert_bytes_back (P:=prog) wr 88 9 5 ⟨G,0,none⟩ i (lH A B) underlying88 underlying5 underlying9 (λj D=>I1);rw[b0] at b9;have d6:(⟨(lH A B).toArray⟩:aT)=bs (lH A B):=rfl;rw[d6] at b9;obtain⟨g0,c3⟩:=ay (bs (lH A B));rw[c3] at b9;have a5:=J c3;clear E b0 d6 c3 a1 b4 a6 a9 b1 b2;exact Al
  rw[aQ t];have b3:(((bs (A.map dA)).size:Int) !=((bs (B.map dA)).size:Int))=true:=(by rw[k,l,kx];omega);simp only[M];clear k l M t h1 h2 a2 c7;exact Nv
