import Derived.Test.YtnjkjoklnephcaaGreatDoorF14
set_option linter.all false
set_option maxRecDepth 100000
set_option maxHeartbeats 0
theorem EQ{P:Prop}(h:P:=by go_wp2;go_returns;exact⟨rfl,y.o⟩):P:=h
theorem Jk{P:Prop}(h:P:=by rw[XQ _ i (by rw[c'];exact h) L,uF]):P:=h
theorem Nv{P:Prop}(h:P:=by generalize bs (A.map dA)=g at*;generalize bs (B.map dA)=y at*;go_in;go_wp21;refine aP Ha.o λw1 z=>?_;go_wp21;refine aP (q.o _) λw2 aa=>?_;have a3:=J (z.trans (aa.mono z.size));clear aa z;go_wp2;go_returns;exact⟨rfl,a3.o⟩):P:=h
namespace Wv
open Go.Proofs.Tryz Go Go.RowKit
def dA (b:Bool):cj:=if b then 49 else 48
def lz (p:Nat) (c:cj):cj:=dA (if p=0 then decide (cd c % 2=1) else decide (2<=cd c))
theorem pch0 (v:ax):v.map (lz 0)=(kA v).map dA:=by unfold kA;rw[qx];rfl
theorem pch1 (v:ax):v.map (lz 1)=(kz v).map dA:=by unfold kz;rw[qx];rfl
end Wv
namespace Go.Proofs.Y
open Tryz Wv Go.RowKit
variable{q:Nat}{w:aq}
theorem Zna (p:Nat) (y:p=0\/p=1) (c:cj) (l:cd c<4) (t:Bk w q 3 #[p]):
  Calls prog 135 #[.int .u8 (c.toNat:Int),(q,0)] w λx w'=>x=.returned (.int .u8 ((lz p c).toNat:Int))/\∃n,w'=w.drewN n:=by
 have d:=J (λW=>Qc c W);have c0:w.cell? (q,0)=p:=t.cell 0;have g:pC c=(cd c:Int):=(by unfold pC;rw[Vag l]);have j:lz p c=dA (if p=0 then decide (cd c % 2=1) else decide (2<=cd c)):=rfl;clear t;rw[g] at d;rw[j];clear g j;generalize cd c=k at*;generalize (c.toNat:Int)=C at*;have u:k=0\/k=1\/k=2\/k=3:=O;clear l;rcases y with rfl|rfl<;>rcases u with rfl|rfl|rfl|rfl
 all_goals
  go_in;go_wp2;go_region_with ((go_at_call 107;with_reducible refine(d.o _).mono ?_;rintro r z ⟨rfl,rfl⟩))
  all_goals
   go_wp2;go_returns;exact⟨rfl,1,rfl⟩
theorem ZdA (p:Nat) (b6:p=0\/p=1) (v:ax) (b7:v.length<=1099511627776) (a8:∀c∈v,cd c<4) (b0:Bk w q 3 #[p]):
  Calls prog 134 #[bs v,.func (.func 135) #[] #[(q,0)]] w (bM w (bs (v.map (lz p)))):=by
 have y:=run_bytes_of_string (P:=prog) w 9 88 5 (bs v) underlying9 underlying88 underlying5;have a2:(bs v).size=v:=Z0 v;have d:=na.new w.drew 5 (bs v) (grownCap w (bs v).size 0 5) ((bytesRow (bs v) (grownCap w (bs v).size 0 5)).size,(bytesRow (bs v) (grownCap w (bs v).size 0 5)).size+1) (by unfold bytesRow;simp);have F:=J (((bf w w).drew).alloc aU (.cells (bytesRow (bs v) (grownCap w (bs v).size 0 5)) 5 ((bytesRow (bs v) (grownCap w (bs v).size 0 5)).size,(bytesRow (bs v) (grownCap w (bs v).size 0 5)).size+1)));have a6:(bs v).data.toList=v:=rfl;rw[a6] at d;obtain⟨E,b8,a0,b2⟩:=dc (show na _ w 5 v from d) (λc W g b5=>Zna p b6 c g (w:=W) (q:=q) b5) b0 a8;clear b0 a8;obtain⟨n,z⟩:=ay v.length;obtain⟨cap,t⟩:=ay (grownCap w (bs v).size 0 5);rw[t] at y F E;have c6:n<=cap:=PI;generalize w.drew.alloc (.cells (bytesRow (bs v) cap) 5 ((bytesRow (bs v) cap).size,(bytesRow (bs v) cap).size+1))=W0 at*;rw[a2,z] at y;rw[z] at b7;have I:=J z;obtain⟨S,a9⟩:=ay (bs v);rw[a9] at y⊢;clear a2 d a6 t z a9;go_in;go_wp2;go_loopw [12] (λQ wr=>∃i:Nat,i<=n/\Q=i/\Hid (na wr w 5 ((v.take i).map (lz p)++v.drop i))/\Hid (Below w w wr)) (λQ _=>(n-intOf Q).toNat);exact⟨0,cf _,rfl,E,F⟩;clear E F y;obtain⟨i,hi,rfl,d,hb⟩:=hrel;by_cases ab:i<n;.have G:i<v:=xh;have B:v.take (i+1)=v.take i++[v[i]]:=dK G;have l:v.drop i=v[i]::v.drop (i+1):=kw G;have k:((v.take i).map (lz p)).length=i:=CB;obtain⟨c,g⟩:=ay v[i];rw[g] at B l;have R:i<((v.take i).map (lz p)++v.drop i).length:=(by rw[bV,k,iW];omega);obtain⟨h1,c5⟩:=d.o.cell i R;have b1:((v.take i).map (lz p)++v.drop i)[i]=c:=PB;rw[b1] at h1;have b9:wr.cell? (w,i)=some (.int .u8 (c.toNat:Int)):=h1;have a4:((v.take i).map (lz p)++v.drop i).set i (lz p c)=(v.take (i+1)).map (lz p)++v.drop (i+1):=Pu;have a1:Hid (∀m,na ((wr.drewN m).setCell (w,i) (bv (lz p c))) w 5 ((v.take (i+1)).map (lz p)++v.drop (i+1))):=J (λm=>by rw[<-a4];exact na.put (w:=wr.drewN m) d.o i R (lz p c));have b3:=J (b8.o c wr (b2.o c (by rw[<-g];exact dt _)) (a0.o.below hb.o a0.o.lt));have a7:Hid (∀m,Below w w ((wr.drewN m).setCell (w,i) (bv (lz p c)))):=J (λm=>Below.setCell (p:=⟨w,i,none⟩) (show Below w w (wr.drewN m) from⟨hb.o.os,hb.o.tape,hb.o.output,hb.o.size,hb.o.block⟩) aU (bv (lz p c)));have c4:(i:Int)<n:=O;have c7:(0:Int)<=i:=O;clear G B l k g R h1 b1 a4 d hb;unfold bv at a1 a7;go_wp21;refine aP b3.o ?_;rintro w1 ⟨m,rfl⟩;go_wp2;refine⟨⟨i+1,ab,ci,J (a1.o m),J (a7.o m)⟩,?_⟩;simp[intOf]<;>omega
 have b4:i=n:=O;subst b4;have B:v.take i=v:=d' og;have l:v.drop i=[]:=oc og;have u:=d.o;rw[B,l,fg] at u;have k:(v.map (lz p))=i:=(by rw[c',I.o]);have L:=run_convert_bytes_back (P:=prog) wr 88 9 5 ⟨w,0,none⟩ cap (v.map (lz p)) underlying88 underlying5 underlying9 (λj D=>P3);rw[k] at L;have a3:(⟨(v.map (lz p)).toArray⟩:aT)=bs (v.map (lz p)):=rfl;rw[a3] at L;obtain⟨c3,M⟩:=ay (bs (v.map (lz p)));rw[M] at L;have a5:=J M;clear B l u k d a3 M;exact Al
theorem o_ (p:Nat) (t:p=0\/p=1) (v:ax) (j:v.length<=1099511627776) (g:∀c∈v,cd c<4) (d:Bk w q 9 #[bs v]):
  Calls prog 133 #[p,(q,0)] w (bM w (bs (v.map (lz p)))):=by have l:=J (ZdA p t v j g (Bk.new w 3 #[p]));have k:=J ((bf w w).alloc aU (.cells #[p] 3));have c0:w.cell? (q,0)=(bs v):=d.cell 0;have c1:=J (d.alloc (.cells #[p] 3));have c2:(w.alloc (.cells #[p] 3)).cell? (q,0)=(bs v):=c1.o.cell 0;clear d j g;generalize bs (v.map (lz p))=R at*;generalize bs v=S at*;go_in;go_wp21;refine ij l.o k λw1 y=>?_;exact EQ
theorem ZbP (v:ax) (d:v.length<=1099511627776) (w:aq):
  Calls prog 92 #[bs v] w (bM w (.tuple #[bs (if fs v=true then(kA v).map dA else[]),bs (if fs v=true then(kz v).map dA else[])])):=by
 obtain⟨g,k,j⟩:=bD (λW=>xz v d W) (Bk.new w 9 #[bs v]) ((bf w w).alloc aU (.cells #[bs v] 9));cases hi:fs v;.rw[hi] at g;simp only[Bool.false_eq_true,if_false];rw[show bs ([]:ax)=⟨#[]⟩ from rfl];clear hi k d;generalize bs v=S at*;go_in;go_wp21;refine ij (g.o _) j λw1 y=>?_;exact EQ
 rw[hi] at g;simp only[if_true];have p:∀c∈v,cd c<4:=(Zp.1 hi).1;have t:=J (λW (q:Bk W w 9 #[bs v])=>o_ 0 (.inl rfl) v d p q);have u:=J (λW (q:Bk W w 9 #[bs v])=>o_ 1 (.inr rfl) v d p q);rw[pch0] at t;rw[pch1] at u;clear hi d p;generalize bs ((kA v).map dA)=R0 at*;generalize bs ((kz v).map dA)=R1 at*;generalize bs v=S at*;go_in;go_wp21;refine aP (g.o _) λw1 l=>?_;have ff:=J (k.o.below l k.o.lt);have y:=J (j.o.trans (l.mono j.o.size));clear l;go_wp21;refine aP (t.o _ ff.o) λD aa=>?_;have gk:=J (ff.o.below aa ff.o.lt);have z:=J (y.o.trans (aa.mono y.o.size));clear aa;go_wp21;refine ij (u.o _ gk.o) z λE B=>?_;go_wp2;go_returns;exact⟨rfl,B.o⟩
end Go.Proofs.Y
namespace Wv
open Go.Proofs.Tryz Go Go.RowKit
theorem ZoH (b:Bool):cd (dA b)=b.toNat:=by cases b<;>decide
theorem ZlN (b:Bool):nP (dA b)=true:=by cases b<;>decide
theorem Ow {A:List Bool} (h:A.length<=128):jM (A.map dA)= !A.isEmpty:=by
 unfold jM fs;have h1:(A.map dA).all nP=true:=(by rw[List.all_map,uI];exact λb _=>ZlN b);have d:(A.map dA).all (λc=>decide (cd c<2))=true:=by rw[List.all_map,uI];intro b _;show decide (cd (dA b)<2)=true;rw[ZoH];cases b<;>decide
 rw[h1,d,c',dd h];cases A<;>rfl
theorem Zhc (x y:Bool):x.toNat+2*y.toNat<4:=by cases x<;>cases y<;>decide
def wk (A B:List Bool):ax×Nat:=if A=[]\/B=[] then([],1) else if A.length≠B then([],8) else(lH A B,0)
def mA (a b:List Bool) (i:Nat):ax:=lH (a.take i) (b.take i)++List.replicate (a.length-i) 0
theorem Zpo (a b:List Bool) (d:a=b.length) (i:Nat) (hi:i<=a):(mA a b i)=a.length:=by unfold mA lH;rw[bV,Ah,ek,ek,iE];omega
theorem Zpp (a b:List Bool) (j:a=b.length) (i:Nat) (d:i<a) (hb:i<b):(mA a b i).set i (ch (a[i].toNat+2*b[i].toNat))=mA a b (i+1):=by
 have g:(lH (a.take i) (b.take i))=i:=by unfold lH;rw[Ah,ek,ek];omega
 unfold mA;rw[nj _ _ O,g,fh];unfold lH
 rw[dK d,dK hb,
  List.zipWith_append (by rw[ek,ek];omega),show a.length-i=(a.length-(i+1))+1 by omega,pP,List.set_cons_zero];simp
end Wv
namespace Go.Proofs.Y
open Tryz Wv Go.RowKit
theorem Ze5 (A B : List Bool) (d5 : A.length <= 128) (d6 : B.length <= 128) (w : aq) :
    Calls prog 97 #[bs (A.map dA),bs (B.map dA)] w (bM w (.tuple #[bs (wk A B).1,((wk A B).2:Int)])):=by
  have Ha:=J (Bj (A.map dA) (by rw[c'];omega) w);have q:=J (λW=>Bj (B.map dA) (by rw[c'];omega) W);rw[Ow d5] at Ha;rw[Ow d6] at q;have k:(bs (A.map dA)).size=A:=(by rw[Z0,c']);have l:(bs (B.map dA)).size=B:=(by rw[Z0,c']);have u:bs ([]:ax)=⟨#[]⟩:=rfl;unfold wk;by_cases h1:A=[];rw[Vag (.inl h1)];rw[show(!A.isEmpty)=false by rw[h1];rfl] at Ha;simp only[u];clear k l u h1;generalize bs (A.map dA)=g at*;generalize bs (B.map dA)=y at*;exact Ff
  have Q : A.isEmpty = false := by cases A with
    |nil=>exact absurd rfl h1
    |cons _ _=>rfl
  rw[Q] at Ha;by_cases L:B=[];rw[Vag (.inr L)];rw[show(!B.isEmpty)=false by rw[L];rfl] at q;simp only[u];clear k l u h1 L Q;exact Nv
  have c5 : B.isEmpty = false := by cases B with
    |nil=>exact absurd rfl L
    |cons _ _=>rfl
  rw[c5] at q;rw[aD (λh=>h.elim h1 L)];by_cases t:A=B.length
  . rw[aD (by simp[t])];simp only;have b1:(((bs (A.map dA)).size:Int) !=((bs (B.map dA)).size:Int))=false:=Fa;have a9:Hid (∀(i:Nat) (h:i<A.length) (L:i<(bs (A.map dA)).size),(bs (A.map dA))[i]'L=dA (A[i]'h)):=J (λi h L=>Jk);have b0:Hid (∀(i:Nat) (h:i<B.length) (L:i<(bs (B.map dA)).size),(bs (B.map dA))[i]'L=dA (B[i]'h)):=J (λi h L=>Jk);obtain⟨n,F⟩:=ay A.length;have c4:B=n:=O;have b6:=λW=>Y5 (P:=prog) 88 5 (.int .u8 0) 1 underlying88 dw rfl ((bs (A.map dA)).size:Int) n (by rw[k,F]) O O W;have d2:(Array.replicate n (.int .u8 0:aI))=((mA A B 0).map bv).toArray:=by unfold mA lH;exact PS
    obtain⟨a2,a1,b2⟩:=bD d2 (λi (hi:i<=n)=>(show(mA A B i).length=n by rw[Zpo A B t i O,F])) (λi (h1:i<A.length) (L:i<B.length)=>Zpp A B t i h1 L);have a7:Hid (mA A B n=lH A B):=J (by unfold mA;exact Pr);have I:=J F;have e8:=J c4;rw[F] at k;rw[c4] at l;obtain⟨g,e2⟩:=ay (bs (A.map dA));obtain⟨y,e3⟩:=ay (bs (B.map dA));rw[e2] at k b1 b6 a9 Ha⊢;rw[e3] at l b1 b0 q⊢;have a3:n<=128:=O;have f5:=J k;have e7:=J l;clear d2 F c4 e2 e3 k l u t h1 L Q c5 d5 d6;go_in;go_wp21;refine aP Ha.o λw1 z=>?_;go_wp21;refine aP (q.o _) λw2 aa=>?_;have a6:=z.trans (aa.mono z.size);have e1:=b6 w2;have b5:=Bk.new w2 5 (Array.replicate n (.int .u8 0));rw[a2.o] at b5;have R:=J b5;have a4:=J (a6.alloc a6.size (.cells (Array.replicate n (.int .u8 0)) 5));have d7:=a6.size;obtain⟨G,c8⟩:=ay w2.heap.size;rw[c8] at e1 d7 R;rw[<-a2.o] at R;generalize w2.alloc (.cells (Array.replicate n (.int .u8 0)) 5)=W0 at*;clear b6 Ha q z aa a6 b5 c8;rw[a2.o] at R;go_wp2;go_loopw [26] (λc6 wr=>∃i:Nat,i<=n/\c6=(i:Int)/\Hid (Bk wr G 5 ((mA A B i).map bv).toArray)/\Hid (Below w w wr)) (λc6 _=>(n-intOf c6).toNat);exact Cq;clear R a4 e1 a2;obtain⟨i,hi,rfl,M,hb⟩:=hrel;by_cases ab:i<n
    . have c3:i<A.length:=xh;have b9:i<B.length:=(by rw[e8.o];exact ab);have d9:=a9.o i c3;have d3:=b0.o i b9;have d8:=b2.o i c3 b9;have a8:=a1.o i hi;have b4:=M.o.put i (bv (ch (A[i].toNat+2*B[i].toNat)));rw[List.setIfInBounds_toArray,<-List.map_set,d8] at b4;have b3:=M.o.cell i;rw[mF,jX,fb O] at b3;have f3:=M.o.frozen i;obtain⟨g0,d⟩:∃o,(Option.map bv (some (mA A B i)[i]))=some o:=⟨_,rfl⟩;rw[d] at b3;have a0:=J b4;have S:=J (hb.o.setCell (p:=⟨G,i,none⟩) d7 (bv (ch (A[i].toNat+2*B[i].toNat))));unfold bv at a0 S;have e4:∀h:i<g.size,((g[i]'h).toNat:Int)=((dA A[i]).toNat:Int):=λh=>(by rw[d9 h]);have e5:∀h:i<y.size,((y[i]'h).toNat:Int)=((dA B[i]).toNat:Int):=λh=>(by rw[d3 h]);have f4:i<g.size:=(by rw[f5.o];omega);have e6:i<y.size:=(by rw[e7.o];omega);have c7:=e4 f4;have d1:=e5 e6;have c9:=J (λW=>KB (A[i].toNat+2*B[i].toNat) (Zhc A[i] B[i]) W);clear b4 d8 a8 d d9 d3 M hb e4 e5;have g1:(0:Int)<=i:=O;have f9:(i:Int)<n:=O;have f6:(i:Int)<g.size:=O;have f7:(i:Int)<y.size:=O;generalize A[i]=X at*;generalize B[i]=Y at*;clear c3 b9 b2 a1 a7 a9 b0;cases X<;>cases Y
      all_goals
        (try rw[show((dA false).toNat:Int)=48 from rfl] at c7);(try rw[show((dA true).toNat:Int)=49 from rfl] at c7);(try rw[show((dA false).toNat:Int)=48 from rfl] at d1);(try rw[show((dA true).toNat:Int)=49 from rfl] at d1);go_wp2;go_region_with ((go_at_call 137;refine(c9.o _).mono ?_;rintro r g2 ⟨rfl,rfl⟩))
        all_goals
          clear b3 f3 c9;go_wp2;go_roundw;exact OQ;simp[intOf]<;>omega
    have f2:i=n:=O;subst f2;have E:=M.o;rw[a7.o] at E;have a8:(lH A B).length=i:=(by rw[<-a7.o];exact a1.o i aU);have b7:=run_convert_bytes_back (P:=prog) wr 88 9 5 ⟨G,0,none⟩ i (lH A B) underlying88 underlying5 underlying9 (λj D=>I1);rw[a8] at b7;have d4:(⟨(lH A B).toArray⟩:aT)=bs (lH A B):=rfl;rw[d4] at b7;obtain⟨f8,b8⟩:=ay (bs (lH A B));rw[b8] at b7;have a5:=J b8;clear E a8 d4 b8 M b2 a1 a7 a9 b0;exact Al
  rw[Vag t];have b1:(((bs (A.map dA)).size:Int) !=((bs (B.map dA)).size:Int))=true:=(by rw[k,l,kx];omega);simp only[u];clear k l u t h1 L Q c5;exact Nv
