import Derived.Test.YtikecoijpkmnbaaGreatDoorJ14
set_option linter.all false
set_option maxRecDepth 100000
set_option maxHeartbeats 0
theorem EQ{P:Prop}(h:P:=by go_wp2;go_returns;exact⟨rfl,y.o⟩):P:=h
theorem Jk{P:Prop}(h:P:=by rw[XQ _ i (by rw[Vah];exact h) h2,uF]):P:=h
theorem Nv{P:Prop}(h:P:=by generalize bs (A.map chB)=g at*;generalize bs (B.map chB)=y at*;go_in;go_wp21;refine aP Ha.o λw1 E=>?_;go_wp21;refine aP (q.o _) λw2 aa=>?_;have a3:=J (E.trans (aa.mono E.size));clear aa E;go_wp2;go_returns;exact⟨rfl,a3.o⟩):P:=h
namespace Wv
open Go.Proofs.Tryz Go Go.RowKit
def chB (b:Bool):cj:=if b then 49 else 48
def lz (p:Nat) (c:cj):cj:=chB (if p=0 then decide (cd c % 2=1) else decide (2<=cd c))
theorem pch0 (v:ax):v.map (lz 0)=(kA v).map chB:=by unfold kA;rw[qx];rfl
theorem pch1 (v:ax):v.map (lz 1)=(kz v).map chB:=by unfold kz;rw[qx];rfl
end Wv
namespace Go.Proofs.Y
open Tryz Wv Go.RowKit
variable{q:Nat}{w:aq}
theorem Zna (p:Nat) (B:p=0\/p=1) (c:cj) (u:cd c<4) (y:Bk w q 3 #[p]):
  Calls prog 108 #[.int .u8 (c.toNat:Int),(q,0)] w λx w'=>x=.returned (.int .u8 ((lz p c).toNat:Int))/\∃n,w'=w.drewN n:=by
 have g:=J (λW=>Qc c W);have c0:w.cell? (q,0)=p:=y.cell 0;have l:pC c=(cd c:Int):=(by unfold pC;rw[Vag u]);have t:lz p c=chB (if p=0 then decide (cd c % 2=1) else decide (2<=cd c)):=rfl;clear y;rw[l] at g;rw[t];clear l t;generalize cd c=k at*;generalize (c.toNat:Int)=C at*;have z:k=0\/k=1\/k=2\/k=3:=O;clear u;rcases B with rfl|rfl<;>rcases z with rfl|rfl|rfl|rfl
 all_goals
  go_in;go_wp2;go_region_with ((go_at_call 98;with_reducible refine(g.o _).mono ?_;rintro r D ⟨rfl,rfl⟩))
  all_goals
   go_wp2;go_returns;exact⟨rfl,1,rfl⟩
theorem ZdA (p:Nat) (b8:p=0\/p=1) (v:ax) (b9:v.length<=1099511627776) (b0:∀c∈v,cd c<4) (b2:Bk w q 3 #[p]):
  Calls prog 107 #[bs v,.func (.func 108) #[] #[(q,0)]] w (bM w (bs (v.map (lz p)))):=by
 have z:=run_bytes_of_string (P:=prog) w 9 110 5 (bs v) underlying9 underlying110 underlying5;have a4:(bs v).size=v:=Z0 v;have y:=na.new w.drew 5 (bs v) (grownCap w (bs v).size 0 5) ((bytesRow (bs v) (grownCap w (bs v).size 0 5)).size,(bytesRow (bs v) (grownCap w (bs v).size 0 5)).size+1) (by unfold bytesRow;simp);have F:=J (((bf w w).drew).alloc aU (.cells (bytesRow (bs v) (grownCap w (bs v).size 0 5)) 5 ((bytesRow (bs v) (grownCap w (bs v).size 0 5)).size,(bytesRow (bs v) (grownCap w (bs v).size 0 5)).size+1)));have a8:(bs v).data.toList=v:=rfl;rw[a8] at y;obtain⟨E,c3,a2,b4⟩:=dc (show na _ w 5 v from y) (λc W g b7=>Zna p b8 c g (w:=W) (q:=q) b7) b2 b0;clear b2 b0;obtain⟨n,B⟩:=ay v.length;obtain⟨cap,t⟩:=ay (grownCap w (bs v).size 0 5);rw[t] at z F E;have c8:n<=cap:=PI;generalize w.drew.alloc (.cells (bytesRow (bs v) cap) 5 ((bytesRow (bs v) cap).size,(bytesRow (bs v) cap).size+1))=W0 at*;rw[a4,B] at z;rw[B] at b9;have a0:=J B;obtain⟨S,b1⟩:=ay (bs v);rw[b1] at z⊢;clear a4 y a8 t B b1;go_in;go_wp2;go_loopw [12] (λR wr=>∃i:Nat,i<=n/\R=i/\Hid (na wr w 5 ((v.take i).map (lz p)++v.drop i))/\Hid (Below w w wr)) (λR _=>(n-intOf R).toNat);exact⟨0,cf _,rfl,E,F⟩;clear E F z;obtain⟨i,hi,rfl,y,hb⟩:=hrel;by_cases ab:i<n;.have I:i<v:=xh;have G:v.take (i+1)=v.take i++[v[i]]:=dK I;have k:v.drop i=v[i]::v.drop (i+1):=kw I;have l:((v.take i).map (lz p)).length=i:=CB;obtain⟨c,g⟩:=ay v[i];rw[g] at G k;have a1:i<((v.take i).map (lz p)++v.drop i).length:=(by rw[Vab,l,iW];omega);obtain⟨h1,c7⟩:=y.o.cell i a1;have b3:((v.take i).map (lz p)++v.drop i)[i]=c:=PB;rw[b3] at h1;have c4:wr.cell? (w,i)=some (.int .u8 (c.toNat:Int)):=h1;have a7:((v.take i).map (lz p)++v.drop i).set i (lz p c)=(v.take (i+1)).map (lz p)++v.drop (i+1):=Pu;have a3:Hid (∀m,na ((wr.drewN m).setCell (w,i) (bv (lz p c))) w 5 ((v.take (i+1)).map (lz p)++v.drop (i+1))):=J (λm=>by rw[<-a7];exact na.put (w:=wr.drewN m) y.o i a1 (lz p c));have b5:=J (c3.o c wr (b4.o c (by rw[<-g];exact dt _)) (a2.o.below hb.o a2.o.lt));have a9:Hid (∀m,Below w w ((wr.drewN m).setCell (w,i) (bv (lz p c)))):=J (λm=>Below.setCell (p:=⟨w,i,none⟩) (show Below w w (wr.drewN m) from⟨hb.o.os,hb.o.tape,hb.o.output,hb.o.size,hb.o.block⟩) aU (bv (lz p c)));have c6:(i:Int)<n:=O;have c9:(0:Int)<=i:=O;clear I G k l g a1 h1 b3 a7 y hb;unfold bv at a3 a9;go_wp21;refine aP b5.o ?_;rintro w1 ⟨m,rfl⟩;go_wp2;refine⟨⟨i+1,ab,ci,J (a3.o m),J (a9.o m)⟩,?_⟩;simp[intOf]<;>omega
 have b6:i=n:=O;subst b6;have G:v.take i=v:=d' og;have k:v.drop i=[]:=oc og;have u:=y.o;rw[G,k,fg] at u;have l:(v.map (lz p))=i:=(by rw[Vah,a0.o]);have M:=run_convert_bytes_back (P:=prog) wr 110 9 5 ⟨w,0,none⟩ cap (v.map (lz p)) underlying110 underlying5 underlying9 (λj D=>P3);rw[l] at M;have a5:(⟨(v.map (lz p)).toArray⟩:aT)=bs (v.map (lz p)):=rfl;rw[a5] at M;obtain⟨c5,Q⟩:=ay (bs (v.map (lz p)));rw[Q] at M;have a6:=J Q;clear G k u l y a5 Q;exact Al
theorem o_ (p:Nat) (z:p=0\/p=1) (v:ax) (l:v.length<=1099511627776) (k:∀c∈v,cd c<4) (g:Bk w q 9 #[bs v]):
  Calls prog 106 #[p,(q,0)] w (bM w (bs (v.map (lz p)))):=by have u:=J (ZdA p z v l k (Bk.new w 3 #[p]));have t:=J ((bf w w).alloc aU (.cells #[p] 3));have c0:w.cell? (q,0)=(bs v):=g.cell 0;have c1:=J (g.alloc (.cells #[p] 3));have c2:(w.alloc (.cells #[p] 3)).cell? (q,0)=(bs v):=c1.o.cell 0;clear g l k;generalize bs (v.map (lz p))=R at*;generalize bs v=S at*;go_in;go_wp21;refine ij u.o t λw1 y=>?_;exact EQ
theorem ZbP (v:ax) (g:v.length<=1099511627776) (w:aq):
  Calls prog 67 #[bs v] w (bM w (.tuple #[bs (if isV v=true then(kA v).map chB else[]),bs (if isV v=true then(kz v).map chB else[])])):=by
 obtain⟨k,p,l⟩:=bD (λW=>xz v g W) (Bk.new w 9 #[bs v]) ((bf w w).alloc aU (.cells #[bs v] 9));cases hi:isV v;.rw[hi] at k;simp only[Bool.false_eq_true,if_false];rw[show bs ([]:ax)=⟨#[]⟩ from rfl];clear hi p g;generalize bs v=S at*;go_in;go_wp21;refine ij (k.o _) l λw1 y=>?_;exact EQ
 rw[hi] at k;simp only[if_true];have t:∀c∈v,cd c<4:=(Zp.1 hi).1;have z:=J (λW (u:Bk W w 9 #[bs v])=>o_ 0 (.inl rfl) v g t u);have B:=J (λW (u:Bk W w 9 #[bs v])=>o_ 1 (.inr rfl) v g t u);rw[pch0] at z;rw[pch1] at B;clear hi g t;generalize bs ((kA v).map chB)=R0 at*;generalize bs ((kz v).map chB)=R1 at*;generalize bs v=S at*;go_in;go_wp21;refine aP (k.o _) λw1 q=>?_;have ff:=J (p.o.below q p.o.lt);have y:=J (l.o.trans (q.mono l.o.size));clear q;go_wp21;refine aP (z.o _ ff.o) λF aa=>?_;have gk:=J (ff.o.below aa ff.o.lt);have D:=J (y.o.trans (aa.mono y.o.size));clear aa;go_wp21;refine ij (B.o _ gk.o) D λG E=>?_;go_wp2;go_returns;exact⟨rfl,E.o⟩
end Go.Proofs.Y
namespace Wv
open Go.Proofs.Tryz Go Go.RowKit
theorem ZoH (b:Bool):cd (chB b)=b.toNat:=by cases b<;>decide
theorem ZlN (b:Bool):nP (chB b)=true:=by cases b<;>decide
theorem ZkU {A:List Bool} (h:A.length<=128):jM (A.map chB)= !A.isEmpty:=by
 unfold jM isV;have h1:(A.map chB).all nP=true:=(by rw[List.all_map,uI];exact λb _=>ZlN b);have g:(A.map chB).all (λc=>decide (cd c<2))=true:=by rw[List.all_map,uI];intro b _;show decide (cd (chB b)<2)=true;rw[ZoH];cases b<;>decide
 rw[h1,g,Vah,dd h];cases A<;>rfl
theorem Zhc (x y:Bool):x.toNat+2*y.toNat<4:=by cases x<;>cases y<;>decide
def wk (A B:List Bool):ax×Nat:=if A=[]\/B=[] then([],1) else if A.length≠B then([],8) else(lH A B,0)
def mA (a b:List Bool) (i:Nat):ax:=lH (a.take i) (b.take i)++List.replicate (a.length-i) 0
theorem Zpo (a b:List Bool) (g:a=b.length) (i:Nat) (hi:i<=a):(mA a b i)=a.length:=by unfold mA lH;rw[Vab,Ah,ek,ek,iE];omega
theorem Zpp (a b:List Bool) (l:a=b.length) (i:Nat) (g:i<a) (hb:i<b):(mA a b i).set i (ch (a[i].toNat+2*b[i].toNat))=mA a b (i+1):=by
 have k:(lH (a.take i) (b.take i))=i:=by unfold lH;rw[Ah,ek,ek];omega
 unfold mA;rw[nj _ _ O,k,fh];unfold lH
 rw[dK g,dK hb,
  List.zipWith_append (by rw[ek,ek];omega),show a.length-i=(a.length-(i+1))+1 by omega,pP,List.set_cons_zero];simp
end Wv
namespace Go.Proofs.Y
open Tryz Wv Go.RowKit
theorem Ze5 (A B : List Bool) (d6 : A.length <= 128) (d7 : B.length <= 128) (w : aq) :
    Calls prog 72 #[bs (A.map chB),bs (B.map chB)] w (bM w (.tuple #[bs (wk A B).1,((wk A B).2:Int)])):=by
  have Ha:=J (Bj (A.map chB) (by rw[Vah];omega) w);have q:=J (λW=>Bj (B.map chB) (by rw[Vah];omega) W);rw[ZkU d6] at Ha;rw[ZkU d7] at q;have k:(bs (A.map chB)).size=A:=(by rw[Z0,Vah]);have l:(bs (B.map chB)).size=B:=(by rw[Z0,Vah]);have z:bs ([]:ax)=⟨#[]⟩:=rfl;unfold wk;by_cases h1:A=[];rw[Vag (.inl h1)];rw[show(!A.isEmpty)=false by rw[h1];rfl] at Ha;simp only[z];clear k l z h1;generalize bs (A.map chB)=g at*;generalize bs (B.map chB)=y at*;exact Ff
  have Q : A.isEmpty = false := by cases A with
    |nil=>exact absurd rfl h1
    |cons _ _=>rfl
  rw[Q] at Ha;by_cases h2:B=[];rw[Vag (.inr h2)];rw[show(!B.isEmpty)=false by rw[h2];rfl] at q;simp only[z];clear k l z h1 h2 Q;exact Nv
  have c6 : B.isEmpty = false := by cases B with
    |nil=>exact absurd rfl h2
    |cons _ _=>rfl
  rw[c6] at q;rw[Vae (λh=>h.elim h1 h2)];by_cases t:A=B.length
  . rw[Vae (by simp[t])];simp only;have b2:(((bs (A.map chB)).size:Int) !=((bs (B.map chB)).size:Int))=false:=Fa;have b0:Hid (∀(i:Nat) (h:i<A.length) (h2:i<(bs (A.map chB)).size),(bs (A.map chB))[i]'h2=chB (A[i]'h)):=J (λi h h2=>Jk);have b1:Hid (∀(i:Nat) (h:i<B.length) (h2:i<(bs (B.map chB)).size),(bs (B.map chB))[i]'h2=chB (B[i]'h)):=J (λi h h2=>Jk);obtain⟨n,F⟩:=ay A.length;have c5:B=n:=O;have b7:=λW=>Y5 (P:=prog) 110 5 (.int .u8 0) 1 underlying110 dw rfl ((bs (A.map chB)).size:Int) n (by rw[k,F]) O O W;have d3:(Array.replicate n (.int .u8 0:aI))=((mA A B 0).map bv).toArray:=by unfold mA lH;exact PS
    obtain⟨a2,a1,b3⟩:=bD d3 (λi (hi:i<=n)=>(show(mA A B i).length=n by rw[Zpo A B t i O,F])) (λi (h1:i<A.length) (h2:i<B.length)=>Zpp A B t i h1 h2);have a8:Hid (mA A B n=lH A B):=J (by unfold mA;exact Pr);have a0:=J F;have f2:=J c5;rw[F] at k;rw[c5] at l;obtain⟨g,e3⟩:=ay (bs (A.map chB));obtain⟨y,e4⟩:=ay (bs (B.map chB));rw[e3] at k b2 b7 b0 Ha⊢;rw[e4] at l b2 b1 q⊢;have a3:n<=128:=O;have f6:=J k;have e8:=J l;clear d3 F c5 e3 e4 k l z t h1 h2 Q c6 d6 d7;go_in;go_wp21;refine aP Ha.o λw1 E=>?_;go_wp21;refine aP (q.o _) λw2 aa=>?_;have a7:=E.trans (aa.mono E.size);have e2:=b7 w2;have b6:=Bk.new w2 5 (Array.replicate n (.int .u8 0));rw[a2.o] at b6;have R:=J b6;have a5:=J (a7.alloc a7.size (.cells (Array.replicate n (.int .u8 0)) 5));have d8:=a7.size;obtain⟨G,c9⟩:=ay w2.heap.size;rw[c9] at e2 d8 R;rw[<-a2.o] at R;generalize w2.alloc (.cells (Array.replicate n (.int .u8 0)) 5)=W0 at*;clear b7 Ha q E aa a7 b6 c9;rw[a2.o] at R;go_wp2;go_loopw [26] (λc7 wr=>∃i:Nat,i<=n/\c7=(i:Int)/\Hid (Bk wr G 5 ((mA A B i).map bv).toArray)/\Hid (Below w w wr)) (λc7 _=>(n-intOf c7).toNat);exact Cq;clear R a5 e2 a2;obtain⟨i,hi,rfl,M,hb⟩:=hrel;by_cases ab:i<n
    . have c4:i<A.length:=xh;have c3:i<B.length:=(by rw[f2.o];exact ab);have e1:=b0.o i c4;have d4:=b1.o i c3;have d9:=b3.o i c4 c3;have a9:=a1.o i hi;have b5:=M.o.put i (bv (ch (A[i].toNat+2*B[i].toNat)));rw[List.setIfInBounds_toArray,<-List.map_set,d9] at b5;have b4:=M.o.cell i;rw[mF,jX,fb O] at b4;have f4:=M.o.frozen i;obtain⟨g1,u⟩:∃o,(Option.map bv (some (mA A B i)[i]))=some o:=⟨_,rfl⟩;rw[u] at b4;have a4:=J b5;have S:=J (hb.o.setCell (p:=⟨G,i,none⟩) d8 (bv (ch (A[i].toNat+2*B[i].toNat))));unfold bv at a4 S;have e5:∀h:i<g.size,((g[i]'h).toNat:Int)=((chB A[i]).toNat:Int):=λh=>(by rw[e1 h]);have e6:∀h:i<y.size,((y[i]'h).toNat:Int)=((chB B[i]).toNat:Int):=λh=>(by rw[d4 h]);have f5:i<g.size:=(by rw[f6.o];omega);have e7:i<y.size:=(by rw[e8.o];omega);have c8:=e5 f5;have d2:=e6 e7;have d1:=J (λW=>KB (A[i].toNat+2*B[i].toNat) (Zhc A[i] B[i]) W);clear b5 d9 a9 u e1 d4 M hb e5 e6;have g2:(0:Int)<=i:=O;have g0:(i:Int)<n:=O;have f7:(i:Int)<g.size:=O;have f8:(i:Int)<y.size:=O;generalize A[i]=X at*;generalize B[i]=Y at*;clear c4 c3 b3 a1 a8 b0 b1;cases X<;>cases Y
      all_goals
        (try rw[show((chB false).toNat:Int)=48 from rfl] at c8);(try rw[show((chB true).toNat:Int)=49 from rfl] at c8);(try rw[show((chB false).toNat:Int)=48 from rfl] at d2);(try rw[show((chB true).toNat:Int)=49 from rfl] at d2);go_wp2;go_region_with ((go_at_call 110;refine(d1.o _).mono ?_;rintro r g3 ⟨rfl,rfl⟩))
        all_goals
          clear b4 f4 d1;go_wp2;go_roundw;exact OQ;simp[intOf]<;>omega
    have f3:i=n:=O;subst f3;have I:=M.o;rw[a8.o] at I;have a9:(lH A B).length=i:=(by rw[<-a8.o];exact a1.o i aU);have b8:=run_convert_bytes_back (P:=prog) wr 110 9 5 ⟨G,0,none⟩ i (lH A B) underlying110 underlying5 underlying9 (λj D=>I1);rw[a9] at b8;have d5:(⟨(lH A B).toArray⟩:aT)=bs (lH A B):=rfl;rw[d5] at b8;obtain⟨f9,b9⟩:=ay (bs (lH A B));rw[b9] at b8;have a6:=J b9;clear I a9 d5 b9 M b3 a1 a8 b0 b1;exact Al
  rw[Vag t];have b2:(((bs (A.map chB)).size:Int) !=((bs (B.map chB)).size:Int))=true:=(by rw[k,l,kx];omega);simp only[z];clear k l z t h1 h2 Q c6;exact Nv
