import Derived.Test.YtnjkjoklnephcaaGreatDoorJ14
set_option linter.all false
set_option maxRecDepth 100000
set_option maxHeartbeats 0
theorem EY{P:Prop}(h:P:=by go_wp2;go_returns;exact⟨rfl,F.o⟩):P:=h
theorem I5{P:Prop}(h:P:=by rw[XV _ i (by rw[dc];exact h) h2,uL]):P:=h
theorem NE{P:Prop}(h:P:=by generalize bs (A.map du)=g at*;generalize bs (B.map du)=u at*;go_in;go_wp21;refine aO Ha.o λw1 z=>?_;go_wp21;refine aO (q.o _) λw2 aa=>?_;have a1:=J (z.trans (aa.mono z.size));clear aa z;go_wp2;go_returns;exact⟨rfl,a1.o⟩):P:=h
namespace Wv
open Go.Proofs.Tryz Go Go.RowKit
def du (b:Bool):ci:=if b then 49 else 48
def lB (p:Nat) (c:ci):ci:=du (if p=0 then decide (cd c % 2=1) else decide (2<=cd c))
theorem pch0 (v:ax):v.map (lB 0)=(ki v).map du:=by unfold ki;rw[qy];rfl
theorem pch1 (v:ax):v.map (lB 1)=(kh v).map du:=by unfold kh;rw[qy];rfl
end Wv
namespace Go.Proofs.Y
open Tryz Wv Go.RowKit
variable{q:Nat}{w:au}
theorem Zng (p:Nat) (B:p=0\/p=1) (c:ci) (u:cd c<4) (y:Bk w q 3 #[p]):
  Calls prog 135 #[.int .u8 (c.toNat:Int),(q,0)] w λx w'=>x=.returned (.int .u8 ((lB p c).toNat:Int))/\∃n,w'=w.drewN n:=by
 have g:=J (λW=>Qf c W);have c0:w.cell? (q,0)=p:=y.cell 0;have l:pH c=(cd c:Int):=(by unfold pH;rw[aP u]);have t:lB p c=du (if p=0 then decide (cd c % 2=1) else decide (2<=cd c)):=rfl;clear y;rw[l] at g;rw[t];clear l t;generalize cd c=k at*;generalize (c.toNat:Int)=C at*;have z:k=0\/k=1\/k=2\/k=3:=O;clear u;rcases B with rfl|rfl<;>rcases z with rfl|rfl|rfl|rfl
 all_goals
  go_in;go_wp2;go_region_with ((go_at_call 107;with_reducible refine(g.o _).mono ?_;rintro r D ⟨rfl,rfl⟩))
  all_goals
   go_wp2;go_returns;exact⟨rfl,1,rfl⟩
theorem ZdJ (p:Nat) (b8:p=0\/p=1) (v:ax) (b9:v.length<=1099511627776) (b0:∀c∈v,cd c<4) (b2:Bk w q 3 #[p]):
  Calls prog 134 #[bs v,.func (.func 135) #[] #[(q,0)]] w (bN w (bs (v.map (lB p)))):=by
 have B:=run_bytes_of_string (P:=prog) w 9 88 5 (bs v) underlying9 underlying88 underlying5;have a3:(bs v).size=v:=Z0 v;have z:=nt.new w.drew 5 (bs v) (grownCap w (bs v).size 0 5) ((bytesRow (bs v) (grownCap w (bs v).size 0 5)).size,(bytesRow (bs v) (grownCap w (bs v).size 0 5)).size+1) (by unfold bytesRow;simp);have F:=J (((bi w w).drew).alloc aW (.cells (bytesRow (bs v) (grownCap w (bs v).size 0 5)) 5 ((bytesRow (bs v) (grownCap w (bs v).size 0 5)).size,(bytesRow (bs v) (grownCap w (bs v).size 0 5)).size+1)));have a8:(bs v).data.toList=v:=rfl;rw[a8] at z;obtain⟨E,c3,a1,b4⟩:=dm (show nt _ w 5 v from z) (λc W g b7=>Zng p b8 c g (w:=W) (q:=q) b7) b2 b0;clear b2 b0;obtain⟨n,D⟩:=ay v.length;obtain⟨cap,t⟩:=ay (grownCap w (bs v).size 0 5);rw[t] at B F E;have c8:n<=cap:=Rj;generalize w.drew.alloc (.cells (bytesRow (bs v) cap) 5 ((bytesRow (bs v) cap).size,(bytesRow (bs v) cap).size+1))=W0 at*;rw[a3,D] at B;rw[D] at b9;have I:=J D;obtain⟨S,b1⟩:=ay (bs v);rw[b1] at B⊢;clear a3 z a8 t D b1;go_in;go_wp2;go_loopw [12] (λR wr=>∃i:Nat,i<=n/\R=i/\Hid (nt wr w 5 ((v.take i).map (lB p)++v.drop i))/\Hid (Below w w wr)) (λR _=>(n-intOf R).toNat);exact⟨0,cf _,rfl,E,F⟩;clear E F B;obtain⟨i,hi,rfl,z,hb⟩:=hrel;by_cases ab:i<n;.have G:i<v:=xi;have u:v.take (i+1)=v.take i++[v[i]]:=dD G;have l:v.drop i=v[i]::v.drop (i+1):=kw G;have k:((v.take i).map (lB p)).length=i:=Cv;obtain⟨c,g⟩:=ay v[i];rw[g] at u l;have a0:i<((v.take i).map (lB p)++v.drop i).length:=(by rw[bT,k,jt];omega);obtain⟨h1,c7⟩:=z.o.cell i a0;have b3:((v.take i).map (lB p)++v.drop i)[i]=c:=PO;rw[b3] at h1;have c4:wr.cell? (w,i)=some (.int .u8 (c.toNat:Int)):=h1;have a7:((v.take i).map (lB p)++v.drop i).set i (lB p c)=(v.take (i+1)).map (lB p)++v.drop (i+1):=PI;have a2:Hid (∀m,nt ((wr.drewN m).setCell (w,i) (bv (lB p c))) w 5 ((v.take (i+1)).map (lB p)++v.drop (i+1))):=J (λm=>by rw[<-a7];exact nt.put (w:=wr.drewN m) z.o i a0 (lB p c));have b5:=J (c3.o c wr (b4.o c (by rw[<-g];exact dr _)) (a1.o.below hb.o a1.o.lt));have a9:Hid (∀m,Below w w ((wr.drewN m).setCell (w,i) (bv (lB p c)))):=J (λm=>Below.setCell (p:=⟨w,i,none⟩) (show Below w w (wr.drewN m) from⟨hb.o.os,hb.o.tape,hb.o.output,hb.o.size,hb.o.block⟩) aW (bv (lB p c)));have c6:(i:Int)<n:=O;have c9:(0:Int)<=i:=O;clear G u l k g a0 h1 b3 a7 z hb;unfold bv at a2 a9;go_wp21;refine aO b5.o ?_;rintro w1 ⟨m,rfl⟩;go_wp2;refine⟨⟨i+1,ab,ck,J (a2.o m),J (a9.o m)⟩,?_⟩;simp[intOf]<;>omega
 have b6:i=n:=O;subst b6;have u:v.take i=v:=dU oh;have l:v.drop i=[]:=oe oh;have y:=z.o;rw[u,l,fu] at y;have k:(v.map (lB p))=i:=(by rw[dc,I.o]);have M:=run_convert_bytes_back (P:=prog) wr 88 9 5 ⟨w,0,none⟩ cap (v.map (lB p)) underlying88 underlying5 underlying9 (λj a4=>Rg);rw[k] at M;have a6:(⟨(v.map (lB p)).toArray⟩:aS)=bs (v.map (lB p)):=rfl;rw[a6] at M;obtain⟨c5,Q⟩:=ay (bs (v.map (lB p)));rw[Q] at M;have a5:=J Q;clear u l y k z a6 Q;exact Ap
theorem O_ (p:Nat) (y:p=0\/p=1) (v:ax) (l:v.length<=1099511627776) (k:∀c∈v,cd c<4) (g:Bk w q 9 #[bs v]):
  Calls prog 133 #[p,(q,0)] w (bN w (bs (v.map (lB p)))):=by have u:=J (ZdJ p y v l k (Bk.new w 3 #[p]));have t:=J ((bi w w).alloc aW (.cells #[p] 3));have c0:w.cell? (q,0)=(bs v):=g.cell 0;have c1:=J (g.alloc (.cells #[p] 3));have c2:(w.alloc (.cells #[p] 3)).cell? (q,0)=(bs v):=c1.o.cell 0;clear g l k;generalize bs (v.map (lB p))=R at*;generalize bs v=S at*;go_in;go_wp21;refine gO u.o t λw1 F=>?_;exact EY
theorem ZbY (v:ax) (g:v.length<=1099511627776) (w:au):
  Calls prog 92 #[bs v] w (bN w (.tuple #[bs (if fH v=true then(ki v).map du else[]),bs (if fH v=true then(kh v).map du else[])])):=by
 obtain⟨k,q,l⟩:=bF (λW=>xB v g W) (Bk.new w 9 #[bs v]) ((bi w w).alloc aW (.cells #[bs v] 9));cases hi:fH v;.rw[hi] at k;simp only[Bool.false_eq_true,if_false];rw[show bs ([]:ax)=⟨#[]⟩ from rfl];clear hi q g;generalize bs v=S at*;go_in;go_wp21;refine gO (k.o _) l λw1 F=>?_;exact EY
 rw[hi] at k;simp only[if_true];have u:∀c∈v,cd c<4:=(Zo.1 hi).1;have z:=J (λW (y:Bk W w 9 #[bs v])=>O_ 0 (.inl rfl) v g u y);have B:=J (λW (y:Bk W w 9 #[bs v])=>O_ 1 (.inr rfl) v g u y);rw[pch0] at z;rw[pch1] at B;clear hi g u;generalize bs ((ki v).map du)=R0 at*;generalize bs ((kh v).map du)=R1 at*;generalize bs v=S at*;go_in;go_wp21;refine aO (k.o _) λw1 p=>?_;have t:=J (q.o.below p q.o.lt);have F:=J (l.o.trans (p.mono l.o.size));clear p;go_wp21;refine aO (z.o _ t.o) λI aa=>?_;have G:=J (t.o.below aa t.o.lt);have D:=J (F.o.trans (aa.mono F.o.size));clear aa;go_wp21;refine gO (B.o _ G.o) D λM E=>?_;go_wp2;go_returns;exact⟨rfl,E.o⟩
end Go.Proofs.Y
namespace Wv
open Go.Proofs.Tryz Go Go.RowKit
theorem ZoQ (b:Bool):cd (du b)=b.toNat:=by cases b<;>decide
theorem ZlS (b:Bool):nV (du b)=true:=by cases b<;>decide
theorem Zl0 {A:List Bool} (h:A.length<=128):jR (A.map du)= !A.isEmpty:=by
 unfold jR fH;have h1:(A.map du).all nV=true:=(by rw[List.all_map,tS];exact λb _=>ZlS b);have g:(A.map du).all (λc=>decide (cd c<2))=true:=by rw[List.all_map,tS];intro b _;show decide (cd (du b)<2)=true;rw[ZoQ];cases b<;>decide
 rw[h1,g,dc,cT h];cases A<;>rfl
theorem Zhi (x y:Bool):x.toNat+2*y.toNat<4:=by cases x<;>cases y<;>decide
def wv (A B:List Bool):ax×Nat:=if A=[]\/B=[] then([],1) else if A.length≠B then([],8) else(lJ A B,0)
def mA (a b:List Bool) (i:Nat):ax:=lJ (a.take i) (b.take i)++List.replicate (a.length-i) 0
theorem Zpy (a b:List Bool) (g:a=b.length) (i:Nat) (hi:i<=a):(mA a b i)=a.length:=by unfold mA lJ;rw[bT,Ak,eC,eC,iK];omega
theorem Zpz (a b:List Bool) (l:a=b.length) (i:Nat) (g:i<a) (hb:i<b):(mA a b i).set i (ch (a[i].toNat+2*b[i].toNat))=mA a b (i+1):=by
 have k:(lJ (a.take i) (b.take i))=i:=by unfold lJ;rw[Ak,eC,eC];omega
 unfold mA;rw[nz _ _ O,k,fv];unfold lJ
 rw[dD g,dD hb,
  List.zipWith_append (by rw[eC,eC];omega),show a.length-i=(a.length-(i+1))+1 by omega,pS,List.set_cons_zero];simp
end Wv
namespace Go.Proofs.Y
open Tryz Wv Go.RowKit
theorem Zee (A B : List Bool) (d7 : A.length <= 128) (d8 : B.length <= 128) (w : au) :
    Calls prog 97 #[bs (A.map du),bs (B.map du)] w (bN w (.tuple #[bs (wv A B).1,((wv A B).2:Int)])):=by
  have Ha:=J (Bu (A.map du) (by rw[dc];omega) w);have q:=J (λW=>Bu (B.map du) (by rw[dc];omega) W);rw[Zl0 d7] at Ha;rw[Zl0 d8] at q;have k:(bs (A.map du)).size=A:=(by rw[Z0,dc]);have l:(bs (B.map du)).size=B:=(by rw[Z0,dc]);have M:bs ([]:ax)=⟨#[]⟩:=rfl;unfold wv;by_cases h1:A=[];rw[aP (.inl h1)];rw[show(!A.isEmpty)=false by rw[h1];rfl] at Ha;simp only[M];clear k l M h1;generalize bs (A.map du)=g at*;generalize bs (B.map du)=u at*;exact P4
  have a2 : A.isEmpty = false := by cases A with
    |nil=>exact absurd rfl h1
    |cons _ _=>rfl
  rw[a2] at Ha;by_cases h2:B=[];rw[aP (.inr h2)];rw[show(!B.isEmpty)=false by rw[h2];rfl] at q;simp only[M];clear k l M h1 h2 a2;exact NE
  have c7 : B.isEmpty = false := by cases B with
    |nil=>exact absurd rfl h2
    |cons _ _=>rfl
  rw[c7] at q;rw[az (λh=>h.elim h1 h2)];by_cases t:A=B.length
  . rw[az (by simp[t])];simp only;have b3:(((bs (A.map du)).size:Int) !=((bs (B.map du)).size:Int))=false:=Ff;have b1:Hid (∀(i:Nat) (h:i<A.length) (h2:i<(bs (A.map du)).size),(bs (A.map du))[i]'h2=du (A[i]'h)):=J (λi h h2=>I5);have b2:Hid (∀(i:Nat) (h:i<B.length) (h2:i<(bs (B.map du)).size),(bs (B.map du))[i]'h2=du (B[i]'h)):=J (λi h h2=>I5);obtain⟨n,F⟩:=ay A.length;have c6:B=n:=O;have b8:=λW=>Y4 (P:=prog) 88 5 (.int .u8 0) 1 underlying88 dE rfl ((bs (A.map du)).size:Int) n (by rw[k,F]) O O W;have d4:(Array.replicate n (.int .u8 0:aJ))=((mA A B 0).map bv).toArray:=by unfold mA lJ;exact P5
    obtain⟨a7,a6,b4⟩:=bF d4 (λi (hi:i<=n)=>(show(mA A B i).length=n by rw[Zpy A B t i O,F])) (λi (h1:i<A.length) (h2:i<B.length)=>Zpz A B t i h1 h2);have a8:Hid (mA A B n=lJ A B):=J (by unfold mA;exact PG);have I:=J F;have e8:=J c6;rw[F] at k;rw[c6] at l;obtain⟨g,e3⟩:=ay (bs (A.map du));obtain⟨u,e4⟩:=ay (bs (B.map du));rw[e3] at k b3 b8 b1 Ha⊢;rw[e4] at l b3 b2 q⊢;have a3:n<=128:=O;have f5:=J k;have e9:=J l;clear d4 F c6 e3 e4 k l M t h1 h2 a2 c7 d7 d8;go_in;go_wp21;refine aO Ha.o λw1 z=>?_;go_wp21;refine aO (q.o _) λw2 aa=>?_;have a9:=z.trans (aa.mono z.size);have nf:=b8 w2;have b7:=Bk.new w2 5 (Array.replicate n (.int .u8 0));rw[a7.o] at b7;have E:=J b7;have R:=J (a9.alloc a9.size (.cells (Array.replicate n (.int .u8 0)) 5));have d9:=a9.size;obtain⟨G,d1⟩:=ay w2.heap.size;rw[d1] at nf d9 E;rw[<-a7.o] at E;generalize w2.alloc (.cells (Array.replicate n (.int .u8 0)) 5)=W0 at*;clear b8 Ha q z aa a9 b7 d1;rw[a7.o] at E;go_wp2;go_loopw [26] (λc8 wr=>∃i:Nat,i<=n/\c8=(i:Int)/\Hid (Bk wr G 5 ((mA A B i).map bv).toArray)/\Hid (Below w w wr)) (λc8 _=>(n-intOf c8).toNat);exact Cz;clear E R nf a7;obtain⟨i,hi,rfl,Q,hb⟩:=hrel;by_cases ab:i<n
    . have c5:i<A.length:=xi;have c4:i<B.length:=(by rw[e8.o];exact ab);have e2:=b1.o i c5;have d5:=b2.o i c4;have e1:=b4.o i c5 c4;have b0:=a6.o i hi;have b6:=Q.o.put i (bv (ch (A[i].toNat+2*B[i].toNat)));rw[List.setIfInBounds_toArray,<-List.map_set,e1] at b6;have b5:=Q.o.cell i;rw[mK,jV,fD O] at b5;have f3:=Q.o.frozen i;obtain⟨g0,D⟩:∃o,(Option.map bv (some (mA A B i)[i]))=some o:=⟨_,rfl⟩;rw[D] at b5;have a0:=J b6;have S:=J (hb.o.setCell (p:=⟨G,i,none⟩) d9 (bv (ch (A[i].toNat+2*B[i].toNat))));unfold bv at a0 S;have e5:∀h:i<g.size,((g[i]'h).toNat:Int)=((du A[i]).toNat:Int):=λh=>(by rw[e2 h]);have e6:∀h:i<u.size,((u[i]'h).toNat:Int)=((du B[i]).toNat:Int):=λh=>(by rw[d5 h]);have f4:i<g.size:=(by rw[f5.o];omega);have e7:i<u.size:=(by rw[e9.o];omega);have c9:=e5 f4;have d3:=e6 e7;have d2:=J (λW=>KJ (A[i].toNat+2*B[i].toNat) (Zhi A[i] B[i]) W);clear b6 e1 b0 D e2 d5 Q hb e5 e6;have g1:(0:Int)<=i:=O;have f9:(i:Int)<n:=O;have f6:(i:Int)<g.size:=O;have f7:(i:Int)<u.size:=O;generalize A[i]=X at*;generalize B[i]=Y at*;clear c5 c4 b4 a6 a8 b1 b2;cases X<;>cases Y
      all_goals
        (try rw[show((du false).toNat:Int)=48 from rfl] at c9);(try rw[show((du true).toNat:Int)=49 from rfl] at c9);(try rw[show((du false).toNat:Int)=48 from rfl] at d3);(try rw[show((du true).toNat:Int)=49 from rfl] at d3);go_wp2;go_region_with ((go_at_call 137;refine(d2.o _).mono ?_;rintro r g2 ⟨rfl,rfl⟩))
        all_goals
          clear b5 f3 d2;go_wp2;go_roundw;exact O4;simp[intOf]<;>omega
    have f2:i=n:=O;subst f2;have y:=Q.o;rw[a8.o] at y;have b0:(lJ A B).length=i:=(by rw[<-a8.o];exact a6.o i aW);have b9:=run_convert_bytes_back (P:=prog) wr 88 9 5 ⟨G,0,none⟩ i (lJ A B) underlying88 underlying5 underlying9 (λj a4=>I2);rw[b0] at b9;have d6:(⟨(lJ A B).toArray⟩:aS)=bs (lJ A B):=rfl;rw[d6] at b9;obtain⟨f8,c3⟩:=ay (bs (lJ A B));rw[c3] at b9;have a5:=J c3;clear y b0 d6 c3 Q b4 a6 a8 b1 b2;exact Ap
  rw[aP t];have b3:(((bs (A.map du)).size:Int) !=((bs (B.map du)).size:Int))=true:=(by rw[k,l,kx];omega);simp only[M];clear k l M t h1 h2 a2 c7;exact NE
