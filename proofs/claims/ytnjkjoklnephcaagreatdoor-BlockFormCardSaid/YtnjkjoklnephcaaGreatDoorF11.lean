import Derived.Test.YtnjkjoklnephcaaGreatDoorF08
import Derived.Lib.Repeat
import Derived.StillTailTactics
set_option linter.all false
set_option maxRecDepth 100000
set_option maxHeartbeats 0
section
variable{P Q:Prop}
theorem mG(h:P:=by first|rfl|trivial):P:=h
theorem xh(h:P:=by rw[I.o];exact ab):P:=h
theorem CB(h:P:=by rw[c',ek];omega):P:=h
theorem og(h:P:=by rw[I.o];exact aU):P:=h
theorem Fa(h:P:=by rw[k,l,t];exact yx _):P:=h
theorem Cq(h:P:=by exact⟨0,cf _,rfl,R,a4⟩):P:=h
theorem wz(h:P:=by go_wp2;go_returns;exact⟨rfl,z⟩):P:=h
theorem ES(h:P:=by go_wp2;go_returns;exact⟨rfl,u⟩):P:=h
theorem I'{P:Prop}(h:P:=by first|rfl|(congr 2;rw[lN];simp)):P:=h
theorem Jj(h:P:=by go_in;go_wp2;go_returns;exact⟨rfl,bf _ _⟩):P:=h
theorem Al(h:P:=by go_wp2;go_returns;exact⟨by rw[a5.o];rfl,hb.o⟩):P:=h
theorem PI(h:P:=by have:=grownCap_ge w (bs v).size 0 5;rw[t] at this;omega):P:=h
theorem PB(h:P:=by rw[Nd (by omega)];simp only[k,fh];rw[Iz];simpa using g):P:=h
theorem I1(h:P:=by rw[Go.WideShapes.add_plain,jK,E.cell j,mF,jX,fb D];rfl):P:=h
theorem EJ(h:P:=by subst g;go_wp2;go_returns;exact⟨by first|rfl|(rw[t];rfl),rfl⟩):P:=h
theorem Pu(h:P:=by rw[nj _ _ (by omega),k,fh,l,List.set_cons_zero,B,jy];simp):P:=h
theorem Pp(h:P:=by go_in;go_wp21;refine cp H.o ?_;go_wp2;go_returns;exact⟨rfl,rfl⟩):P:=h
theorem Pq(h:P:=by generalize bs v=S at*;go_in;go_wp2;go_returns;exact⟨rfl,bf _ _⟩):P:=h
theorem Pr(h:P:=by rw[d' (by omega),d' (by omega),F,fh,List.replicate_zero,fg]):P:=h
theorem P3(h:P:=by have:=(u.cell j D).1;rw[Go.WideShapes.add_plain,jK];exact this):P:=h
theorem Ff(h:P:=by go_in;go_wp21;refine aP Ha.o λw1 z=>?_;go_wp2;go_returns;exact⟨rfl,z⟩):P:=h
theorem PS(h:P:=by rw[Vbv,List.zipWith_nil_left,pU,Nat.sub_zero,List.map_replicate,F];rfl):P:=h
theorem Pk(h:P:=by have a3:=J (y.o.trans (aa.mono y.o.size));go_wp2;go_returns;exact⟨rfl,a3.o⟩):P:=h
theorem Ov(h:P:=by simp only[p];clear p G g;generalize bs v=S at*;go_in;go_wp2;go_returns;exact⟨rfl,bf _ _⟩):P:=h
theorem Ey(h:P:=by generalize bs v=S at*;go_in;go_wp21;refine aP g.o λw1 z=>?_;go_wp2;go_returns;exact⟨rfl,z⟩):P:=h
theorem OQ(h:P:=by first|exact⟨i+1,ab,by go_num,J (a0.o.drew),J (S.o.drew)⟩|((repeat apply Exists.intro);exact⟨⟨i+1,ab,by go_num,J (a0.o.drew),J (S.o.drew)⟩,rfl⟩)):P:=h
theorem kN(h:P:=by rw[B] at Ha;rw[aD (by simp)];simp only[p];clear k l p;generalize bs a=g at*;generalize bs b=y at*;go_in;go_wp21;refine aP Ha.o λw1 z=>?_;go_wp2;go_returns;exact⟨rfl,z⟩):P:=h
theorem kC(h:P:=by simp only[p];clear G;generalize bs (c::t)=S at*;go_in;go_wp21;refine aP g.o λw1 z=>?_;have q:=J (z.alloc z.size (.cells #[k,n1,n2,n3] 260));clear z;go_wp2;go_returns;exact⟨rfl,q.o⟩):P:=h
theorem YT(h:P:=by generalize bs a=g at*;generalize bs b=y at*;go_in;go_wp21;refine aP Ha.o λw1 z=>?_;go_wp21;refine aP (q.o _) λw2 aa=>?_;have u:=z.trans (aa.mono z.size);go_wp2;go_returns;exact⟨rfl,u⟩):P:=h
theorem Nr(h:P:=by rw[B] at Ha;rw[D] at q;rw[aD (by simp)];simp only[p];clear k l p;generalize bs a=g at*;generalize bs b=y at*;go_in;go_wp21;refine aP Ha.o λw1 z=>?_;go_wp21;refine aP (q.o _) λw2 aa=>?_;have u:=z.trans (aa.mono z.size);go_wp2;go_returns;exact⟨rfl,u⟩):P:=h
theorem Nk(h:P:=by rw[aD (λh=>t h.2.2)];have e2:(((bs a).size:Int) !=((bs b).size:Int))=true:=(by rw[k,l,kx];omega);simp only[p];clear k l p B D t;generalize bs a=g at*;generalize bs b=y at*;go_in;go_wp21;refine aP Ha.o λw1 z=>?_;go_wp21;refine aP (q.o _) λw2 aa=>?_;have u:=z.trans (aa.mono z.size);go_wp2;go_returns;exact⟨rfl,u⟩):P:=h
end
namespace Go.Proofs.Y
open Tryz Wv Go.RowKit
def pC (c:cj):Int:=if cd c<4 then(cd c:Int) else-1
theorem ZcZ:(∀h:0<(⟨#[48,49,120,122]⟩:aT).size,((⟨#[48,49,120,122]⟩:aT)[0]'h).toNat=48)/\(∀h:1<(⟨#[48,49,120,122]⟩:aT).size,((⟨#[48,49,120,122]⟩:aT)[1]'h).toNat=49)/\
  (∀h:2<(⟨#[48,49,120,122]⟩:aT).size,((⟨#[48,49,120,122]⟩:aT)[2]'h).toNat=120)/\(∀h:3<(⟨#[48,49,120,122]⟩:aT).size,((⟨#[48,49,120,122]⟩:aT)[3]'h).toNat=122):=⟨λ_=>rfl,λ_=>rfl,λ_=>rfl,λ_=>rfl⟩
theorem ZoF {c:cj} :(c.toNat=48->pC c=0)/\(c.toNat=49->pC c=1)/\(c.toNat=120->pC c=2)/\(c.toNat=122->pC c=3)/\(c.toNat≠48->c.toNat≠49->c.toNat≠120->c.toNat≠122->pC c= -1):=by have e:∀k:cj,c.toNat=k.toNat->c=k:=λk h=>UInt8.toNat_inj.1 h;refine⟨λh=>by rw[e 48 h];rfl,λh=>by rw[e 49 h];rfl,λh=>by rw[e 120 h];rfl,λh=>by rw[e 122 h];rfl,λh0 h1 d g=> ?_⟩;rcases Gl c with ⟨rfl,h⟩|⟨rfl,h⟩|⟨rfl,h⟩|⟨rfl,h⟩|⟨_,_,_,_,h⟩;exact absurd rfl h0;exact absurd rfl h1;exact absurd rfl d;exact absurd rfl g;unfold pC;rw[h];rfl
theorem Qc (c:cj) (w:aq):Calls prog 107 #[.int .u8 (c.toNat:Int)] w λx w'=>x=.returned (pC c:Int)/\w=w':=by
 obtain⟨f0,f1,k,l,p⟩:=ZoF (c:=c);obtain⟨F,G,I,L⟩:=ZcZ;obtain⟨R,t⟩:=ay (pC c);rw[t] at f0 f1 k l p⊢;obtain⟨C,u⟩:=ay c.toNat;rw[u] at f0 f1 k l p⊢;obtain⟨y,z,B,D,E⟩:=ii f0 f1 k l p;clear t u f0 f1 k l p;go_in;go_wp2;go_loopw [4] (λq wr=>∃i:Nat,i<=4/\q=i/\Hid ((0<i->C≠48)/\(1<i->C≠49)/\(2<i->C≠120)/\(3<i->C≠122))/\wr=w) (λq _=>(4-intOf q).toNat);exact⟨0,O,rfl,J ⟨λh=>O,λh=>O,λh=>O,λh=>O⟩,rfl⟩;obtain⟨i,hi,rfl,j,rfl⟩:=hrel;rcases(show i=0\/i=1\/i=2\/i=3\/i=4 by omega) with rfl|rfl|rfl|rfl|rfl;.by_cases g:C=48;have t:=y.o g;exact EJ;have hb:((48:Int)==C)=false:=rT;go_wp2;refine⟨⟨1,O,rfl,J ⟨λ_=>g,λh=>O,λh=>O,λh=>O⟩,mG⟩,?_⟩;simp[intOf]
 .by_cases g:C=49;have t:=z.o g;exact EJ;have hb:((49:Int)==C)=false:=rT;have d:=j.o;go_wp2;refine⟨⟨2,O,rfl,J ⟨λ_=>d.1 O,λ_=>g,λh=>O,λh=>O⟩,mG⟩,?_⟩;simp[intOf]
 .by_cases g:C=120;have t:=B.o g;exact EJ;have hb:((120:Int)==C)=false:=rT;have d:=j.o;go_wp2;refine⟨⟨3,O,rfl,J ⟨λ_=>d.1 O,λ_=>d.2.1 O,λ_=>g,λh=>O⟩,mG⟩,?_⟩;simp[intOf]
 .by_cases g:C=122;have t:=D.o g;exact EJ;have hb:((122:Int)==C)=false:=rT;have d:=j.o;go_wp2;refine⟨⟨4,O,rfl,J ⟨λ_=>d.1 O,λ_=>d.2.1 O,λ_=>d.2.2.1 O,λ_=>g⟩,mG⟩,?_⟩;simp[intOf]
 have d:=j.o;have t:=E.o (d.1 O) (d.2.1 O) (d.2.2.1 O) (d.2.2.2 O);go_wp2;go_returns;exact⟨by first|rfl|(rw[t];rfl),rfl⟩
theorem KB (n:Nat) (d:n<4) (w:aq):Calls prog 137 #[n] w λx w'=>x=.returned (.tuple #[.int .u8 ((ch n).toNat:Int),true])/\w=w':=by
 rcases(show n=0\/n=1\/n=2\/n=3 by omega) with rfl|rfl|rfl|rfl
 all_goals
  go_in;go_wp2;go_returns;exact⟨rfl,rfl⟩
def wt (c:cj):Nat:=if cd c<4 then cd c else 2
theorem ZoG (c:cj):wt c<4:=by unfold wt;split<;>omega
theorem Zer (c:cj) (w:aq):Calls prog 364 #[.int .u8 (c.toNat:Int)] w λx w'=>x=.returned (wt c)/\w=w':=by have H:=J (Qc c w);unfold pC wt at*;by_cases h:cd c<4;rw[Vag h] at H⊢;generalize (c.toNat:Int)=C at*;generalize cd c=k at*;have h0:(0:Int)<=k:=O;exact Pp;rw[aD h] at H⊢;generalize (c.toNat:Int)=C at*;clear h;exact Pp
theorem Zcn (c:cj) (w:aq):Calls prog 71 #[.int .u8 (c.toNat:Int)] w λx w'=>x=.returned (nP c)/\w=w':=by
 have d:=J (Qc c w);have h:decide (0<=pC c)=nP c:=by unfold pC nP;by_cases h:cd c<4;rw[Vag h];simp[h];rw[aD h];simp[h]
 generalize (c.toNat:Int)=C at*;generalize pC c=k at*;go_in;go_wp21;refine cp d.o ?_;go_wp2;go_returns;exact⟨by first|rfl|(rw[h]),rfl⟩
def nN (c:cj):cj:=ch (if wt c<2 then 1-wt c else wt c)
theorem ZjK (w:aq):(Instr.index 253 (.agg #[.int .u8 49,.int .u8 48,.int .u8 120,.int .u8 122]) (0:Int)).run prog w=.ok (.int .u8 49) w:=qD
theorem ZjL (w:aq):(Instr.index 253 (.agg #[.int .u8 49,.int .u8 48,.int .u8 120,.int .u8 122]) (1:Int)).run prog w=.ok (.int .u8 48) w:=qD
theorem ZjM (w:aq):(Instr.index 253 (.agg #[.int .u8 49,.int .u8 48,.int .u8 120,.int .u8 122]) (2:Int)).run prog w=.ok (.int .u8 120) w:=qD
theorem ZjN (w:aq):(Instr.index 253 (.agg #[.int .u8 49,.int .u8 48,.int .u8 120,.int .u8 122]) (3:Int)).run prog w=.ok (.int .u8 122) w:=qD
theorem Z8z (c:cj) (w:aq):Calls prog 361 #[.int .u8 (c.toNat:Int)] w λx w'=>x=.returned (.int .u8 ((nN c).toNat:Int))/\w=w':=by
 have d:=J (Zer c w);have g:=ZoG c;unfold nN;generalize (c.toNat:Int)=C at*;generalize wt c=k at*;have r0:=ZjK w;have j:=ZjL w;have l:=ZjM w;have p:=ZjN w;rcases(show k=0\/k=1\/k=2\/k=3 by omega) with rfl|rfl|rfl|rfl
 all_goals
  go_in;go_wp21;refine cp d.o ?_;go_wp2;go_returns;exact⟨rfl,rfl⟩
def cn (k:Nat) (v:ax):Nat:=(v.filter (λc=>cd c==k)).length
theorem WD (k:Nat) (v:ax) (c:cj):cn k (v++[c])=cn k v+if cd c=k then 1 else 0:=by unfold cn;grind
theorem ve (k:Nat) (v:ax):cn k v<=v:=List.length_filter_le _ _
theorem L2 (v:ax):cn 0 v+cn 1 v+cn 2 v+cn 3 v<=v/\(cn 0 v+cn 1 v+cn 2 v+cn 3 v=v.length↔∀c∈v,cd c<4)/\(cn 0 v+cn 1 v=v.length↔∀c∈v,cd c<2)/\((∀c∈v,cd c<4)->(cn 2 v+cn 3 v=0↔∀c∈v,cd c<2)):=by
 induction v with
 |nil=>simp[cn]
 |cons a r ih=>
  have key:∀k,cn k (a::r)=cn k r+if cd a=k then 1 else 0:=λk=>by unfold cn;grind
  grind
theorem XQ (v:ax) (i:Nat) (h:i<v) (d:i<(bs v).size):((bs v)[i]'d)=v[i]'h:=by simp[bs];rfl
def pD (v:ax):Array aI:= #[.int .i64 (cn 0 v:Int),.int .i64 (cn 1 v:Int),.int .i64 (cn 2 v:Int),.int .i64 (cn 3 v:Int)]
theorem ZhZ (v:ax) (c:cj) (k:Nat) (d:cd c=k) (h:k<4):(pD v).setIfInBounds k ((cn k v:Int)+1:Int)=pD (v++[c]):=by unfold pD;simp only[WD,d];rcases(show k=0\/k=1\/k=2\/k=3 by omega) with rfl|rfl|rfl|rfl<;>simp
theorem ZhY (v:ax) (c:cj) (h:¬cd c<4):pD (v++[c])=pD v:=by unfold pD;simp only[WD];rw[aD O,aD O,aD O,aD O];rfl
theorem J4 (v:ax) (d6:v.length<=1099511627776) (w:aq):
  Calls prog 190 #[.string (bs v)] w (bM w (.agg (pD v))):=by
 have E:(bs v).size=v:=Z0 v;have b7:=J (((bf w w).alloc aU (.cells #[.int .i64 0,.int .i64 0,.int .i64 0,.int .i64 0] 260)).alloc (by simp) (.cells #[.int .i64 0,.int .i64 0,.int .i64 0,.int .i64 0] 260));have b9:=J ((Bk.new w 260 #[.int .i64 0,.int .i64 0,.int .i64 0,.int .i64 0]).alloc (.cells #[.int .i64 0,.int .i64 0,.int .i64 0,.int .i64 0] 260));have M:=Bk.new (w.alloc (.cells #[.int .i64 0,.int .i64 0,.int .i64 0,.int .i64 0] 260)) 260 #[.int .i64 0,.int .i64 0,.int .i64 0,.int .i64 0];rw[World.size_alloc] at M;have AN:=J M;have a6:Hid (∀(i:Nat) (h:i<v.length) (Q:i<(bs v).size),(bs v)[i]'Q=v[i]'h):=J (λi h Q=>XQ v i h Q);obtain⟨n,R⟩:=ay v.length;obtain⟨S,a7⟩:=ay (bs v);rw[a7] at E a6⊢;rw[R] at E d6;have I:=J R;have a4:=J E;clear R a7 M E;go_in;go_wp2;rw[a4.o];go_loopw [8] (λa1 wr=>∃i:Nat,i<=n/\a1=(i:Int)/\Hid (Bk wr w 260 #[.int .i64 0,.int .i64 0,.int .i64 0,.int .i64 0])/\Hid (Bk wr (w.heap.size+1) 260 (pD (v.take i)))/\Hid (Below w w wr)) (λa1 _=>(n-intOf a1).toNat);exact⟨0,cf _,rfl,b9,AN,b7⟩;obtain⟨i,hi,rfl,g,d,hb⟩:=hrel;by_cases ab:i<n
 .have a3:i<v.length:=xh;have f4:i<S.size:=(by rw[a4.o];exact ab);have a5:=a6.o i a3;have B:v.take (i+1)=v.take i++[v[i]]:=dK a3;obtain⟨c,d4⟩:=ay v[i];rw[d4] at a5 B;have e2:∀h:i<S.size,(S[i]'h).toNat=c.toNat:=λh=>(by rw[a5 h]);have e4:(i:Int)<n:=O;have e9:(0:Int)<=i:=O;have c7:cn 0 (v.take i)<=i/\cn 1 (v.take i)<=i/\cn 2 (v.take i)<=i/\cn 3 (v.take i)<=i:=by have F:(v.take i).length<=i:=vO;exact⟨co (ve _ _) F,co (ve _ _) F,co (ve _ _) F,co (ve _ _) F⟩
  obtain⟨c5,c4,c6,c8⟩:=c7;have z:=J (Qc c wr);unfold pC at z;have l:=d.o.cell 0;have y:=d.o.cell 1;have q:=d.o.cell 2;have t:=d.o.cell 3;have f0:=d.o.frozen 0;have f1:=d.o.frozen 1;have e6:=d.o.frozen 2;have e7:=d.o.frozen 3;unfold pD at l y q t;simp only[mF,List.getElem?_cons_zero,List.getElem?_cons_succ] at l y q t;obtain⟨a2,b4,d8,d2⟩:=dc (λk (h:cd c=k) (j:k<4)=>(by rw[B,<-ZhZ _ c k h j];exact Bk.put d.o k ((cn k (v.take i):Int)+1:Int):Bk (wr.setCell ⟨w+1,k,none⟩ ((cn k (v.take i):Int)+1:Int)) (w.heap.size+1) 260 (pD (v.take (i+1))))) (λ(h:¬cd c<4)=>(by rw[B,ZhY _ c h];exact d.o:Bk wr (w.heap.size+1) 260 (pD (v.take (i+1))))) (λk (u:aI)=>Bk.off g.o (p:=⟨w+1,k,none⟩) (by simp) u) (λk (u:aI)=>hb.o.setCell (p:=⟨w+1,k,none⟩) (by simp) u);have d5:=Zqy c;obtain⟨b3,L⟩:∃f:Nat->Nat,(λk=>cn k (v.take i))=f:=⟨_,rfl⟩;have d1:∀k,cn k (v.take i)=b3 k:=λk=>congrFun L k;simp only[d1] at a2 l y q t c5 c4 c6 c8;by_cases j:cd c<4
  .rw[Vag j] at z;obtain⟨k,a8⟩:=ay (cd c);rw[a8] at z j;obtain⟨a0,b5,aa⟩:=bD (a2.o k a8 j) (λu=>d8.o k u) (λu=>d2.o k u);rcases(show k=0\/k=1\/k=2\/k=3 by omega) with rfl|rfl|rfl|rfl
   all_goals
    go_wp21;refine cp z.o ?_;go_wp2;refine⟨⟨i+1,ab,ci,J (b5.o _),a0,J (aa.o _)⟩,?_⟩;simp[intOf]<;>omega
  rw[aD j] at z;have a0:=J (b4.o j);go_wp21;refine cp z.o ?_;go_wp2;refine⟨⟨i+1,ab,ci,g,a0,hb⟩,?_⟩;simp[intOf]<;>omega
 have b6:i=n:=O;subst b6;have B:v.take i=v:=d' og;have D:=d.o;rw[B] at D;have l:=D.cell 0;have y:=D.cell 1;have q:=D.cell 2;have t:=D.cell 3;have e8:=g.o.frozen 0;have e3:=g.o.frozen 1;have e1:=g.o.frozen 2;have e5:=g.o.frozen 3;have d9:=g.o.cell 0;have b8:=g.o.cell 1;have c3:=g.o.cell 2;have d3:=g.o.cell 3;unfold pD at l y q t;simp only[mF,List.getElem?_cons_zero,List.getElem?_cons_succ] at l y q t d9 b8 c3 d3;have d7:pD v= #[.int .i64 (cn 0 v:Int),.int .i64 (cn 1 v:Int),.int .i64 (cn 2 v:Int),.int .i64 (cn 3 v:Int)]:=rfl;have L:=J d7;generalize cn 0 v=G at*;generalize cn 1 v=n1 at*;generalize cn 2 v=n2 at*;generalize cn 3 v=n3 at*;have hF:=J ((((g.o.put 0 G).put 1 n1).put 2 n2).put 3 n3);have c9:=J ((((hb.o.setCell (p:=⟨w,0,none⟩) aU G).setCell (p:=⟨w,1,none⟩) aU n1).setCell (p:=⟨w,2,none⟩) aU n2).setCell (p:=⟨w,3,none⟩) aU n3);go_wp2;have a9:=hF.o.cell 0;have b0:=hF.o.cell 1;have b1:=hF.o.cell 2;have b2:=hF.o.cell 3;simp at a9 b0 b1 b2;generalize ((((wr.setCell ⟨w.heap.size,0,none⟩ G).setCell ⟨w.heap.size,1,none⟩ n1).setCell ⟨w.heap.size,2,none⟩ n2).setCell ⟨w.heap.size,3,none⟩ n3)=WF at*;refine bodyPost_ret (v:=.agg #[.int .i64 (G:Int),.int .i64 (n1:Int),.int .i64 (n2:Int),.int .i64 (n3:Int)]) (by simp[results,results190,go_sem,a9,b0,b1,b2];try rfl) rfl ?_;exact⟨by rw[L.o],c9.o⟩
theorem YU (v:ax):(bs v).toList.isEmpty=decide (v=[]):=by
 have h:(bs v).toList.isEmpty=((bs v).toList==(bs []).toList):=by have:(bs ([]:ax)).toList=[]:=Aq;rw[this];cases (bs v).toList<;>rfl
 rw[h,lN,beq_iff_eq,fq,ByteArray.toList_eq,ByteArray.toList_eq];exact Iff.rfl
theorem Zpd {v:ax} (h0:v≠[]) (h1:v.length<=128):fs v=decide ((cn 0 v:Int)+(cn 1 v:Int)+(cn 2 v:Int)+(cn 3 v:Int)=(v.length:Int)):=by rw[lN,Zp,fq];obtain⟨_,d,_⟩:=L2 v;constructor;rintro⟨h,_,_⟩;have:=d.2 h;omega;intro h;exact⟨d.1 O,h0,h1⟩
theorem Zpi {v:ax} (h:fs v=true):jM v=decide ((cn 2 v:Int)+(cn 3 v:Int)=0):=by obtain⟨a,b,c⟩:=Zp.1 h;rw[lN,YA,fq];obtain⟨_,_,_,d⟩:=L2 v;constructor;rintro⟨h,_,_⟩;have:=(d a).2 h;omega;intro h;exact⟨(d a).1 O,b,c⟩
theorem xz (v : ax) (t : v.length <= 1099511627776) (w : aq) :
    Calls prog 132 #[.string (bs v)] w (bM w (.bool (fs v))):=by
  have l:=YU v;have k:(bs v).size=v:=Z0 v;by_cases h0:v=[]
  . have hi : fs v = false := by cases h : fs v with
      |false=>rfl
      |true=>exact absurd h0 (Zp.1 h).2.1
    rw[dd h0] at l;rw[hi];exact Pq
  rw[cI h0] at l;by_cases h1:128<v.length
  . have hi : fs v = false := by cases h : fs v with
      |false=>rfl
      |true=>have:=(Zp.1 h).2.2;omega
    rw[hi];have B:(128:Int)<((bs v).size:Int):=O;exact Pq
  have hi:=Zpd h0 O;have g:=J (J4 v t w);have u:pD v= #[.int .i64 (cn 0 v:Int),.int .i64 (cn 1 v:Int),.int .i64 (cn 2 v:Int),.int .i64 (cn 3 v:Int)]:=rfl;rw[u] at g;have c0:=ve 0 v;have c1:=ve 1 v;have c2:=ve 2 v;have z:=ve 3 v;have d:Hid ((bs v).size=v):=J k;have B:¬(128:Int)<((bs v).size:Int):=O;have j:=J hi;have E:v.length<=128:=O;obtain⟨n,q⟩:=ay v.length;rw[q] at j d c0 c1 c2 z E;generalize cn 0 v=D at*;generalize cn 1 v=n1 at*;generalize cn 2 v=n2 at*;generalize cn 3 v=n3 at*;generalize bs v=S at*;clear u k hi h0 h1 q t;go_in;go_wp21;refine aP g.o λw1 p=>?_;have y:=J (p.alloc p.size (.cells #[.int .i64 (D:Int),.int .i64 (n1:Int),.int .i64 (n2:Int),.int .i64 (n3:Int)] 260));go_wp2;go_returns;rw[d.o,j.o];exact⟨I',y.o⟩
theorem Bj (v:ax) (q:v.length<=1099511627776) (w:aq):
  Calls prog 136 #[.string (bs v)] w (bM w (.bool (jM v))):=by
 have l:=J (J4 v q w);have z:pD v= #[.int .i64 (cn 0 v:Int),.int .i64 (cn 1 v:Int),.int .i64 (cn 2 v:Int),.int .i64 (cn 3 v:Int)]:=rfl;rw[z] at l;have j:=J (λW=>xz v q W);have c2:=ve 2 v;have D:=ve 3 v;cases h:fs v
 .have g:jM v=false:=by cases g:jM v with
   |false=>rfl
   |true=>rw[He g] at h;cases h
  rw[h] at j;rw[g];generalize cn 0 v=k at*;generalize cn 1 v=n1 at*;generalize cn 2 v=n2 at*;generalize cn 3 v=n3 at*;generalize bs v=S at*;go_in;go_wp21;refine aP l.o λw1 d=>?_;have y:=J (d.alloc d.size (.cells #[.int .i64 (k:Int),.int .i64 (n1:Int),.int .i64 (n2:Int),.int .i64 (n3:Int)] 260));go_wp21;refine aP (j.o _) λB aa=>?_;exact Pk
 have g:=Zpi h;have E:=(Zp.1 h).2.2;rw[h] at j;rw[g];have t:cn 2 v<=128:=O;have u:cn 3 v<=128:=O;generalize cn 0 v=k at*;generalize cn 1 v=n1 at*;generalize cn 2 v=n2 at*;generalize cn 3 v=n3 at*;generalize bs v=S at*;go_in;go_wp21;refine aP l.o λw1 d=>?_;have ff:=J (Bk.new w1 260 #[.int .i64 (k:Int),.int .i64 (n1:Int),.int .i64 (n2:Int),.int .i64 (n3:Int)]);have y:=J (d.alloc d.size (.cells #[.int .i64 (k:Int),.int .i64 (n1:Int),.int .i64 (n2:Int),.int .i64 (n3:Int)] 260));go_wp21;refine aP (j.o _) λB aa=>?_;have p:=Bk.below ff.o aa (by simp);have k2:=p.cell 2;have k3:=p.cell 3;simp only[mF,List.getElem?_cons_zero,List.getElem?_cons_succ] at k2 k3;have a3:=J (y.o.trans (aa.mono y.o.size));go_wp2;go_returns;exact⟨I',a3.o⟩
theorem Z7Y (wd:Int) (v:ax) (k:v.length<=1099511627776) (w:aq):
  Calls prog 173 #[wd,bs v] w (bM w (vld wd v)):=by
 have d:=J (xz v k w);have g:(bs v).size=v:=Z0 v;have j:=J g;unfold vld;generalize fs v=b at*;generalize bs v=S at*;clear g;cases b;.go_in;go_wp21;refine aP d.o λw1 z=>?_;exact wz
 go_in;go_wp21;refine aP d.o λw1 z=>?_;go_wp2;go_returns;rw[j.o];exact⟨I',z⟩
end Go.Proofs.Y
namespace Wv
open Go.Proofs.Tryz Go Go.RowKit
variable{R:ax}{g:Nat}{w:aq}
def na (w:aq) (g:Nat) (e:TypeId) (R:ax):Prop:=∃d j sp,w.heap[g]? =some (.cells d e j)/\d.toList=R.map bv++sp/\R.length<=j.1
theorem na.lt {e:TypeId} (h:na w g e R):g<w:=by obtain⟨d,j,sp,h1,_⟩:=h;exact(Array.getElem?_eq_some_iff.1 h1).1
theorem na.cell {e:TypeId} (h:na w g e R) (i:Nat) (hi:i<R):w.cell? (g,i)=some (bv R[i])/\w.frozen? (g,i)=false:=by obtain⟨j,k,sp,h1,d,l⟩:=h;constructor;simp only[World.cell?,h1];rw[<-Array.getElem?_toList,d,List.getElem?_append_left (by rw[c'];exact hi),jX,fb hi];rfl;simp only[World.frozen?,h1];exact fj
theorem na.put {e:TypeId} (h:na w g e R) (i:Nat) (hi:i<R) (x:cj):na (w.setCell (g,i) (bv x)) g e (R.set i x):=by obtain⟨d,j,sp,h1,k,l⟩:=h;refine⟨d.setIfInBounds i (bv x),j,sp,?_,?_,by rw[od];exact l⟩;simp[World.setCell,Array.getElem?_modify,h1];rw[Array.toList_setIfInBounds,k,List.set_append_left _ _ (by rw[c'];exact hi),List.map_set]
theorem na.below {w':aq} {B:Nat} {e:TypeId} (h:na w g e R) (hb:Below B w w') (p:g<B):na w' g e R:=by obtain⟨d,j,sp,h1,k,l⟩:=h;exact⟨d,j,sp,(hb.block g p).trans h1,k,l⟩
theorem na.new (w:aq) (e:TypeId) (s:aT) (cap:Nat) (z:Nat×Nat) (d:s.size<=z.1):na (w.alloc (.cells (bytesRow s cap) e z)) w e s.data.toList:=by refine⟨bytesRow s cap,z,(Array.replicate (cap-s.size) (.int .u8 0)).toList,?_,?_,by rw[Array.length_toList];exact d⟩;show(w.heap.push _)[w.heap.size]? =_;simp;unfold bytesRow;rw[Array.toList_append,Array.toList_map];rfl
end Wv
namespace Go.Proofs.Y
open Tryz Wv Go.RowKit
theorem Zmz (v:ax) (h:fs v=true):qW v=v.map nN:=by unfold qW;apply List.map_congr_left;intro c d;have:=(Zp.1 h).1 c d;unfold nN wt;rw[Vag this]
theorem Zin (v:ax) (b0:v.length<=1099511627776) (w:aq):
  Calls prog 134 #[bs v,.func (.func 361) #[] #[]] w (bM w (bs (v.map nN))):=by
 have q:=run_bytes_of_string (P:=prog) w 9 88 5 (bs v) underlying9 underlying88 underlying5;have a4:(bs v).size=v:=Z0 v;have d:=na.new w.drew 5 (bs v) (grownCap w (bs v).size 0 5) ((bytesRow (bs v) (grownCap w (bs v).size 0 5)).size,(bytesRow (bs v) (grownCap w (bs v).size 0 5)).size+1) (by unfold bytesRow;simp);have M:=J (((bf w w).drew).alloc aU (.cells (bytesRow (bs v) (grownCap w (bs v).size 0 5)) 5 ((bytesRow (bs v) (grownCap w (bs v).size 0 5)).size,(bytesRow (bs v) (grownCap w (bs v).size 0 5)).size+1)));have a8:(bs v).data.toList=v:=rfl;rw[a8] at d;have F:=J (show na _ w 5 v from d);have b1:=J (λc W=>Z8z c W);obtain⟨n,z⟩:=ay v.length;obtain⟨cap,t⟩:=ay (grownCap w (bs v).size 0 5);rw[t] at q M F;have b7:n<=cap:=PI;generalize w.drew.alloc (.cells (bytesRow (bs v) cap) 5 ((bytesRow (bs v) cap).size,(bytesRow (bs v) cap).size+1))=W0 at*;rw[a4,z] at q;rw[z] at b0;have I:=J z;obtain⟨S,a9⟩:=ay (bs v);rw[a9] at q⊢;go_in;go_wp2;go_loopw [12] (λE wr=>∃i:Nat,i<=n/\E=i/\Hid (na wr w 5 ((v.take i).map nN++v.drop i))/\Hid (Below w w wr)) (λE _=>(n-intOf E).toNat);exact⟨0,cf _,rfl,F,M⟩;obtain⟨i,hi,rfl,d,hb⟩:=hrel;by_cases ab:i<n;.have Q:i<v:=xh;have B:v.take (i+1)=v.take i++[v[i]]:=dK Q;have l:v.drop i=v[i]::v.drop (i+1):=kw Q;have k:((v.take i).map nN).length=i:=CB;obtain⟨c,g⟩:=ay v[i];rw[g] at B l;have a1:i<((v.take i).map nN++v.drop i).length:=(by rw[bV,k,iW];omega);obtain⟨h1,b6⟩:=d.o.cell i a1;have b2:((v.take i).map nN++v.drop i)[i]=c:=PB;rw[b2] at h1;have b3:wr.cell? (w,i)=some (.int .u8 (c.toNat:Int)):=h1;have L:=d.o.put i a1 (nN c);have a7:((v.take i).map nN++v.drop i).set i (nN c)=(v.take (i+1)).map nN++v.drop (i+1):=Pu;rw[a7] at L;obtain⟨G,a2,R⟩:=bD L (b1.o c wr) (hb.o.setCell (p:=⟨w,i,none⟩) aU (bv (nN c)));have b5:(i:Int)<n:=O;have b8:(0:Int)<=i:=O;unfold bv at G R;go_wp21;refine cp a2.o ?_;go_wp2;refine⟨⟨i+1,ab,ci,G,R⟩,?_⟩;simp[intOf]<;>omega
 have a3:i=n:=O;subst a3;have B:v.take i=v:=d' og;have l:v.drop i=[]:=oc og;have u:=d.o;rw[B,l,fg] at u;have k:(v.map nN)=i:=(by rw[c',I.o]);have y:=run_convert_bytes_back (P:=prog) wr 88 9 5 ⟨w,0,none⟩ cap (v.map nN) underlying88 underlying5 underlying9 (λj D=>P3);rw[k] at y;have a6:(⟨(v.map nN).toArray⟩:aT)=bs (v.map nN):=rfl;rw[a6] at y;obtain⟨b4,a0⟩:=ay (bs (v.map nN));rw[a0] at y;have a5:=J a0;exact Al
theorem Zht (v:ax) (d:v.length<=1099511627776) (w:aq):
  Calls prog 331 #[bs v] w (bM w (bs (if fs v=true then qW v else[]))):=by have g:=J (xz v d w);have j:=J (λW=>Zin v d W);cases h:fs v;rw[h] at g;rw[aD (by simp)];exact Ey;rw[h] at g;rw[Vag rfl,Zmz v h];generalize bs (v.map nN)=SR at*;generalize bs v=S at*;go_in;go_wp21;refine aP g.o λw1 z=>?_;go_wp21;refine aP (j.o _) λk aa=>?_;have hb:=z.trans (aa.mono z.size);go_wp2;go_returns;exact⟨rfl,hb⟩
theorem ZD (w:aq) (o:Obj):Below w w (w.alloc o):=(bf w w).alloc aU o
theorem Zc9 (w:aq) (g n:Nat) (k:n<=128):(Instr.sliceAt 397 (.pointer (some (g,0))) none (some (.int .i64 (n:Int))) none).run prog w=.ok (.slice (some (g,0)) n 128) w:=by have h1:prog.arrayLen 397=128:=qD;have d:prog.underlying 397=some (.array (prog.arrayLen 397) (prog.elem 397)):=qD;have j:∀w,(sizeOf (prog.elem 397)).run prog w=.ok 1 w:=λw=>qD;rw[run_sliceAt_array_h w _ ⟨g,0,none⟩ d .i64 (n:Int) O (by rw[h1];omega),j,h1];unfold slicedAt;simp[Result.andThen,Addr.add]
theorem cd2 {c:cj} (h:cd c<2):c.toNat=48+cd c:=by rcases Gl c with ⟨rfl,h1⟩|⟨rfl,h1⟩|⟨_,h1⟩|⟨_,h1⟩|⟨_,_,_,_,h1⟩;rfl;rfl;all_goals omega
theorem Znz {a b:ax} {k:Nat} (c:Nat) (d:k<a) (hb:k<b):sm (a.drop k) (b.drop k) c=(UInt8.ofNat (48+(cd a[k]+cd b[k]+(sm (a.drop (k+1)) (b.drop (k+1)) c).2) % 2)::(sm (a.drop (k+1)) (b.drop (k+1)) c).1,(cd a[k]+cd b[k]+(sm (a.drop (k+1)) (b.drop (k+1)) c).2)/2):=by rw[kw d,kw hb];rfl
theorem Wk (c:Nat) (d:c<=1):∀(a b:ax),(∀x∈a,cd x<2)->(∀x∈b,cd x<2)->(sm a b c).2<=1
 |[],_,_,_=>by simpa [sm] using d
 |_::_,[],_,_=>by simpa [sm] using d
 |x::a,y::b,h1,h2=>by have j:=Wk c d a b (λz g=>h1 z (gM _ g)) (λz g=>h2 z (gM _ g));have k:=h1 x fi;have l:=h2 y fi;show(cd x+cd y+(sm a b c).2)/2<=1;omega
def uv (n k:Nat) (d:ax):Array aI:=((List.replicate k 0++d++List.replicate (128-n) 0).map bv).toArray
theorem I_ (a b:ax) (c:Nat) (h7:c<=1) (f4:jM a=true) (hb:jM b=true) (f5:a=b.length) (w:aq):
  Calls prog 301 #[bs a,bs b,.int .u8 (c:Int)] w (bM w (bs (sm a b c).1)):=by
 obtain⟨a1,a2,a3⟩:=YA.1 f4;obtain⟨b1,d9,b3⟩:=YA.1 hb;have G:(bs a).size=a:=Z0 a;have L:(bs b).size=b:=Z0 b;have Q:Hid (∀(i:Nat) (h:i<a.length) (g:i<(bs a).size),(bs a)[i]'g=a[i]'h):=J (λi h g=>XQ a i h g);have S:Hid (∀(i:Nat) (h:i<b.length) (g:i<(bs b).size),(bs b)[i]'g=b[i]'h):=J (λi h g=>XQ b i h g);obtain⟨n,M⟩:=ay a.length;have c7:b=n:=O;rw[M] at G a3;rw[c7] at L;have e2:=J (Bk.new w 397 (Array.replicate 128 (.int .u8 0)));have d8:=J (ZD w (.cells (Array.replicate 128 (.int .u8 0)) 397));have e9:Array.replicate 128 (.int .u8 0:aI)=uv n n (sm (a.drop n) (b.drop n) c).1:=by have t:a.drop n=[]:=oc O;rw[t];show _=((List.replicate n (0:cj)++[]++List.replicate (128-n) (0:cj)).map bv).toArray;rw[fg,List.replicate_append_replicate,show n+(128-n)=128 by omega,List.map_replicate];rfl
 have d6:=J e9;have e3:(sm (a.drop n) (b.drop n) c).2=c:=by have t:a.drop n=[]:=oc O;rw[t];rfl
 obtain⟨g0,d1,d2,c9,a9,h0⟩:=fA e3 (λk=>Wk c h7 (a.drop k) (b.drop k) (λx B=>a1 x (List.mem_of_mem_drop B)) (λx B=>b1 x (List.mem_of_mem_drop B))) (λk (h1:k<a.length) (g:k<b.length)=>Znz c h1 g) a1 b1 M;have g7:=J c7;have d5:(sm a b c).1=n:=(by rw[HH a b c f5,M]);have d4:=J d5;obtain⟨E,g2⟩:=ay (bs a);obtain⟨a7,g3⟩:=ay (bs b);rw[g2] at G Q⊢;rw[g3] at L S⊢;have a4:=J G;have g6:=J L;clear e9 e3 a1 b1 M c7 g2 g3 G L f4 hb f5 a2 d9 b3 d5;have i3:E.size<=128:=(by rw[a4.o];exact a3);go_in;go_wp2;rw[a4.o];go_loopw [2,8] (λh8 c8 wr=>∃k:Nat,k<=n/\c8=((k:Int)-1:Int)/\h8=.int .u8 (((sm (a.drop k) (b.drop k) c).2:Nat):Int)/\Hid (Bk wr w 397 (uv n k (sm (a.drop k) (b.drop k) c).1))/\Hid (Below w w wr)) (λ_ c8 _=>(intOf c8+1).toNat);exact⟨n,aU,rfl,by rw[g0.o],J (by rw[<-d6.o];exact e2.o),d8⟩;clear e2 d8 d6 g0;obtain⟨k,i8,rfl,rfl,l,hb⟩:=hrel;cases k with
 |succ i=>
  have c6:i<a.length:=(by rw[h0.o];omega);have c4:i<b.length:=(by rw[g7.o];omega);have j1:i<E.size:=(by rw[a4.o];omega);have h9:i<a7.size:=(by rw[g6.o];omega);have z:=d2.o i c6 c4;have a6:=d1.o (i+1);have a0:=c9.o a[i] (dt _);have R:=a9.o b[i] (dt _);have c5:=Q.o i c6;have b6:=S.o i c4;obtain⟨x,B⟩:=ay a[i];obtain⟨y,c3⟩:=ay b[i];rw[B,c3] at z;rw[B] at a0 c5;rw[c3] at R b6;obtain⟨⟨I,b5⟩,hr⟩:=ay (sm (a.drop (i+1)) (b.drop (i+1)) c);rw[hr] at z a6 l;simp only at z a6 l;have g8:∀h:i<E.size,(E[i]'h).toNat=48+cd x:=λh=>(by rw[c5 h,cd2 a0]);have g9:∀h:i<a7.size,(a7[i]'h).toNat=48+cd y:=λh=>(by rw[b6 h,cd2 R]);obtain⟨p,f6⟩:=ay (cd x);obtain⟨q,f7⟩:=ay (cd y);rw[f6] at z a0 g8;rw[f7] at z R g9;have t:((i+1:Nat):Int)-1=(i:Int):=O;rw[t,hr];have i6:(0:Int)<=i:=O;have i4:(i:Int)<n:=O;have hi128:(i:Int)<128:=O;have i1:i<128:=O;have b4:=l.o.cell i;have e5:=l.o.frozen i;have d7:=λu=>l.o.put i u;have e7:∀d:cj,(uv n (i+1) I).setIfInBounds i (bv d)=uv n i (d::I):=λd=>by unfold uv;rw[List.setIfInBounds_toArray,<-List.map_set];congr 2;rw[List.replicate_succ',er,er,nj _ _ (by rw[iE];exact aU),iE,fh];simp
  have e4:(uv n (i+1) I)[i]? =some (.int .u8 0):=by unfold uv;rw[mF,jX,er,List.getElem?_append_left (by rw[iE];omega),List.getElem?_replicate,Vag O];rfl
  rw[e4] at b4;have a8:=J (λd:cj=>(by rw[<-e7 d];exact d7 (bv d):Bk (wr.setCell (w,i) (bv d)) w 397 (uv n i (d::I))));have f2:=J (λu:aI=>hb.o.setCell (p:=⟨w,i,none⟩) aU u);unfold bv at a8;obtain⟨D,f9⟩:=ay (p+q+b5);rw[f9] at z;have d3:((UInt8.ofNat (48+D % 2)).toNat:Int)=((48+D % 2:Nat):Int):=fj;have g4:=J (show Bk (wr.setCell (w,i) (.int .u8 ((48+D % 2:Nat):Int))) w 397 (uv n i (sm (a.drop i) (b.drop i) c).1) by have:=a8.o (UInt8.ofNat (48+D % 2));rw[d3] at this;rw[z];exact this);have h5:=J (show(((sm (a.drop i) (b.drop i) c).2:Nat):Int)=((D/2:Nat):Int) by rw[z]);have i5:Go.bits .and .u8 0 1=0:=aY;have b1:Go.bits .and .u8 1 1=1:=aY;have d9:Go.bits .and .u8 2 1=0:=aY;have b3:Go.bits .and .u8 3 1=1:=aY;clear a8 d3;clear c6 c4 z c5 b6 B c3 hr f6 f7 t d7 e7 e4 l hb d2 d1 c9 a9 Q S;have b9:(p=0\/p=1)/\(q=0\/q=1)/\(b5=0\/b5=1):=O;obtain⟨h1,g,h6⟩:=b9;clear a6 a0 R;rcases h1 with rfl|rfl<;>rcases g with rfl|rfl<;>rcases h6 with rfl|rfl
  all_goals
   go_wp2;go_quiet (fail);have j0:(wr.drewN nq).cell? (w,i)=some (.int .u8 0):=b4;have i0:(wr.drewN nq).frozen? (w,i)=false:=e5;have g5:Hid (Bk ((wr.drewN nq).setCell (w,i) (.int .u8 ((48+D % 2:Nat):Int))) w 397 (uv n i (sm (a.drop i) (b.drop i) c).1)):=J g4.o;have h4:Hid (∀u:aI,Below w w ((wr.drewN nq).setCell (w,i) u)):=J (λu=>mN (f2.o u) nq);clear b4 e5 g4 f2;generalize wr.drewN nq=W at*;subst f9;go_wp2;refine⟨⟨i,O,ci,by rw[h5.o];rfl,J (by exact g5.o),J (h4.o _)⟩,?_⟩;simp[intOf]<;>omega
 |zero=>
  have t:((0:Nat):Int)-1= -1:=rfl;rw[t];simp only[Ch] at l⊢;have g1:=d4.o;have e8:∀j (F:j<(sm a b c).1.length),wr.cell? (w,0+j)=some (.int .u8 (((sm a b c).1[j]).toNat:Int)):=λj F=>by rw[jK,l.o.cell j];unfold uv;rw[mF,jX,List.replicate_zero,pU,List.getElem?_append_left F,fb F];rfl
  have b7:=run_convert_bytes_back (P:=prog) wr 88 9 5 ⟨w,0,none⟩ 128 (sm a b c).1 underlying88 underlying5 underlying9 (λj F=>by rw[Go.WideShapes.add_plain];exact e8 j F);rw[g1] at b7;have e6:(⟨((sm a b c).1).toArray⟩:aT)=bs (sm a b c).1:=rfl;rw[e6] at b7;obtain⟨i2,b8⟩:=ay (bs (sm a b c).1);rw[b8] at b7;have a5:=J b8;have i9:(0:Int)<=n:=O;have i7:(n:Int)<=128:=O;generalize (sm a b c).2=c2 at*;clear g1 e8 e6 b8 l d2 d1 c9 a9 Q S d4 t;have f8:=Zc9 wr w n O;have f3:(E.size:Int)=n:=(by rw[a4.o]);exact Al
theorem Zhn (a b:ax) (F:a.length<=1099511627776) (hb:b.length<=1099511627776) (w:aq):
  Calls prog 274 #[bs a,bs b] w (bM w (.tuple #[bs (qc a b).1,.bool (qc a b).2])):=by
 have Ha:=J (Bj a F w);have q:=J (λW=>Bj b hb W);have k:(bs a).size=a:=Z0 a;have l:(bs b).size=b:=Z0 b;have p:bs ([]:ax)=⟨#[]⟩:=rfl;unfold qc;cases B:jM a;exact kN;cases D:jM b;exact Nr;rw[B] at Ha;rw[D] at q;by_cases t:a=b.length;.have j:=J (λW=>I_ a b 0 O B D t W);rw[Vag ⟨rfl,rfl,t⟩];have e2:(((bs a).size:Int) !=((bs b).size:Int))=false:=Fa;have d:=j;simp only;generalize bs (sm a b 0).1=SR at*;clear k l p B D t d;generalize bs a=g at*;generalize bs b=y at*;go_in;go_wp21;refine aP Ha.o λw1 z=>?_;go_wp21;refine aP (q.o _) λw2 aa=>?_;have u:=z.trans (aa.mono z.size);clear z aa;go_wp21;refine aP (j.o _) λI E=>?_;have G:=u.trans (E.mono u.size);clear u E;go_wp2;go_returns;exact⟨rfl,G⟩
 exact Nk
theorem Zej {v:ax} (h:jM v=true):jM (qW v)=true/\(qW v)=v.length:=by obtain⟨a1,a2,a3⟩:=YA.1 h;have g:(qW v)=v.length:=(by unfold qW;rw[c']);refine⟨YA.2 ⟨λc j=> ?_,λe=> ?_,O⟩,g⟩;unfold qW at j;obtain⟨d,hd,rfl⟩:=iX.1 j;have:=a1 d hd;rw[Vag this,HI _ O];omega;rw[e] at g;exact a2 (ia g.symm)
theorem Zho (a b:ax) (F:a.length<=1099511627776) (hb:b.length<=1099511627776) (w:aq):
  Calls prog 320 #[bs a,bs b] w (bM w (.tuple #[bs (vp a b).1,.bool (vp a b).2])):=by
 have Ha:=J (Bj a F w);have q:=J (λW=>Bj b hb W);have k:(bs a).size=a:=Z0 a;have l:(bs b).size=b:=Z0 b;have p:bs ([]:ax)=⟨#[]⟩:=rfl;unfold vp;cases B:jM a;exact kN;cases D:jM b;exact Nr;rw[B] at Ha;rw[D] at q;by_cases t:a=b.length;.obtain⟨k1,k2⟩:=Zej B;have G:=J (λW=>I_ b (qW a) 1 O D k1 O W);have j:=J (λW=>Zht a F W);rw[Vag (He B)] at j;rw[Vag ⟨rfl,rfl,t⟩];have e2:(((bs a).size:Int) !=((bs b).size:Int))=false:=Fa;simp only;generalize bs (sm b (qW a) 1).1=SR at*;generalize bs (qW a)=SI at*;clear k l p B D t k1 k2;generalize bs a=g at*;generalize bs b=y at*;go_in;go_wp21;refine aP Ha.o λw1 z=>?_;go_wp21;refine aP (q.o _) λw2 aa=>?_;have u:=z.trans (aa.mono z.size);clear z aa;go_wp21;refine aP (j.o _) λL E=>?_;have d:=u.trans (E.mono u.size);clear u E;go_wp21;refine aP (G.o _) λM an=>?_;have I:=d.trans (an.mono d.size);clear d an;go_wp2;go_returns;exact⟨rfl,I⟩
 exact Nk
theorem DH (a b:cj):((a.toNat:Int)==b.toNat)=decide (a=b):=by rw[lN,beq_iff_eq,fq];exact⟨λh=>UInt8.toNat_inj.1 O,λh=>rp⟩
theorem Sa (v:ax) (d2:v.length<=1099511627776) (w:aq):
  Calls prog 176 #[bs v] w (bM w (bs (fw v))):=by
 have g:=J (xz v d2 w);have a2:bs ([]:ax)=⟨#[]⟩:=rfl;unfold fw;cases h:fs v;rw[h] at g;rw[aD (by simp),a2];clear a2;exact Ey;rw[h] at g;rw[Vag rfl];obtain⟨h1,b3,d1⟩:=Zp.1 h;have a6:=J b3;clear a2 h h1 b3;go_in;go_wp21;refine aP g.o λw1 z=>?_;have a9:=J z;clear z g;go_wp2
 go_loopw [0] (λa3 wr=>∃u:ax,a3=.string (bs u)/\Hid (rO u=rO v)/\Hid (u≠[])/\u.length<=128/\Hid (Below w w wr)) (λa3 _=>match a3 with
  |.string s=>s.size
  |_=>0)
 exact⟨v,rfl,J rfl,a6,d1,a9⟩;clear a9 a6;obtain⟨u,rfl,a0,a7,R,hb⟩:=hrel;have E:(bs u).size=u:=Z0 u;have t:=AM (bs u) 1;rw[Zm] at t;go_upto_region 3 with fail;go_cut [30] (λa4 wx=>∃q:Bool,a4=.bool q/\Hid ((q=true/\∃a b r,u=a::b::r/\a=fr b)\/(q=false/\rO u=u))/\∃k,wx=wr.drewN k)
 case first=>
  clear t a0 hb;match u,a7.o with
  |[c],_=>have h0:decide ((1:Int)<((bs [c]).size:Int))=false:=(by rw[E];rfl);have h1:¬(1:Int)<((bs [c]).size:Int):=(by rw[E];simp);generalize bs [c]=S at*;clear E;go_quiet (fail);go_wp2;go_meet;case rel=>exact⟨false,rfl,J (.inr ⟨rfl,rfl⟩),_,rfl⟩
  |a::b::r,_=>
   have G:(bs (a::b::r)).size=r.length+2:=(by rw[E];rfl);have c7:∀Q:0<(bs (a::b::r)).size,((bs (a::b::r))[0]'Q).toNat=a.toNat:=λQ=>(by rw[XQ _ 0 (by simp)];rfl);have c8:∀Q:1<(bs (a::b::r)).size,((bs (a::b::r))[1]'Q).toNat=b.toNat:=λQ=>(by rw[XQ _ 1 (by simp)];rfl);have a8:(1:Int)<((bs (a::b::r)).size:Int):=(by rw[G];omega);have d7:decide ((1:Int)<((bs (a::b::r)).size:Int))=true:=dd a8;have d6:0<(bs (a::b::r)).size:=O;have d8:1<(bs (a::b::r)).size:=O;have y:=DH a b;have l:=DH a 49;have p:=DH a 48;have D:=DH b 49;have b9:(((49:cj).toNat:Nat):Int)=49:=rfl;have c4:(((48:cj).toNat:Nat):Int)=48:=rfl;rw[b9] at l D;rw[c4] at p;have L:((a.toNat:Int) !=49)= !decide (a=49):=(by rw[bne,l]);have b0:fr b=if b=49 then 48 else b:=rfl;have c5:=Ks a b r;have j:=J b0;have I:=J c5;obtain⟨A,b4⟩:=ay a.toNat;obtain⟨B,b5⟩:=ay b.toNat;rw[b4] at c7 y l p L;rw[b5] at c8 y D;generalize bs (a::b::r)=S at*;clear E G b9 c4 b0 c5 b4 b5 R;by_cases c1:a=b
   .rw[dd c1] at y;by_cases c2:a=49;.rw[dd c2] at l L;have d:¬a=48:=(by rw[c2];decide);rw[cI d] at p;have F:Hid (rO (a::b::r)=a::b::r):=J (by rw[I.o,aD];rw[j.o,<-c1,Vag c2,c2];decide);clear c1 c2 d j I l D;go_quiet (fail);go_wp2;go_meet;case rel=>exact⟨false,by simp[y,L,p],J (.inr ⟨rfl,F.o⟩),_,rfl⟩
    rw[cI c2] at l L;have a1:Hid (a=fr b):=J (by rw[j.o,<-c1,aD c2]);clear c1 c2 j I l D p;go_quiet (fail);go_wp2;go_meet;case rel=>exact⟨true,by simp[y,L],J (.inl ⟨rfl,a,b,r,rfl,a1.o⟩),_,rfl⟩
   rw[cI c1] at y;by_cases c2:a=48
   .rw[dd c2] at p;by_cases d:b=49;.rw[dd d] at D;have a1:Hid (a=fr b):=J (by rw[j.o,Vag d,c2]);clear c1 c2 d j I l L;go_quiet (fail);go_wp2;go_meet;case rel=>exact⟨true,by simp[y,p,D],J (.inl ⟨rfl,a,b,r,rfl,a1.o⟩),_,rfl⟩
    rw[cI d] at D;have F:Hid (rO (a::b::r)=a::b::r):=J (by rw[I.o,aD];rw[j.o,aD d];exact c1);clear c1 c2 d j I l L;go_quiet (fail);go_wp2;go_meet;case rel=>exact⟨false,by simp[y,p,D],J (.inr ⟨rfl,F.o⟩),_,rfl⟩
   rw[cI c2] at p;have F:Hid (rO (a::b::r)=a::b::r):=J (by rw[I.o,aD];rw[j.o];by_cases d:b=49;rw[Vag d];exact c2;rw[aD d];exact c1);clear c1 c2 j I l L D;go_quiet (fail);go_wp2;go_meet;case rel=>exact⟨false,by simp[y,p],J (.inr ⟨rfl,F.o⟩),_,rfl⟩
 obtain⟨q,rfl,a5,k,rfl⟩:=hcut;have b2:=J (mN hb.o k);rcases a5.o with ⟨rfl,a,b,r,M,b6⟩|⟨rfl,F⟩;.have d4:Hid (rO (b::r)=rO v):=J (by rw[<-a0.o,M,Ks,Vag b6]);have b1:u.drop 1=b::r:=(by rw[M];rfl);rw[b1] at t;have a8:(1:Int)<=((bs u).size:Int):=(by rw[E,M];exact fj);have b7:1<=(bs u).size:=O;have c6:(b::r).length<=128:=(by rw[M] at R;simp at R⊢;omega);have b8:(bs (b::r)).size<u:=(by rw[Z0,M];simp);have d5:=J b8;clear b8;have d3:Hid (b::r≠[]):=J (by simp);clear a5 M b6 b1 a0 a7 hb E R;generalize bs u=S at*;go_wp2;refine⟨⟨b::r,rfl,d4,d3,c6,b2⟩,?_⟩;show(bs (b::r)).size<(bs u).size;rw[Z0 u];exact d5.o
 have c9:Hid (bs u=bs (rO v)):=J (by rw[<-a0.o,F]);clear a5 F t E;go_wp2;go_returns;exact⟨by rw[<-c9.o];rfl,b2.o⟩
theorem i_ (c:cj):∀n,Lib.repeatL [c] n=List.replicate n c
 |0=>rfl
 |n+1=>by rw[Lib.repeatL,i_ c n,pP];rfl
theorem g_ (c:cj) (n:Nat) (g:n<=1099511627776) (W:aq):
  cK 72 #[.string ⟨#[c]⟩,n] W (bM W (bs (List.replicate n c))):=by have h:=Tryz.strings_Repeat ⟨#[c]⟩ n W O (by rw[show(⟨#[c]⟩:aT).size=1 from rfl];omega);refine h.mono ?_;rintro x w1 ⟨rfl,d⟩;refine⟨?_,d⟩;rw[<-i_];rfl
theorem GH (n:Int) (c:cj) (w:aq):
  Calls prog 40 #[n,.int .u8 (c.toNat:Int)] w (bM w (bs (mr n c))):=by
 have d:=J (λW=>Zcn c W);have g:bs ([]:ax)=⟨#[]⟩:=rfl;unfold mr;by_cases h1:n<1;rw[Vag (.inl h1),g];clear g d;exact Jj;by_cases y:128<n;rw[Vag (.inr (.inl y)),g];clear g d;exact Jj;cases j:nP c;.rw[Vag (.inr (.inr rfl)),g];rw[j] at d;clear g j;generalize (c.toNat:Int)=C at*;go_in;go_wp21;refine cp (d.o _) ?_;go_wp2;go_returns;exact⟨rfl,bf _ _⟩
 rw[aD (by simp[h1,y])];rw[j] at d;have t:=Z9E (P:=prog) 88 9 5 underlying88 underlying5 underlying9 w (c.toNat:Int);have q:UInt8.ofNat (c.toNat:Int).toNat=c:=(by simp);rw[q] at t;obtain⟨m,rfl⟩:∃m:Nat,n=m:=⟨n.toNat,O⟩;rw[ep];have l:=J (λW=>g_ c m O W);have p:=ZD w (.cells #[.int .u8 (c.toNat:Int)] 5);have k:=J p;clear g j q p;generalize (c.toNat:Int)=C at*;generalize bs (List.replicate m c)=SR at*;go_in;go_wp21;refine cp (d.o _) ?_;go_wp21;refine aP (l.o _) λw1 hb=>?_;have u:=k.o.trans (hb.mono k.o.size);clear hb k d l t;exact ES
theorem Zme (n:Int) (v:ax) (R:v.length<=1099511627776) (w:aq):
  Calls prog 221 #[n,bs v] w (bM w (.tuple #[bs (ext n v).1,((ext n v).2:Int)])):=by
 have p:bs ([]:ax)=⟨#[]⟩:=rfl;have G:(bs v).size=v:=Z0 v;have g:=J (J4 v R w);unfold ext;by_cases h1:n<1;rw[Vag (.inl h1)];exact Ov;by_cases b0:128<n;rw[Vag (.inr b0)];exact Ov;rw[aD O];obtain⟨m,rfl⟩:∃m:Nat,n=m:=⟨n.toNat,O⟩;match v,R with
 |[],_=>have M:=YU [];rw[dd rfl] at M;simp only[p] at*;unfold pD at g;generalize (cn 0 []:Int)=k at*;generalize (cn 1 []:Int)=n1 at*;generalize (cn 2 []:Int)=n2 at*;generalize (cn 3 []:Int)=n3 at*;clear G;go_in;go_wp21;refine aP g.o λw1 z=>?_;have q:=J (z.alloc z.size (.cells #[k,n1,n2,n3] 260));clear z;go_wp2;go_returns;exact⟨rfl,q.o⟩
 |c::t,R=>
  have M:=YU (c::t);rw[cI (by simp)] at M;obtain⟨s1,a1,b3,b4⟩:=L2 (c::t);have a5:decide ((cn 0 (c::t):Int)+(cn 1 (c::t):Int)+(cn 2 (c::t):Int)+(cn 3 (c::t):Int)=((bs (c::t)).size:Int))=(c::t).all nP:=by rw[lN,fq,uI,G];constructor;intro h x a0;have:=a1.1 O x a0;unfold nP;rw[fq];exact this;intro h;have:=a1.2 (λx a0=>by have:=h x a0;unfold nP at this;simpa using this);omega
  have E:cn 0 (c::t)<=1099511627776/\cn 1 (c::t)<=1099511627776/\cn 2 (c::t)<=1099511627776/\cn 3 (c::t)<=1099511627776:=O;have a7:((cn 0 (c::t):Int)+(cn 1 (c::t):Int)+(cn 2 (c::t):Int)+(cn 3 (c::t):Int) !=((bs (c::t)).size:Int))= !((c::t).all nP):=by rw[<-a5,bne,Bool.not_eq_eq_eq_not,Bool.not_not,lN,beq_iff_eq,fq]
  obtain⟨b9,c3,l2,c4⟩:=E;unfold pD at g;generalize cn 0 (c::t)=k at*;generalize cn 1 (c::t)=n1 at*;generalize cn 2 (c::t)=n2 at*;generalize cn 3 (c::t)=n3 at*;clear s1 a1 b3 b4 a5;simp only;cases Q:(c::t).all nP;rw[Vag rfl];rw[Q] at a7;exact kC;rw[aD (by simp)];rw[Q] at a7;by_cases ab:(m:Int)<((c::t).length:Int);rw[Vag ab];rw[<-G] at ab;exact kC;rw[aD ab];have a9:(m:Int)-((bs (c::t)).size:Int)=((m-(c::t).length:Nat):Int):=(by rw[G];omega);have b7:¬(m:Int)<((bs (c::t)).size:Int):=(by rw[G];exact ab);have b6:0<(bs (c::t)).size:=(by rw[G];simp);have a8:∀h:0<(bs (c::t)).size,((bs (c::t))[0]'h).toNat=c.toNat:=λh=>(by rw[XQ _ 0 (by simp)];rfl);have a6:bs (List.replicate (m-(c::t).length) (fr c))++bs (c::t)=bs (List.replicate (m-(c::t).length) (fr c)++(c::t)):=Z9 _ _;have a2:=J a6;obtain⟨d,hd⟩:=ay (m-(c::t).length);have c5:d<=128:=O;have b8:(m:Int)<=128:=O;simp only[ep];rw[hd] at a9 a2⊢;have I:=J (λW=>g_ (fr c) d O W);have b2:Hid ((bs (List.replicate d (fr c))).size+(bs (c::t)).size<=128):=J (by rw[Z0,Z0,iE];omega);have a3:UInt8.ofNat ((fr c).toNat:Int).toNat=fr c:=(by simp);have y:=λW=>Z9E (P:=prog) 88 9 5 underlying88 underlying5 underlying9 W ((fr c).toNat:Int);rw[a3] at y;have B:((fr c).toNat:Int)=if c=49 then 48 else(c.toNat:Int):=by unfold fr;by_cases h:c=49;rw[Vag h,Vag h];rfl;rw[aD h,aD h]
  have L:=DH c 49;rw[show(((49:cj).toNat:Nat):Int)=49 from rfl] at L;rw[<-a2.o];obtain⟨A,a4⟩:=ay c.toNat;rw[a4] at a8 B L;obtain⟨F,hF⟩:=ay (((fr c).toNat:Int));rw[hF] at B y;generalize bs (List.replicate d (fr c))=SR at*;generalize fr c=f at*;clear a2 hd G p a6 Q a3 a4 hF ab;generalize bs (c::t)=S at*;have b1:SR.size+S.size<=128:=b2.o;by_cases l:c=49;.rw[Vag l] at B;rw[dd l] at L;subst B;clear l;go_in;go_wp21;refine aP g.o λw1 z=>?_;have q:=J (z.alloc z.size (.cells #[k,n1,n2,n3] 260));have j:=J (q.o.alloc q.o.size (.cells #[.int .u8 48] 5));have D:=y (w1.alloc (.cells #[k,n1,n2,n3] 260));rw[World.size_alloc] at D;clear z y q;go_wp21;refine aP (I.o _) λb5 aa=>?_;have u:=j.o.trans (aa.mono j.o.size);clear aa j I D g;exact ES
  rw[aD l] at B;rw[cI l] at L;subst B;clear l;go_in;go_wp21;refine aP g.o λw1 z=>?_;have q:=J (z.alloc z.size (.cells #[k,n1,n2,n3] 260));have j:=J (q.o.alloc q.o.size (.cells #[.int .u8 (A:Int)] 5));have D:=y (w1.alloc (.cells #[k,n1,n2,n3] 260));rw[World.size_alloc] at D;clear z y q;go_wp21;refine aP (I.o _) λb5 aa=>?_;have u:=j.o.trans (aa.mono j.o.size);clear aa j I D g;go_wp2;go_returns;exact⟨rfl,u⟩
theorem Zkp {p q:Nat} (d:p<4) (g:q<4):Go.bits .xor .i64 (p:Int) (q:Int)=((p ^^^ q:Nat):Int):=by rcases(show p=0\/p=1\/p=2\/p=3 by omega) with rfl|rfl|rfl|rfl<;>rcases(show q=0\/q=1\/q=2\/q=3 by omega) with rfl|rfl|rfl|rfl<;>decide
theorem L0 {c:cj} (h:cd c<4):pC c=(cd c:Int):=by unfold pC;rw[Vag h]
def tH (a b:ax) (i:Nat):ax:=List.zipWith mx (a.take i) (b.take i)++List.replicate (a.length-i) 0
theorem ZmQ (a b:ax) (d:a=b.length) (i:Nat) (hi:i<=a):(tH a b i)=a.length:=by unfold tH;rw[bV,Ah,ek,ek,iE];omega
theorem ZmR (a b:ax) (j:a=b.length) (i:Nat) (d:i<a) (hb:i<b):(tH a b i).set i (mx a[i] b[i])=tH a b (i+1):=by
 have g:(List.zipWith mx (a.take i) (b.take i))=i:=by rw[Ah,ek,ek];omega
 unfold tH
 rw[nj _ _ O,g,fh,dK d,dK hb,
  List.zipWith_append (by rw[ek,ek];omega),show a.length-i=(a.length-(i+1))+1 by omega,pP,List.set_cons_zero];simp
theorem Zhx (a b:ax) (f2:a.length<=1099511627776) (e6:b.length<=1099511627776) (w:aq):
  Calls prog 275 #[bs a,bs b] w (bM w (.tuple #[bs (jp a b).1,((jp a b).2:Int)])):=by
 have Ha:=J (xz a f2 w);have q:=J (λW=>xz b e6 W);have k:(bs a).size=a:=Z0 a;have l:(bs b).size=b:=Z0 b;have a6:bs ([]:ax)=⟨#[]⟩:=rfl;unfold jp;cases a8:fs a;rw[a8] at Ha;rw[Vag (.inl rfl)];simp only[a6];clear k l a6;generalize bs a=g at*;generalize bs b=y at*;exact Ff;cases a9:fs b;rw[a8] at Ha;rw[a9] at q;rw[Vag (.inr rfl)];simp only[a6];clear k l a6;exact YT;rw[a8] at Ha;rw[a9] at q;rw[aD (by simp)];by_cases t:a=b.length
 .rw[aD (by simp[t])];simp only;have c6:(((bs a).size:Int) !=((bs b).size:Int))=false:=Fa;obtain⟨a1,a2,a3⟩:=Zp.1 a8;obtain⟨b1,g8,b3⟩:=Zp.1 a9;have b8:Hid (∀(i:Nat) (h:i<a.length) (d:i<(bs a).size),(bs a)[i]'d=a[i]'h):=J (λi h d=>XQ a i h d);have c3:Hid (∀(i:Nat) (h:i<b.length) (d:i<(bs b).size),(bs b)[i]'d=b[i]'h):=J (λi h d=>XQ b i h d);obtain⟨n,F⟩:=ay a.length;have d8:b=n:=O;have d2:=λW=>Y5 (P:=prog) 88 5 (.int .u8 0) 1 underlying88 qD rfl ((bs a).size:Int) n (by rw[k,F]) O O W;have e5:(Array.replicate n (.int .u8 0:aI))=((tH a b 0).map bv).toArray:=by unfold tH;exact PS
  obtain⟨b4,b0,c7⟩:=bD e5 (λi (hi:i<=n)=>(show(tH a b i).length=n by rw[ZmQ a b t i O,F])) (λi (h1:i<a.length) (d:i<b.length)=>ZmR a b t i h1 d);have b6:Hid (tH a b n=List.zipWith mx a b):=J (by unfold tH;exact Pr);obtain⟨e2,c8,I,g6⟩:=dc a1 b1 F d8;rw[F] at k;rw[d8] at l;obtain⟨g,f9⟩:=ay (bs a);obtain⟨y,g0⟩:=ay (bs b);rw[f9] at k c6 d2 b8 Ha⊢;rw[g0] at l c6 c3 q⊢;rw[F] at a3;have h3:=J k;have g5:=J l;clear e5 a1 b1 F d8 f9 g0 k l f2 e6 a2 g8 b3 a6 a8 a9 t;go_in;go_wp21;refine aP Ha.o λw1 z=>?_;go_wp21;refine aP (q.o _) λw2 aa=>?_;have u:=z.trans (aa.mono z.size);have f8:=d2 w2;have d1:=Bk.new w2 5 (Array.replicate n (.int .u8 0));rw[b4.o] at d1;have R:=J d1;have a4:=J (u.alloc u.size (.cells (Array.replicate n (.int .u8 0)) 5));have f3:=u.size;obtain⟨G,e3⟩:=ay w2.heap.size;rw[e3] at f8 f3 R;rw[<-b4.o] at R;generalize w2.alloc (.cells (Array.replicate n (.int .u8 0)) 5)=W0 at*;clear d2 Ha q z aa u d1 e3;rw[b4.o] at R;go_wp2;go_loopw [26] (λe1 wr=>∃i:Nat,i<=n/\e1=(i:Int)/\Hid (Bk wr G 5 ((tH a b i).map bv).toArray)/\Hid (Below w w wr)) (λe1 _=>(n-intOf e1).toNat);exact Cq;clear R a4 f8 b4;obtain⟨i,hi,rfl,a7,hb⟩:=hrel;by_cases ab:i<n
  .have d7:i<a.length:=xh;have d5:i<b.length:=(by rw[g6.o];exact ab);have f7:=b8.o i d7;have e7:=c3.o i d5;have c4:=e2.o a[i] (dt _);have b9:=c8.o b[i] (dt _);have f5:=c7.o i d7 d5;have b7:=b0.o i hi;have b5:=a7.o.put i (bv (mx a[i] b[i]));rw[List.setIfInBounds_toArray,<-List.map_set,f5] at b5;have c9:=a7.o.cell i;rw[mF,jX,fb O] at c9;have g9:=a7.o.frozen i;obtain⟨i0,L⟩:∃o,(Option.map bv (some (tH a b i)[i]))=some o:=⟨_,rfl⟩;rw[L] at c9;obtain⟨c5,d6,d9⟩:=bD (λW=>Qc a[i] W) (λW=>Qc b[i] W) (λW=>KB (cd a[i] ^^^ cd b[i]) (Mw _ c4 _ b9).1 W);rw[L0 c4] at c5;rw[L0 b9] at d6;have f6:=Zkp c4 b9;have e4:mx a[i] b[i]=ch (cd a[i] ^^^ cd b[i]):=rfl;rw[e4] at b5;have a0:=J b5;have S:=J (hb.o.setCell (p:=⟨G,i,none⟩) f3 (bv (ch (cd a[i] ^^^ cd b[i]))));unfold bv at a0 S;have g1:∀h:i<g.size,((g[i]'h).toNat:Int)=(a[i].toNat:Int):=λh=>(by rw[f7 h]);have g2:∀h:i<y.size,((y[i]'h).toNat:Int)=(b[i].toNat:Int):=λh=>(by rw[e7 h]);have h0:i<g.size:=(by rw[h3.o];omega);have g4:i<y.size:=(by rw[g5.o];omega);obtain⟨Z,f4⟩:=ay (((ch (cd a[i] ^^^ cd b[i])).toNat:Int));rw[f4] at a0 S d9;clear b5 f5 b7 L e4 f7 e7 c4 b9 f4 a7 hb;generalize (cd a[i] ^^^ cd b[i])=M at*;generalize cd a[i]=P at*;generalize cd b[i]=Q at*;have h4:=g1 h0;have h8:=g2 g4;generalize (a[i].toNat:Int)=A at*;generalize (b[i].toNat:Int)=B at*;have i1:(0:Int)<=i:=O;have h9:(i:Int)<n:=O;clear g1 g2 d7 d5 c7 b0 b6 b8 c3 e2 c8;have h5:(i:Int)<g.size:=O;have h6:(i:Int)<y.size:=O;go_wp2
   go_region_with (first
    |(go_at_call 137;with_reducible refine(d9.o _).mono ?_;rintro r g3 ⟨rfl,rfl⟩)
    |(go_at_call 107;with_reducible refine(c5.o _).mono ?_;rintro r g3 ⟨rfl,rfl⟩)
    |(go_at_call 107;with_reducible refine(d6.o _).mono ?_;rintro r g3 ⟨rfl,rfl⟩))
   all_goals
    clear c9 g9 c5 d6 d9;go_wp2;go_roundw;exact OQ;simp[intOf]<;>omega
  have g7:i=n:=O;subst g7;have E:=a7.o;rw[b6.o] at E;have b7:(List.zipWith mx a b).length=i:=(by rw[<-b6.o];exact b0.o i aU);have d3:=run_convert_bytes_back (P:=prog) wr 88 9 5 ⟨G,0,none⟩ i (List.zipWith mx a b) underlying88 underlying5 underlying9 (λj D=>I1);rw[b7] at d3;have e8:(⟨(List.zipWith mx a b).toArray⟩:aT)=bs (List.zipWith mx a b):=rfl;rw[e8] at d3;obtain⟨h7,d4⟩:=ay (bs (List.zipWith mx a b));rw[d4] at d3;have a5:=J d4;clear E b7 e8 d4 a7 c7 b0 b6 b8 c3 e2 c8;exact Al
 rw[Vag t];have c6:(((bs a).size:Int) !=((bs b).size:Int))=true:=(by rw[k,l,kx];omega);simp only[a6];clear k l a6 a8 a9 t;exact YT
