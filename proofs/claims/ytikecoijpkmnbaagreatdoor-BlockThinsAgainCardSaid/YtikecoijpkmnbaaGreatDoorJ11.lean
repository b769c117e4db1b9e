import Derived.Test.YtikecoijpkmnbaaGreatDoorJ08
import Derived.Lib.Repeat
import Derived.StillTailTactics
set_option linter.all false
set_option maxRecDepth 100000
set_option maxHeartbeats 0
section
variable{P Q:Prop}
theorem mG(h:P:=by first|rfl|trivial):P:=h
theorem xh(h:P:=by rw[a0.o];exact ab):P:=h
theorem CB(h:P:=by rw[Vah,ek];omega):P:=h
theorem og(h:P:=by rw[a0.o];exact aU):P:=h
theorem Fa(h:P:=by rw[k,l,t];exact yx _):P:=h
theorem Cq(h:P:=by exact⟨0,cf _,rfl,R,a5⟩):P:=h
theorem W66(h:P:=by go_wp2;go_returns;exact⟨rfl,E⟩):P:=h
theorem ES(h:P:=by go_wp2;go_returns;exact⟨rfl,u⟩):P:=h
theorem I'{P:Prop}(h:P:=by first|rfl|(congr 2;rw[lN];simp)):P:=h
theorem Jj(h:P:=by go_in;go_wp2;go_returns;exact⟨rfl,bf _ _⟩):P:=h
theorem Al(h:P:=by go_wp2;go_returns;exact⟨by rw[a6.o];rfl,hb.o⟩):P:=h
theorem PI(h:P:=by have:=grownCap_ge w (bs v).size 0 5;rw[t] at this;omega):P:=h
theorem PB(h:P:=by rw[Nd (by omega)];simp only[l,fh];rw[Iz];simpa using g):P:=h
theorem I1(h:P:=by rw[Go.WideShapes.add_plain,jK,I.cell j,mF,jX,fb D];rfl):P:=h
theorem EJ(h:P:=by subst g;go_wp2;go_returns;exact⟨by first|rfl|(rw[t];rfl),rfl⟩):P:=h
theorem Pu(h:P:=by rw[nj _ _ (by omega),l,fh,k,List.set_cons_zero,G,jy];simp):P:=h
theorem Pp(h:P:=by go_in;go_wp21;refine cp H.o ?_;go_wp2;go_returns;exact⟨rfl,rfl⟩):P:=h
theorem Pq(h:P:=by generalize bs v=S at*;go_in;go_wp2;go_returns;exact⟨rfl,bf _ _⟩):P:=h
theorem Pr(h:P:=by rw[d' (by omega),d' (by omega),F,fh,List.replicate_zero,fg]):P:=h
theorem P3(h:P:=by have:=(u.cell j D).1;rw[Go.WideShapes.add_plain,jK];exact this):P:=h
theorem Ff(h:P:=by go_in;go_wp21;refine aP Ha.o λw1 E=>?_;go_wp2;go_returns;exact⟨rfl,E⟩):P:=h
theorem PS(h:P:=by rw[qA,List.zipWith_nil_left,pU,Nat.sub_zero,List.map_replicate,F];rfl):P:=h
theorem Pk(h:P:=by have a3:=J (y.o.trans (aa.mono y.o.size));go_wp2;go_returns;exact⟨rfl,a3.o⟩):P:=h
theorem W1I(h:P:=by simp only[p];clear p G g;generalize bs v=S at*;go_in;go_wp2;go_returns;exact⟨rfl,bf _ _⟩):P:=h
theorem Ey(h:P:=by generalize bs v=S at*;go_in;go_wp21;refine aP g.o λw1 E=>?_;go_wp2;go_returns;exact⟨rfl,E⟩):P:=h
theorem OQ(h:P:=by first|exact⟨i+1,ab,by go_num,J (a4.o.drew),J (S.o.drew)⟩|((repeat apply Exists.intro);exact⟨⟨i+1,ab,by go_num,J (a4.o.drew),J (S.o.drew)⟩,rfl⟩)):P:=h
theorem kN(h:P:=by rw[B] at Ha;rw[Vae (by simp)];simp only[p];clear k l p;generalize bs a=g at*;generalize bs b=y at*;go_in;go_wp21;refine aP Ha.o λw1 E=>?_;go_wp2;go_returns;exact⟨rfl,E⟩):P:=h
theorem W6E(h:P:=by simp only[p];clear G;generalize bs (c::t)=S at*;go_in;go_wp21;refine aP g.o λw1 E=>?_;have q:=J (E.alloc E.size (.cells #[k,n1,n2,n3] 227));clear E;go_wp2;go_returns;exact⟨rfl,q.o⟩):P:=h
theorem YT(h:P:=by generalize bs a=g at*;generalize bs b=y at*;go_in;go_wp21;refine aP Ha.o λw1 E=>?_;go_wp21;refine aP (q.o _) λw2 aa=>?_;have u:=E.trans (aa.mono E.size);go_wp2;go_returns;exact⟨rfl,u⟩):P:=h
theorem Nr(h:P:=by rw[B] at Ha;rw[D] at q;rw[Vae (by simp)];simp only[p];clear k l p;generalize bs a=g at*;generalize bs b=y at*;go_in;go_wp21;refine aP Ha.o λw1 E=>?_;go_wp21;refine aP (q.o _) λw2 aa=>?_;have u:=E.trans (aa.mono E.size);go_wp2;go_returns;exact⟨rfl,u⟩):P:=h
theorem Nk(h:P:=by rw[Vae (λh=>t h.2.2)];have e2:(((bs a).size:Int) !=((bs b).size:Int))=true:=(by rw[k,l,kx];omega);simp only[p];clear k l p B D t;generalize bs a=g at*;generalize bs b=y at*;go_in;go_wp21;refine aP Ha.o λw1 E=>?_;go_wp21;refine aP (q.o _) λw2 aa=>?_;have u:=E.trans (aa.mono E.size);go_wp2;go_returns;exact⟨rfl,u⟩):P:=h
end
namespace Go.Proofs.Y
open Tryz Wv Go.RowKit
def pC (c:cj):Int:=if cd c<4 then(cd c:Int) else-1
theorem ZcZ:(∀h:0<(⟨#[48,49,120,122]⟩:aT).size,((⟨#[48,49,120,122]⟩:aT)[0]'h).toNat=48)/\(∀h:1<(⟨#[48,49,120,122]⟩:aT).size,((⟨#[48,49,120,122]⟩:aT)[1]'h).toNat=49)/\
  (∀h:2<(⟨#[48,49,120,122]⟩:aT).size,((⟨#[48,49,120,122]⟩:aT)[2]'h).toNat=120)/\(∀h:3<(⟨#[48,49,120,122]⟩:aT).size,((⟨#[48,49,120,122]⟩:aT)[3]'h).toNat=122):=⟨λ_=>rfl,λ_=>rfl,λ_=>rfl,λ_=>rfl⟩
theorem ZoF {c:cj} :(c.toNat=48->pC c=0)/\(c.toNat=49->pC c=1)/\(c.toNat=120->pC c=2)/\(c.toNat=122->pC c=3)/\(c.toNat≠48->c.toNat≠49->c.toNat≠120->c.toNat≠122->pC c= -1):=by have e:∀k:cj,c.toNat=k.toNat->c=k:=λk h=>UInt8.toNat_inj.1 h;refine⟨λh=>by rw[e 48 h];rfl,λh=>by rw[e 49 h];rfl,λh=>by rw[e 120 h];rfl,λh=>by rw[e 122 h];rfl,λh0 h1 g l=> ?_⟩;rcases Gl c with ⟨rfl,h⟩|⟨rfl,h⟩|⟨rfl,h⟩|⟨rfl,h⟩|⟨_,_,_,_,h⟩;exact absurd rfl h0;exact absurd rfl h1;exact absurd rfl g;exact absurd rfl l;unfold pC;rw[h];rfl
theorem Qc (c:cj) (w:aq):Calls prog 98 #[.int .u8 (c.toNat:Int)] w λx w'=>x=.returned (pC c:Int)/\w=w':=by
 obtain⟨f0,f1,p,q,u⟩:=ZoF (c:=c);obtain⟨I,M,Q,S⟩:=ZcZ;obtain⟨R,t⟩:=ay (pC c);rw[t] at f0 f1 p q u⊢;obtain⟨C,z⟩:=ay c.toNat;rw[z] at f0 f1 p q u⊢;obtain⟨B,D,E,F,G⟩:=ii f0 f1 p q u;clear t z f0 f1 p q u;go_in;go_wp2;go_loopw [4] (λy wr=>∃i:Nat,i<=4/\y=i/\Hid ((0<i->C≠48)/\(1<i->C≠49)/\(2<i->C≠120)/\(3<i->C≠122))/\wr=w) (λy _=>(4-intOf y).toNat);exact⟨0,O,rfl,J ⟨λh=>O,λh=>O,λh=>O,λh=>O⟩,rfl⟩;obtain⟨i,hi,rfl,l,rfl⟩:=hrel;rcases(show i=0\/i=1\/i=2\/i=3\/i=4 by omega) with rfl|rfl|rfl|rfl|rfl;.by_cases g:C=48;have t:=B.o g;exact EJ;have hb:((48:Int)==C)=false:=rT;go_wp2;refine⟨⟨1,O,rfl,J ⟨λ_=>g,λh=>O,λh=>O,λh=>O⟩,mG⟩,?_⟩;simp[intOf]
 .by_cases g:C=49;have t:=D.o g;exact EJ;have hb:((49:Int)==C)=false:=rT;have k:=l.o;go_wp2;refine⟨⟨2,O,rfl,J ⟨λ_=>k.1 O,λ_=>g,λh=>O,λh=>O⟩,mG⟩,?_⟩;simp[intOf]
 .by_cases g:C=120;have t:=E.o g;exact EJ;have hb:((120:Int)==C)=false:=rT;have k:=l.o;go_wp2;refine⟨⟨3,O,rfl,J ⟨λ_=>k.1 O,λ_=>k.2.1 O,λ_=>g,λh=>O⟩,mG⟩,?_⟩;simp[intOf]
 .by_cases g:C=122;have t:=F.o g;exact EJ;have hb:((122:Int)==C)=false:=rT;have k:=l.o;go_wp2;refine⟨⟨4,O,rfl,J ⟨λ_=>k.1 O,λ_=>k.2.1 O,λ_=>k.2.2.1 O,λ_=>g⟩,mG⟩,?_⟩;simp[intOf]
 have k:=l.o;have t:=G.o (k.1 O) (k.2.1 O) (k.2.2.1 O) (k.2.2.2 O);go_wp2;go_returns;exact⟨by first|rfl|(rw[t];rfl),rfl⟩
theorem KB (n:Nat) (g:n<4) (w:aq):Calls prog 110 #[n] w λx w'=>x=.returned (.tuple #[.int .u8 ((ch n).toNat:Int),true])/\w=w':=by
 rcases(show n=0\/n=1\/n=2\/n=3 by omega) with rfl|rfl|rfl|rfl
 all_goals
  go_in;go_wp2;go_returns;exact⟨rfl,rfl⟩
def wt (c:cj):Nat:=if cd c<4 then cd c else 2
theorem ZoG (c:cj):wt c<4:=by unfold wt;split<;>omega
theorem Zer (c:cj) (w:aq):Calls prog 345 #[.int .u8 (c.toNat:Int)] w λx w'=>x=.returned (wt c)/\w=w':=by have H:=J (Qc c w);unfold pC wt at*;by_cases h:cd c<4;rw[Vag h] at H⊢;generalize (c.toNat:Int)=C at*;generalize cd c=k at*;have h0:(0:Int)<=k:=O;exact Pp;rw[Vae h] at H⊢;generalize (c.toNat:Int)=C at*;clear h;exact Pp
theorem Zcn (c:cj) (w:aq):Calls prog 64 #[.int .u8 (c.toNat:Int)] w λx w'=>x=.returned (nP c)/\w=w':=by
 have H:=J (Qc c w);have h:decide (0<=pC c)=nP c:=by unfold pC nP;by_cases h:cd c<4;rw[Vag h];simp[h];rw[Vae h];simp[h]
 generalize (c.toNat:Int)=C at*;generalize pC c=k at*;go_in;go_wp21;refine cp H.o ?_;go_wp2;go_returns;exact⟨by first|rfl|(rw[h]),rfl⟩
def invC (c:cj):cj:=ch (if wt c<2 then 1-wt c else wt c)
theorem ZjK (w:aq):(Instr.index 248 (.agg #[.int .u8 49,.int .u8 48,.int .u8 120,.int .u8 122]) (0:Int)).run prog w=.ok (.int .u8 49) w:=qD
theorem ZjL (w:aq):(Instr.index 248 (.agg #[.int .u8 49,.int .u8 48,.int .u8 120,.int .u8 122]) (1:Int)).run prog w=.ok (.int .u8 48) w:=qD
theorem ZjM (w:aq):(Instr.index 248 (.agg #[.int .u8 49,.int .u8 48,.int .u8 120,.int .u8 122]) (2:Int)).run prog w=.ok (.int .u8 120) w:=qD
theorem ZjN (w:aq):(Instr.index 248 (.agg #[.int .u8 49,.int .u8 48,.int .u8 120,.int .u8 122]) (3:Int)).run prog w=.ok (.int .u8 122) w:=qD
theorem Z8z (c:cj) (w:aq):Calls prog 338 #[.int .u8 (c.toNat:Int)] w λx w'=>x=.returned (.int .u8 ((invC c).toNat:Int))/\w=w':=by
 have H:=J (Zer c w);have g:=ZoG c;unfold invC;generalize (c.toNat:Int)=C at*;generalize wt c=k at*;have r0:=ZjK w;have l:=ZjL w;have p:=ZjM w;have q:=ZjN w;rcases(show k=0\/k=1\/k=2\/k=3 by omega) with rfl|rfl|rfl|rfl
 all_goals
  go_in;go_wp21;refine cp H.o ?_;go_wp2;go_returns;exact⟨rfl,rfl⟩
def cn (k:Nat) (v:ax):Nat:=(v.filter (λc=>cd c==k)).length
theorem WD (k:Nat) (v:ax) (c:cj):cn k (v++[c])=cn k v+if cd c=k then 1 else 0:=by unfold cn;grind
theorem ve (k:Nat) (v:ax):cn k v<=v:=List.length_filter_le _ _
theorem L2 (v:ax):cn 0 v+cn 1 v+cn 2 v+cn 3 v<=v/\(cn 0 v+cn 1 v+cn 2 v+cn 3 v=v.length↔∀c∈v,cd c<4)/\(cn 0 v+cn 1 v=v.length↔∀c∈v,cd c<2)/\((∀c∈v,cd c<4)->(cn 2 v+cn 3 v=0↔∀c∈v,cd c<2)):=by
 induction v with
 |nil=>simp[cn]
 |cons a r ih=>
  have key:∀k,cn k (a::r)=cn k r+if cd a=k then 1 else 0:=λk=>by unfold cn;grind
  grind
theorem XQ (v:ax) (i:Nat) (h:i<v) (g:i<(bs v).size):((bs v)[i]'g)=v[i]'h:=by simp[bs];rfl
def pD (v:ax):Array aI:= #[.int .i64 (cn 0 v:Int),.int .i64 (cn 1 v:Int),.int .i64 (cn 2 v:Int),.int .i64 (cn 3 v:Int)]
theorem ZhZ (v:ax) (c:cj) (k:Nat) (g:cd c=k) (h:k<4):(pD v).setIfInBounds k ((cn k v:Int)+1:Int)=pD (v++[c]):=by unfold pD;simp only[WD,g];rcases(show k=0\/k=1\/k=2\/k=3 by omega) with rfl|rfl|rfl|rfl<;>simp
theorem ZhY (v:ax) (c:cj) (h:¬cd c<4):pD (v++[c])=pD v:=by unfold pD;simp only[WD];rw[Vae O,Vae O,Vae O,Vae O];rfl
theorem J4 (v:ax) (e1:v.length<=1099511627776) (w:aq):
  Calls prog 147 #[.string (bs v)] w (bM w (.agg (pD v))):=by
 have G:(bs v).size=v:=Z0 v;have c4:=J (((bf w w).alloc aU (.cells #[.int .i64 0,.int .i64 0,.int .i64 0,.int .i64 0] 227)).alloc (by simp) (.cells #[.int .i64 0,.int .i64 0,.int .i64 0,.int .i64 0] 227));have c6:=J ((Bk.new w 227 #[.int .i64 0,.int .i64 0,.int .i64 0,.int .i64 0]).alloc (.cells #[.int .i64 0,.int .i64 0,.int .i64 0,.int .i64 0] 227));have R:=Bk.new (w.alloc (.cells #[.int .i64 0,.int .i64 0,.int .i64 0,.int .i64 0] 227)) 227 #[.int .i64 0,.int .i64 0,.int .i64 0,.int .i64 0];rw[World.size_alloc] at R;have AN:=J R;have a9:Hid (∀(i:Nat) (h:i<v.length) (a1:i<(bs v).size),(bs v)[i]'a1=v[i]'h):=J (λi h a1=>XQ v i h a1);obtain⟨n,a2⟩:=ay v.length;obtain⟨S,b0⟩:=ay (bs v);rw[b0] at G a9⊢;rw[a2] at G e1;have a0:=J a2;have a7:=J G;clear a2 b0 R G;go_in;go_wp2;rw[a7.o];go_loopw [8] (λa4 wr=>∃i:Nat,i<=n/\a4=(i:Int)/\Hid (Bk wr w 227 #[.int .i64 0,.int .i64 0,.int .i64 0,.int .i64 0])/\Hid (Bk wr (w.heap.size+1) 227 (pD (v.take i)))/\Hid (Below w w wr)) (λa4 _=>(n-intOf a4).toNat);exact⟨0,cf _,rfl,c6,AN,c4⟩;obtain⟨i,hi,rfl,l,g,hb⟩:=hrel;by_cases ab:i<n
 .have a6:i<v.length:=xh;have f7:i<S.size:=(by rw[a7.o];exact ab);have a8:=a9.o i a6;have E:v.take (i+1)=v.take i++[v[i]]:=dK a6;obtain⟨c,d8⟩:=ay v[i];rw[d8] at a8 E;have e5:∀h:i<S.size,(S[i]'h).toNat=c.toNat:=λh=>(by rw[a8 h]);have e7:(i:Int)<n:=O;have f6:(0:Int)<=i:=O;have d2:cn 0 (v.take i)<=i/\cn 1 (v.take i)<=i/\cn 2 (v.take i)<=i/\cn 3 (v.take i)<=i:=by have I:(v.take i).length<=i:=vO;exact⟨co (ve _ _) I,co (ve _ _) I,co (ve _ _) I,co (ve _ _) I⟩
  obtain⟨c9,c8,d1,d3⟩:=d2;have D:=J (Qc c wr);unfold pC at D;have t:=g.o.cell 0;have B:=g.o.cell 1;have y:=g.o.cell 2;have z:=g.o.cell 3;have f0:=g.o.frozen 0;have f1:=g.o.frozen 1;have e9:=g.o.frozen 2;have f4:=g.o.frozen 3;unfold pD at t B y z;simp only[mF,List.getElem?_cons_zero,List.getElem?_cons_succ] at t B y z;obtain⟨a5,b8,e2,d6⟩:=dc (λk (h:cd c=k) (q:k<4)=>(by rw[E,<-ZhZ _ c k h q];exact Bk.put g.o k ((cn k (v.take i):Int)+1:Int):Bk (wr.setCell ⟨w+1,k,none⟩ ((cn k (v.take i):Int)+1:Int)) (w.heap.size+1) 227 (pD (v.take (i+1))))) (λ(h:¬cd c<4)=>(by rw[E,ZhY _ c h];exact g.o:Bk wr (w.heap.size+1) 227 (pD (v.take (i+1))))) (λk (u:aI)=>Bk.off l.o (p:=⟨w+1,k,none⟩) (by simp) u) (λk (u:aI)=>hb.o.setCell (p:=⟨w+1,k,none⟩) (by simp) u);have d9:=Zqy c;obtain⟨b7,Q⟩:∃f:Nat->Nat,(λk=>cn k (v.take i))=f:=⟨_,rfl⟩;have d5:∀k,cn k (v.take i)=b7 k:=λk=>congrFun Q k;simp only[d5] at a5 t B y z c9 c8 d1 d3;by_cases q:cd c<4
  .rw[Vag q] at D;obtain⟨k,b1⟩:=ay (cd c);rw[b1] at D q;obtain⟨a3,b9,aa⟩:=bD (a5.o k b1 q) (λu=>e2.o k u) (λu=>d6.o k u);rcases(show k=0\/k=1\/k=2\/k=3 by omega) with rfl|rfl|rfl|rfl
   all_goals
    go_wp21;refine cp D.o ?_;go_wp2;refine⟨⟨i+1,ab,ci,J (b9.o _),a3,J (aa.o _)⟩,?_⟩;simp[intOf]<;>omega
  rw[Vae q] at D;have a3:=J (b8.o q);go_wp21;refine cp D.o ?_;go_wp2;refine⟨⟨i+1,ab,ci,l,a3,hb⟩,?_⟩;simp[intOf]<;>omega
 have c3:i=n:=O;subst c3;have E:v.take i=v:=d' og;have F:=g.o;rw[E] at F;have t:=F.cell 0;have B:=F.cell 1;have y:=F.cell 2;have z:=F.cell 3;have f5:=l.o.frozen 0;have e6:=l.o.frozen 1;have e4:=l.o.frozen 2;have e8:=l.o.frozen 3;have e3:=l.o.cell 0;have c5:=l.o.cell 1;have c7:=l.o.cell 2;have d7:=l.o.cell 3;unfold pD at t B y z;simp only[mF,List.getElem?_cons_zero,List.getElem?_cons_succ] at t B y z e3 c5 c7 d7;have b6:pD v= #[.int .i64 (cn 0 v:Int),.int .i64 (cn 1 v:Int),.int .i64 (cn 2 v:Int),.int .i64 (cn 3 v:Int)]:=rfl;have Q:=J b6;generalize cn 0 v=M at*;generalize cn 1 v=n1 at*;generalize cn 2 v=n2 at*;generalize cn 3 v=n3 at*;have hF:=J ((((l.o.put 0 M).put 1 n1).put 2 n2).put 3 n3);have d4:=J ((((hb.o.setCell (p:=⟨w,0,none⟩) aU M).setCell (p:=⟨w,1,none⟩) aU n1).setCell (p:=⟨w,2,none⟩) aU n2).setCell (p:=⟨w,3,none⟩) aU n3);go_wp2;have b2:=hF.o.cell 0;have b3:=hF.o.cell 1;have b4:=hF.o.cell 2;have b5:=hF.o.cell 3;simp at b2 b3 b4 b5;generalize ((((wr.setCell ⟨w.heap.size,0,none⟩ M).setCell ⟨w.heap.size,1,none⟩ n1).setCell ⟨w.heap.size,2,none⟩ n2).setCell ⟨w.heap.size,3,none⟩ n3)=WF at*;refine bodyPost_ret (v:=.agg #[.int .i64 (M:Int),.int .i64 (n1:Int),.int .i64 (n2:Int),.int .i64 (n3:Int)]) (by simp[results,results147,go_sem,b2,b3,b4,b5];try rfl) rfl ?_;exact⟨by rw[Q.o],d4.o⟩
theorem YU (v:ax):(bs v).toList.isEmpty=decide (v=[]):=by
 have h:(bs v).toList.isEmpty=((bs v).toList==(bs []).toList):=by have:(bs ([]:ax)).toList=[]:=Aq;rw[this];cases (bs v).toList<;>rfl
 rw[h,lN,beq_iff_eq,Vax,ByteArray.toList_eq,ByteArray.toList_eq];exact Iff.rfl
theorem Zpd {v:ax} (h0:v≠[]) (h1:v.length<=128):isV v=decide ((cn 0 v:Int)+(cn 1 v:Int)+(cn 2 v:Int)+(cn 3 v:Int)=(v.length:Int)):=by rw[lN,Zp,Vax];obtain⟨_,g,_⟩:=L2 v;constructor;rintro⟨h,_,_⟩;have:=g.2 h;omega;intro h;exact⟨g.1 O,h0,h1⟩
theorem Zpi {v:ax} (h:isV v=true):jM v=decide ((cn 2 v:Int)+(cn 3 v:Int)=0):=by obtain⟨a,b,c⟩:=Zp.1 h;rw[lN,YA,Vax];obtain⟨_,_,_,g⟩:=L2 v;constructor;rintro⟨h,_,_⟩;have:=(g a).2 h;omega;intro h;exact⟨(g a).1 O,b,c⟩
theorem xz (v : ax) (z : v.length <= 1099511627776) (w : aq) :
    Calls prog 105 #[.string (bs v)] w (bM w (.bool (isV v))):=by
  have t:=YU v;have q:(bs v).size=v:=Z0 v;by_cases h0:v=[]
  . have hi : isV v = false := by cases h : isV v with
      |false=>rfl
      |true=>exact absurd h0 (Zp.1 h).2.1
    rw[dd h0] at t;rw[hi];exact Pq
  rw[Vai h0] at t;by_cases h1:128<v.length
  . have hi : isV v = false := by cases h : isV v with
      |false=>rfl
      |true=>have:=(Zp.1 h).2.2;omega
    rw[hi];have E:(128:Int)<((bs v).size:Int):=O;exact Pq
  have hi:=Zpd h0 O;have l:=J (J4 v z w);have g:pD v= #[.int .i64 (cn 0 v:Int),.int .i64 (cn 1 v:Int),.int .i64 (cn 2 v:Int),.int .i64 (cn 3 v:Int)]:=rfl;rw[g] at l;have c0:=ve 0 v;have c1:=ve 1 v;have c2:=ve 2 v;have D:=ve 3 v;have k:Hid ((bs v).size=v):=J q;have E:¬(128:Int)<((bs v).size:Int):=O;have p:=J hi;have G:v.length<=128:=O;obtain⟨n,y⟩:=ay v.length;rw[y] at p k c0 c1 c2 D G;generalize cn 0 v=F at*;generalize cn 1 v=n1 at*;generalize cn 2 v=n2 at*;generalize cn 3 v=n3 at*;generalize bs v=S at*;clear g q hi h0 h1 y z;go_in;go_wp21;refine aP l.o λw1 u=>?_;have B:=J (u.alloc u.size (.cells #[.int .i64 (F:Int),.int .i64 (n1:Int),.int .i64 (n2:Int),.int .i64 (n3:Int)] 227));go_wp2;go_returns;rw[k.o,p.o];exact⟨I',B.o⟩
theorem Bj (v:ax) (u:v.length<=1099511627776) (w:aq):
  Calls prog 109 #[.string (bs v)] w (bM w (.bool (jM v))):=by
 have q:=J (J4 v u w);have z:pD v= #[.int .i64 (cn 0 v:Int),.int .i64 (cn 1 v:Int),.int .i64 (cn 2 v:Int),.int .i64 (cn 3 v:Int)]:=rfl;rw[z] at q;have l:=J (λW=>xz v u W);have c2:=ve 2 v;have F:=ve 3 v;cases h:isV v
 .have k:jM v=false:=by cases k:jM v with
   |false=>rfl
   |true=>rw[He k] at h;cases h
  rw[h] at l;rw[k];generalize cn 0 v=p at*;generalize cn 1 v=n1 at*;generalize cn 2 v=n2 at*;generalize cn 3 v=n3 at*;generalize bs v=S at*;go_in;go_wp21;refine aP q.o λw1 g=>?_;have y:=J (g.alloc g.size (.cells #[.int .i64 (p:Int),.int .i64 (n1:Int),.int .i64 (n2:Int),.int .i64 (n3:Int)] 227));go_wp21;refine aP (l.o _) λE aa=>?_;exact Pk
 have k:=Zpi h;have G:=(Zp.1 h).2.2;rw[h] at l;rw[k];have B:cn 2 v<=128:=O;have D:cn 3 v<=128:=O;generalize cn 0 v=p at*;generalize cn 1 v=n1 at*;generalize cn 2 v=n2 at*;generalize cn 3 v=n3 at*;generalize bs v=S at*;go_in;go_wp21;refine aP q.o λw1 g=>?_;have ff:=J (Bk.new w1 227 #[.int .i64 (p:Int),.int .i64 (n1:Int),.int .i64 (n2:Int),.int .i64 (n3:Int)]);have y:=J (g.alloc g.size (.cells #[.int .i64 (p:Int),.int .i64 (n1:Int),.int .i64 (n2:Int),.int .i64 (n3:Int)] 227));go_wp21;refine aP (l.o _) λE aa=>?_;have t:=Bk.below ff.o aa (by simp);have k2:=t.cell 2;have k3:=t.cell 3;simp only[mF,List.getElem?_cons_zero,List.getElem?_cons_succ] at k2 k3;have a3:=J (y.o.trans (aa.mono y.o.size));go_wp2;go_returns;exact⟨I',a3.o⟩
theorem Z7Y (wd:Int) (v:ax) (p:v.length<=1099511627776) (w:aq):
  Calls prog 166 #[wd,bs v] w (bM w (gH wd v)):=by
 have g:=J (xz v p w);have k:(bs v).size=v:=Z0 v;have l:=J k;unfold gH;generalize isV v=b at*;generalize bs v=S at*;clear k;cases b;.go_in;go_wp21;refine aP g.o λw1 E=>?_;exact W66
 go_in;go_wp21;refine aP g.o λw1 E=>?_;go_wp2;go_returns;rw[l.o];exact⟨I',E⟩
end Go.Proofs.Y
namespace Wv
open Go.Proofs.Tryz Go Go.RowKit
variable{R:ax}{g:Nat}{w:aq}
def na (w:aq) (g:Nat) (e:TypeId) (R:ax):Prop:=∃k l sp,w.heap[g]? =some (.cells k e l)/\k.toList=R.map bv++sp/\R.length<=l.1
theorem na.lt {e:TypeId} (h:na w g e R):g<w:=by obtain⟨k,l,sp,h1,_⟩:=h;exact(Array.getElem?_eq_some_iff.1 h1).1
theorem na.cell {e:TypeId} (h:na w g e R) (i:Nat) (hi:i<R):w.cell? (g,i)=some (bv R[i])/\w.frozen? (g,i)=false:=by obtain⟨l,p,sp,h1,k,q⟩:=h;constructor;simp only[World.cell?,h1];rw[<-Array.getElem?_toList,k,List.getElem?_append_left (by rw[Vah];exact hi),jX,fb hi];rfl;simp only[World.frozen?,h1];exact fj
theorem na.put {e:TypeId} (h:na w g e R) (i:Nat) (hi:i<R) (x:cj):na (w.setCell (g,i) (bv x)) g e (R.set i x):=by obtain⟨k,l,sp,h1,p,q⟩:=h;refine⟨k.setIfInBounds i (bv x),l,sp,?_,?_,by rw[od];exact q⟩;simp[World.setCell,Array.getElem?_modify,h1];rw[Array.toList_setIfInBounds,p,List.set_append_left _ _ (by rw[Vah];exact hi),List.map_set]
theorem na.below {w':aq} {B:Nat} {e:TypeId} (h:na w g e R) (hb:Below B w w') (t:g<B):na w' g e R:=by obtain⟨k,l,sp,h1,p,q⟩:=h;exact⟨k,l,sp,(hb.block g t).trans h1,p,q⟩
theorem na.new (w:aq) (e:TypeId) (s:aT) (cap:Nat) (z:Nat×Nat) (g:s.size<=z.1):na (w.alloc (.cells (bytesRow s cap) e z)) w e s.data.toList:=by refine⟨bytesRow s cap,z,(Array.replicate (cap-s.size) (.int .u8 0)).toList,?_,?_,by rw[Array.length_toList];exact g⟩;show(w.heap.push _)[w.heap.size]? =_;simp;unfold bytesRow;rw[Array.toList_append,Array.toList_map];rfl
end Wv
namespace Go.Proofs.Y
open Tryz Wv Go.RowKit
theorem Zmz (v:ax) (h:isV v=true):qW v=v.map invC:=by unfold qW;apply List.map_congr_left;intro c g;have:=(Zp.1 h).1 c g;unfold invC wt;rw[Vag this]
theorem Zin (v:ax) (b2:v.length<=1099511627776) (w:aq):
  Calls prog 107 #[bs v,.func (.func 338) #[] #[]] w (bM w (bs (v.map invC))):=by
 have y:=run_bytes_of_string (P:=prog) w 9 110 5 (bs v) underlying9 underlying110 underlying5;have a7:(bs v).size=v:=Z0 v;have q:=na.new w.drew 5 (bs v) (grownCap w (bs v).size 0 5) ((bytesRow (bs v) (grownCap w (bs v).size 0 5)).size,(bytesRow (bs v) (grownCap w (bs v).size 0 5)).size+1) (by unfold bytesRow;simp);have Q:=J (((bf w w).drew).alloc aU (.cells (bytesRow (bs v) (grownCap w (bs v).size 0 5)) 5 ((bytesRow (bs v) (grownCap w (bs v).size 0 5)).size,(bytesRow (bs v) (grownCap w (bs v).size 0 5)).size+1)));have b0:(bs v).data.toList=v:=rfl;rw[b0] at q;have F:=J (show na _ w 5 v from q);have b3:=J (λc W=>Z8z c W);obtain⟨n,B⟩:=ay v.length;obtain⟨cap,t⟩:=ay (grownCap w (bs v).size 0 5);rw[t] at y Q F;have b9:n<=cap:=PI;generalize w.drew.alloc (.cells (bytesRow (bs v) cap) 5 ((bytesRow (bs v) cap).size,(bytesRow (bs v) cap).size+1))=W0 at*;rw[a7,B] at y;rw[B] at b2;have a0:=J B;obtain⟨S,b1⟩:=ay (bs v);rw[b1] at y⊢;go_in;go_wp2;go_loopw [12] (λE wr=>∃i:Nat,i<=n/\E=i/\Hid (na wr w 5 ((v.take i).map invC++v.drop i))/\Hid (Below w w wr)) (λE _=>(n-intOf E).toNat);exact⟨0,cf _,rfl,F,Q⟩;obtain⟨i,hi,rfl,q,hb⟩:=hrel;by_cases ab:i<n;.have R:i<v:=xh;have G:v.take (i+1)=v.take i++[v[i]]:=dK R;have k:v.drop i=v[i]::v.drop (i+1):=kw R;have l:((v.take i).map invC).length=i:=CB;obtain⟨c,g⟩:=ay v[i];rw[g] at G k;have a3:i<((v.take i).map invC++v.drop i).length:=(by rw[Vab,l,iW];omega);obtain⟨h1,b8⟩:=q.o.cell i a3;have b4:((v.take i).map invC++v.drop i)[i]=c:=PB;rw[b4] at h1;have b5:wr.cell? (w,i)=some (.int .u8 (c.toNat:Int)):=h1;have M:=q.o.put i a3 (invC c);have a9:((v.take i).map invC++v.drop i).set i (invC c)=(v.take (i+1)).map invC++v.drop (i+1):=Pu;rw[a9] at M;obtain⟨I,a4,a1⟩:=bD M (b3.o c wr) (hb.o.setCell (p:=⟨w,i,none⟩) aU (bv (invC c)));have b7:(i:Int)<n:=O;have c3:(0:Int)<=i:=O;unfold bv at I a1;go_wp21;refine cp a4.o ?_;go_wp2;refine⟨⟨i+1,ab,ci,I,a1⟩,?_⟩;simp[intOf]<;>omega
 have a5:i=n:=O;subst a5;have G:v.take i=v:=d' og;have k:v.drop i=[]:=oc og;have u:=q.o;rw[G,k,fg] at u;have l:(v.map invC)=i:=(by rw[Vah,a0.o]);have z:=run_convert_bytes_back (P:=prog) wr 110 9 5 ⟨w,0,none⟩ cap (v.map invC) underlying110 underlying5 underlying9 (λj D=>P3);rw[l] at z;have a8:(⟨(v.map invC).toArray⟩:aT)=bs (v.map invC):=rfl;rw[a8] at z;obtain⟨b6,a2⟩:=ay (bs (v.map invC));rw[a2] at z;have a6:=J a2;exact Al
theorem Zht (v:ax) (k:v.length<=1099511627776) (w:aq):
  Calls prog 306 #[bs v] w (bM w (bs (if isV v=true then qW v else[]))):=by have g:=J (xz v k w);have l:=J (λW=>Zin v k W);cases h:isV v;rw[h] at g;rw[Vae (by simp)];exact Ey;rw[h] at g;rw[Vag rfl,Zmz v h];generalize bs (v.map invC)=SR at*;generalize bs v=S at*;go_in;go_wp21;refine aP g.o λw1 E=>?_;go_wp21;refine aP (l.o _) λp aa=>?_;have hb:=E.trans (aa.mono E.size);go_wp2;go_returns;exact⟨rfl,hb⟩
theorem ZD (w:aq) (o:Obj):Below w w (w.alloc o):=(bf w w).alloc aU o
theorem Zc9 (w:aq) (g n:Nat) (p:n<=128):(Instr.sliceAt 376 (.pointer (some (g,0))) none (some (.int .i64 (n:Int))) none).run prog w=.ok (.slice (some (g,0)) n 128) w:=by have h1:prog.arrayLen 376=128:=qD;have k:prog.underlying 376=some (.array (prog.arrayLen 376) (prog.elem 376)):=qD;have l:∀w,(sizeOf (prog.elem 376)).run prog w=.ok 1 w:=λw=>qD;rw[run_sliceAt_array_h w _ ⟨g,0,none⟩ k .i64 (n:Int) O (by rw[h1];omega),l,h1];unfold slicedAt;simp[Result.andThen,Addr.add]
theorem cd2 {c:cj} (h:cd c<2):c.toNat=48+cd c:=by rcases Gl c with ⟨rfl,h1⟩|⟨rfl,h1⟩|⟨_,h1⟩|⟨_,h1⟩|⟨_,_,_,_,h1⟩;rfl;rfl;all_goals omega
theorem Znz {a b:ax} {k:Nat} (c:Nat) (g:k<a) (hb:k<b):sm (a.drop k) (b.drop k) c=(UInt8.ofNat (48+(cd a[k]+cd b[k]+(sm (a.drop (k+1)) (b.drop (k+1)) c).2) % 2)::(sm (a.drop (k+1)) (b.drop (k+1)) c).1,(cd a[k]+cd b[k]+(sm (a.drop (k+1)) (b.drop (k+1)) c).2)/2):=by rw[kw g,kw hb];rfl
theorem Wk (c:Nat) (g:c<=1):∀(a b:ax),(∀x∈a,cd x<2)->(∀x∈b,cd x<2)->(sm a b c).2<=1
 |[],_,_,_=>by simpa [sm] using g
 |_::_,[],_,_=>by simpa [sm] using g
 |x::a,y::b,h1,h2=>by have l:=Wk c g a b (λz k=>h1 z (gM _ k)) (λz k=>h2 z (gM _ k));have p:=h1 x fi;have q:=h2 y fi;show(cd x+cd y+(sm a b c).2)/2<=1;omega
def uv (n k:Nat) (g:ax):Array aI:=((List.replicate k 0++g++List.replicate (128-n) 0).map bv).toArray
theorem I_ (a b:ax) (c:Nat) (h7:c<=1) (f5:jM a=true) (hb:jM b=true) (f6:a=b.length) (w:aq):
  Calls prog 279 #[bs a,bs b,.int .u8 (c:Int)] w (bM w (bs (sm a b c).1)):=by
 obtain⟨a1,a2,a3⟩:=YA.1 f5;obtain⟨b1,e2,b3⟩:=YA.1 hb;have G:(bs a).size=a:=Z0 a;have M:(bs b).size=b:=Z0 b;have R:Hid (∀(i:Nat) (h:i<a.length) (g:i<(bs a).size),(bs a)[i]'g=a[i]'h):=J (λi h g=>XQ a i h g);have a0:Hid (∀(i:Nat) (h:i<b.length) (g:i<(bs b).size),(bs b)[i]'g=b[i]'h):=J (λi h g=>XQ b i h g);obtain⟨n,Q⟩:=ay a.length;have c8:b=n:=O;rw[Q] at G a3;rw[c8] at M;have e3:=J (Bk.new w 376 (Array.replicate 128 (.int .u8 0)));have d9:=J (ZD w (.cells (Array.replicate 128 (.int .u8 0)) 376));have f2:Array.replicate 128 (.int .u8 0:aI)=uv n n (sm (a.drop n) (b.drop n) c).1:=by have t:a.drop n=[]:=oc O;rw[t];show _=((List.replicate n (0:cj)++[]++List.replicate (128-n) (0:cj)).map bv).toArray;rw[fg,List.replicate_append_replicate,show n+(128-n)=128 by omega,List.map_replicate];rfl
 have d7:=J f2;have e4:(sm (a.drop n) (b.drop n) c).2=c:=by have t:a.drop n=[]:=oc O;rw[t];rfl
 obtain⟨g0,d2,d3,d1,b4,h0⟩:=fA e4 (λk=>Wk c h7 (a.drop k) (b.drop k) (λx B=>a1 x (List.mem_of_mem_drop B)) (λx B=>b1 x (List.mem_of_mem_drop B))) (λk (h1:k<a.length) (g:k<b.length)=>Znz c h1 g) a1 b1 Q;have g7:=J c8;have d6:(sm a b c).1=n:=(by rw[Zau a b c f6,Q]);have d5:=J d6;obtain⟨E,g2⟩:=ay (bs a);obtain⟨a8,g3⟩:=ay (bs b);rw[g2] at G R⊢;rw[g3] at M a0⊢;have a5:=J G;have g6:=J M;clear f2 e4 a1 b1 Q c8 g2 g3 G M f5 hb f6 a2 e2 b3 d6;have i3:E.size<=128:=(by rw[a5.o];exact a3);go_in;go_wp2;rw[a5.o];go_loopw [2,8] (λh8 c9 wr=>∃k:Nat,k<=n/\c9=((k:Int)-1:Int)/\h8=.int .u8 (((sm (a.drop k) (b.drop k) c).2:Nat):Int)/\Hid (Bk wr w 376 (uv n k (sm (a.drop k) (b.drop k) c).1))/\Hid (Below w w wr)) (λ_ c9 _=>(intOf c9+1).toNat);exact⟨n,aU,rfl,by rw[g0.o],J (by rw[<-d7.o];exact e3.o),d9⟩;clear e3 d9 d7 g0;obtain⟨k,i9,rfl,rfl,l,hb⟩:=hrel;cases k with
 |succ i=>
  have c7:i<a.length:=(by rw[h0.o];omega);have c5:i<b.length:=(by rw[g7.o];omega);have j2:i<E.size:=(by rw[a5.o];omega);have h9:i<a8.size:=(by rw[g6.o];omega);have z:=d3.o i c7 c5;have a7:=d2.o (i+1);have a4:=d1.o a[i] (dt _);have S:=b4.o b[i] (dt _);have c6:=R.o i c7;have b7:=a0.o i c5;obtain⟨x,B⟩:=ay a[i];obtain⟨y,c4⟩:=ay b[i];rw[B,c4] at z;rw[B] at a4 c6;rw[c4] at S b7;obtain⟨⟨I,b6⟩,hr⟩:=ay (sm (a.drop (i+1)) (b.drop (i+1)) c);rw[hr] at z a7 l;simp only at z a7 l;have g8:∀h:i<E.size,(E[i]'h).toNat=48+cd x:=λh=>(by rw[c6 h,cd2 a4]);have g9:∀h:i<a8.size,(a8[i]'h).toNat=48+cd y:=λh=>(by rw[b7 h,cd2 S]);obtain⟨p,f7⟩:=ay (cd x);obtain⟨q,f8⟩:=ay (cd y);rw[f7] at z a4 g8;rw[f8] at z S g9;have t:((i+1:Nat):Int)-1=(i:Int):=O;rw[t,hr];have i7:(0:Int)<=i:=O;have i5:(i:Int)<n:=O;have hi128:(i:Int)<128:=O;have i1:i<128:=O;have b5:=l.o.cell i;have e6:=l.o.frozen i;have d8:=λu=>l.o.put i u;have e8:∀d:cj,(uv n (i+1) I).setIfInBounds i (bv d)=uv n i (d::I):=λd=>by unfold uv;rw[List.setIfInBounds_toArray,<-List.map_set];congr 2;rw[List.replicate_succ',er,er,nj _ _ (by rw[iE];exact aU),iE,fh];simp
  have e5:(uv n (i+1) I)[i]? =some (.int .u8 0):=by unfold uv;rw[mF,jX,er,List.getElem?_append_left (by rw[iE];omega),List.getElem?_replicate,Vag O];rfl
  rw[e5] at b5;have a9:=J (λd:cj=>(by rw[<-e8 d];exact d8 (bv d):Bk (wr.setCell (w,i) (bv d)) w 376 (uv n i (d::I))));have f3:=J (λu:aI=>hb.o.setCell (p:=⟨w,i,none⟩) aU u);unfold bv at a9;obtain⟨D,f9⟩:=ay (p+q+b6);rw[f9] at z;have d4:((UInt8.ofNat (48+D % 2)).toNat:Int)=((48+D % 2:Nat):Int):=fj;have g4:=J (show Bk (wr.setCell (w,i) (.int .u8 ((48+D % 2:Nat):Int))) w 376 (uv n i (sm (a.drop i) (b.drop i) c).1) by have:=a9.o (UInt8.ofNat (48+D % 2));rw[d4] at this;rw[z];exact this);have h5:=J (show(((sm (a.drop i) (b.drop i) c).2:Nat):Int)=((D/2:Nat):Int) by rw[z]);have i6:Go.bits .and .u8 0 1=0:=aY;have b1:Go.bits .and .u8 1 1=1:=aY;have e2:Go.bits .and .u8 2 1=0:=aY;have b3:Go.bits .and .u8 3 1=1:=aY;clear a9 d4;clear c7 c5 z c6 b7 B c4 hr f7 f8 t d8 e8 e5 l hb d3 d2 d1 b4 R a0;have c3:(p=0\/p=1)/\(q=0\/q=1)/\(b6=0\/b6=1):=O;obtain⟨h1,g,h6⟩:=c3;clear a7 a4 S;rcases h1 with rfl|rfl<;>rcases g with rfl|rfl<;>rcases h6 with rfl|rfl
  all_goals
   go_wp2;go_quiet (fail);have j1:(wr.drewN nq).cell? (w,i)=some (.int .u8 0):=b5;have i0:(wr.drewN nq).frozen? (w,i)=false:=e6;have g5:Hid (Bk ((wr.drewN nq).setCell (w,i) (.int .u8 ((48+D % 2:Nat):Int))) w 376 (uv n i (sm (a.drop i) (b.drop i) c).1)):=J g4.o;have h4:Hid (∀u:aI,Below w w ((wr.drewN nq).setCell (w,i) u)):=J (λu=>mN (f3.o u) nq);clear b5 e6 g4 f3;generalize wr.drewN nq=W at*;subst f9;go_wp2;refine⟨⟨i,O,ci,by rw[h5.o];rfl,J (by exact g5.o),J (h4.o _)⟩,?_⟩;simp[intOf]<;>omega
 |zero=>
  have t:((0:Nat):Int)-1= -1:=rfl;rw[t];simp only[Ch] at l⊢;have g1:=d5.o;have e9:∀j (F:j<(sm a b c).1.length),wr.cell? (w,0+j)=some (.int .u8 (((sm a b c).1[j]).toNat:Int)):=λj F=>by rw[jK,l.o.cell j];unfold uv;rw[mF,jX,List.replicate_zero,pU,List.getElem?_append_left F,fb F];rfl
  have b8:=run_convert_bytes_back (P:=prog) wr 110 9 5 ⟨w,0,none⟩ 128 (sm a b c).1 underlying110 underlying5 underlying9 (λj F=>by rw[Go.WideShapes.add_plain];exact e9 j F);rw[g1] at b8;have e7:(⟨((sm a b c).1).toArray⟩:aT)=bs (sm a b c).1:=rfl;rw[e7] at b8;obtain⟨i2,b9⟩:=ay (bs (sm a b c).1);rw[b9] at b8;have a6:=J b9;have j0:(0:Int)<=n:=O;have i8:(n:Int)<=128:=O;generalize (sm a b c).2=c2 at*;clear g1 e9 e7 b9 l d3 d2 d1 b4 R a0 d5 t;have i4:=Zc9 wr w n O;have f4:(E.size:Int)=n:=(by rw[a5.o]);exact Al
theorem Zhn (a b:ax) (I:a.length<=1099511627776) (hb:b.length<=1099511627776) (w:aq):
  Calls prog 249 #[bs a,bs b] w (bM w (.tuple #[bs (qc a b).1,.bool (qc a b).2])):=by
 have Ha:=J (Bj a I w);have q:=J (λW=>Bj b hb W);have k:(bs a).size=a:=Z0 a;have l:(bs b).size=b:=Z0 b;have p:bs ([]:ax)=⟨#[]⟩:=rfl;unfold qc;cases B:jM a;exact kN;cases D:jM b;exact Nr;rw[B] at Ha;rw[D] at q;by_cases t:a=b.length;.have F:=J (λW=>I_ a b 0 O B D t W);rw[Vag ⟨rfl,rfl,t⟩];have e2:(((bs a).size:Int) !=((bs b).size:Int))=false:=Fa;have z:=F;simp only;generalize bs (sm a b 0).1=SR at*;clear k l p B D t z;generalize bs a=g at*;generalize bs b=y at*;go_in;go_wp21;refine aP Ha.o λw1 E=>?_;go_wp21;refine aP (q.o _) λw2 aa=>?_;have u:=E.trans (aa.mono E.size);clear E aa;go_wp21;refine aP (F.o _) λQ G=>?_;have M:=u.trans (G.mono u.size);clear u G;go_wp2;go_returns;exact⟨rfl,M⟩
 exact Nk
theorem Zej {v:ax} (h:jM v=true):jM (qW v)=true/\(qW v)=v.length:=by obtain⟨a1,a2,a3⟩:=YA.1 h;have g:(qW v)=v.length:=(by unfold qW;rw[Vah]);refine⟨YA.2 ⟨λc k=> ?_,λe=> ?_,O⟩,g⟩;unfold qW at k;obtain⟨d,hd,rfl⟩:=Vbm.1 k;have:=a1 d hd;rw[Vag this,HI _ O];omega;rw[e] at g;exact a2 (ia g.symm)
theorem Zho (a b:ax) (I:a.length<=1099511627776) (hb:b.length<=1099511627776) (w:aq):
  Calls prog 291 #[bs a,bs b] w (bM w (.tuple #[bs (vp a b).1,.bool (vp a b).2])):=by
 have Ha:=J (Bj a I w);have q:=J (λW=>Bj b hb W);have k:(bs a).size=a:=Z0 a;have l:(bs b).size=b:=Z0 b;have p:bs ([]:ax)=⟨#[]⟩:=rfl;unfold vp;cases B:jM a;exact kN;cases D:jM b;exact Nr;rw[B] at Ha;rw[D] at q;by_cases t:a=b.length;.obtain⟨k1,k2⟩:=Zej B;have M:=J (λW=>I_ b (qW a) 1 O D k1 O W);have F:=J (λW=>Zht a I W);rw[Vag (He B)] at F;rw[Vag ⟨rfl,rfl,t⟩];have e2:(((bs a).size:Int) !=((bs b).size:Int))=false:=Fa;simp only;generalize bs (sm b (qW a) 1).1=SR at*;generalize bs (qW a)=SI at*;clear k l p B D t k1 k2;generalize bs a=g at*;generalize bs b=y at*;go_in;go_wp21;refine aP Ha.o λw1 E=>?_;go_wp21;refine aP (q.o _) λw2 aa=>?_;have u:=E.trans (aa.mono E.size);clear E aa;go_wp21;refine aP (F.o _) λR G=>?_;have z:=u.trans (G.mono u.size);clear u G;go_wp21;refine aP (M.o _) λS an=>?_;have Q:=z.trans (an.mono z.size);clear z an;go_wp2;go_returns;exact⟨rfl,Q⟩
 exact Nk
theorem DH (a b:cj):((a.toNat:Int)==b.toNat)=decide (a=b):=by rw[lN,beq_iff_eq,Vax];exact⟨λh=>UInt8.toNat_inj.1 O,λh=>rp⟩
theorem Sa (v:ax) (d6:v.length<=1099511627776) (w:aq):
  Calls prog 169 #[bs v] w (bM w (bs (fw v))):=by
 have g:=J (xz v d6 w);have a5:bs ([]:ax)=⟨#[]⟩:=rfl;unfold fw;cases h:isV v;rw[h] at g;rw[Vae (by simp),a5];clear a5;exact Ey;rw[h] at g;rw[Vag rfl];obtain⟨h1,b7,d5⟩:=Zp.1 h;have b0:=J b7;clear a5 h h1 b7;go_in;go_wp21;refine aP g.o λw1 E=>?_;have b3:=J E;clear E g;go_wp2
 go_loopw [0] (λa7 wr=>∃u:ax,a7=.string (bs u)/\Hid (rO u=rO v)/\Hid (u≠[])/\u.length<=128/\Hid (Below w w wr)) (λa7 _=>match a7 with
  |.string s=>s.size
  |_=>0)
 exact⟨v,rfl,J rfl,b0,d5,b3⟩;clear b3 b0;obtain⟨u,rfl,a3,b1,a2,hb⟩:=hrel;have G:(bs u).size=u:=Z0 u;have z:=Z01 (bs u) 1;rw[Zm] at z;go_upto_region 3 with fail;go_cut [30] (λa8 wx=>∃q:Bool,a8=.bool q/\Hid ((q=true/\∃a b r,u=a::b::r/\a=fr b)\/(q=false/\rO u=u))/\∃k,wx=wr.drewN k)
 case first=>
  clear z a3 hb;match u,b1.o with
  |[c],_=>have h0:decide ((1:Int)<((bs [c]).size:Int))=false:=(by rw[G];rfl);have h1:¬(1:Int)<((bs [c]).size:Int):=(by rw[G];simp);generalize bs [c]=S at*;clear G;go_quiet (fail);go_wp2;go_meet;case rel=>exact⟨false,rfl,J (.inr ⟨rfl,rfl⟩),_,rfl⟩
  |a::b::r,_=>
   have M:(bs (a::b::r)).size=r.length+2:=(by rw[G];rfl);have d2:∀a1:0<(bs (a::b::r)).size,((bs (a::b::r))[0]'a1).toNat=a.toNat:=λa1=>(by rw[XQ _ 0 (by simp)];rfl);have d3:∀a1:1<(bs (a::b::r)).size,((bs (a::b::r))[1]'a1).toNat=b.toNat:=λa1=>(by rw[XQ _ 1 (by simp)];rfl);have b2:(1:Int)<((bs (a::b::r)).size:Int):=(by rw[M];omega);have e1:decide ((1:Int)<((bs (a::b::r)).size:Int))=true:=dd b2;have d9:0<(bs (a::b::r)).size:=O;have e2:1<(bs (a::b::r)).size:=O;have D:=DH a b;have t:=DH a 49;have y:=DH a 48;have F:=DH b 49;have c7:(((49:cj).toNat:Nat):Int)=49:=rfl;have c8:(((48:cj).toNat:Nat):Int)=48:=rfl;rw[c7] at t F;rw[c8] at y;have R:((a.toNat:Int) !=49)= !decide (a=49):=(by rw[bne,t]);have b4:fr b=if b=49 then 48 else b:=rfl;have c9:=Ks a b r;have p:=J b4;have Q:=J c9;obtain⟨A,b8⟩:=ay a.toNat;obtain⟨B,b9⟩:=ay b.toNat;rw[b8] at d2 D t y R;rw[b9] at d3 D F;generalize bs (a::b::r)=S at*;clear G M c7 c8 b4 c9 b8 b9 a2;by_cases c1:a=b
   .rw[dd c1] at D;by_cases c2:a=49;.rw[dd c2] at t R;have l:¬a=48:=(by rw[c2];decide);rw[Vai l] at y;have I:Hid (rO (a::b::r)=a::b::r):=J (by rw[Q.o,Vae];rw[p.o,<-c1,Vag c2,c2];decide);clear c1 c2 l p Q t F;go_quiet (fail);go_wp2;go_meet;case rel=>exact⟨false,by simp[D,R,y],J (.inr ⟨rfl,I.o⟩),_,rfl⟩
    rw[Vai c2] at t R;have a4:Hid (a=fr b):=J (by rw[p.o,<-c1,Vae c2]);clear c1 c2 p Q t F y;go_quiet (fail);go_wp2;go_meet;case rel=>exact⟨true,by simp[D,R],J (.inl ⟨rfl,a,b,r,rfl,a4.o⟩),_,rfl⟩
   rw[Vai c1] at D;by_cases c2:a=48
   .rw[dd c2] at y;by_cases l:b=49;.rw[dd l] at F;have a4:Hid (a=fr b):=J (by rw[p.o,Vag l,c2]);clear c1 c2 l p Q t R;go_quiet (fail);go_wp2;go_meet;case rel=>exact⟨true,by simp[D,y,F],J (.inl ⟨rfl,a,b,r,rfl,a4.o⟩),_,rfl⟩
    rw[Vai l] at F;have I:Hid (rO (a::b::r)=a::b::r):=J (by rw[Q.o,Vae];rw[p.o,Vae l];exact c1);clear c1 c2 l p Q t R;go_quiet (fail);go_wp2;go_meet;case rel=>exact⟨false,by simp[D,y,F],J (.inr ⟨rfl,I.o⟩),_,rfl⟩
   rw[Vai c2] at y;have I:Hid (rO (a::b::r)=a::b::r):=J (by rw[Q.o,Vae];rw[p.o];by_cases l:b=49;rw[Vag l];exact c2;rw[Vae l];exact c1);clear c1 c2 p Q t R F;go_quiet (fail);go_wp2;go_meet;case rel=>exact⟨false,by simp[D,y],J (.inr ⟨rfl,I.o⟩),_,rfl⟩
 obtain⟨q,rfl,a9,k,rfl⟩:=hcut;have b6:=J (mN hb.o k);rcases a9.o with ⟨rfl,a,b,r,a0,c4⟩|⟨rfl,I⟩;.have d7:Hid (rO (b::r)=rO v):=J (by rw[<-a3.o,a0,Ks,Vag c4]);have b5:u.drop 1=b::r:=(by rw[a0];rfl);rw[b5] at z;have b2:(1:Int)<=((bs u).size:Int):=(by rw[G,a0];exact fj);have c5:1<=(bs u).size:=O;have d1:(b::r).length<=128:=(by rw[a0] at a2;simp at a2⊢;omega);have c6:(bs (b::r)).size<u:=(by rw[Z0,a0];simp);have d8:=J c6;clear c6;have a6:Hid (b::r≠[]):=J (by simp);clear a9 a0 c4 b5 a3 b1 hb G a2;generalize bs u=S at*;go_wp2;refine⟨⟨b::r,rfl,d7,a6,d1,b6⟩,?_⟩;show(bs (b::r)).size<(bs u).size;rw[Z0 u];exact d8.o
 have d4:Hid (bs u=bs (rO v)):=J (by rw[<-a3.o,I]);clear a9 I z G;go_wp2;go_returns;exact⟨by rw[<-d4.o];rfl,b6.o⟩
theorem i_ (c:cj):∀n,Lib.repeatL [c] n=List.replicate n c
 |0=>rfl
 |n+1=>by rw[Lib.repeatL,i_ c n,pP];rfl
theorem g_ (c:cj) (n:Nat) (k:n<=1099511627776) (W:aq):
  cK 65 #[.string ⟨#[c]⟩,n] W (bM W (bs (List.replicate n c))):=by have h:=Tryz.strings_Repeat ⟨#[c]⟩ n W O (by rw[show(⟨#[c]⟩:aT).size=1 from rfl];omega);refine h.mono ?_;rintro x w1 ⟨rfl,g⟩;refine⟨?_,g⟩;rw[<-i_];rfl
theorem Z4S (n:Int) (c:cj) (w:aq):
  Calls prog 41 #[n,.int .u8 (c.toNat:Int)] w (bM w (bs (mr n c))):=by
 have g:=J (λW=>Zcn c W);have k:bs ([]:ax)=⟨#[]⟩:=rfl;unfold mr;by_cases h1:n<1;rw[Vag (.inl h1),k];clear k g;exact Jj;by_cases B:128<n;rw[Vag (.inr (.inl B)),k];clear k g;exact Jj;cases l:nP c;.rw[Vag (.inr (.inr rfl)),k];rw[l] at g;clear k l;generalize (c.toNat:Int)=C at*;go_in;go_wp21;refine cp (g.o _) ?_;go_wp2;go_returns;exact⟨rfl,bf _ _⟩
 rw[Vae (by simp[h1,B])];rw[l] at g;have z:=U3 (P:=prog) 110 9 5 underlying110 underlying5 underlying9 w (c.toNat:Int);have y:UInt8.ofNat (c.toNat:Int).toNat=c:=(by simp);rw[y] at z;obtain⟨m,rfl⟩:∃m:Nat,n=m:=⟨n.toNat,O⟩;rw[ep];have q:=J (λW=>g_ c m O W);have t:=ZD w (.cells #[.int .u8 (c.toNat:Int)] 5);have p:=J t;clear k l y t;generalize (c.toNat:Int)=C at*;generalize bs (List.replicate m c)=SR at*;go_in;go_wp21;refine cp (g.o _) ?_;go_wp21;refine aP (q.o _) λw1 hb=>?_;have u:=p.o.trans (hb.mono p.o.size);clear hb p g q z;exact ES
theorem Zme (n:Int) (v:ax) (a1:v.length<=1099511627776) (w:aq):
  Calls prog 219 #[n,bs v] w (bM w (.tuple #[bs (ext n v).1,((ext n v).2:Int)])):=by
 have p:bs ([]:ax)=⟨#[]⟩:=rfl;have G:(bs v).size=v:=Z0 v;have g:=J (J4 v a1 w);unfold ext;by_cases h1:n<1;rw[Vag (.inl h1)];exact W1I;by_cases b2:128<n;rw[Vag (.inr b2)];exact W1I;rw[Vae O];obtain⟨m,rfl⟩:∃m:Nat,n=m:=⟨n.toNat,O⟩;match v,a1 with
 |[],_=>have R:=YU [];rw[dd rfl] at R;simp only[p] at*;unfold pD at g;generalize (cn 0 []:Int)=k at*;generalize (cn 1 []:Int)=n1 at*;generalize (cn 2 []:Int)=n2 at*;generalize (cn 3 []:Int)=n3 at*;clear G;go_in;go_wp21;refine aP g.o λw1 E=>?_;have q:=J (E.alloc E.size (.cells #[k,n1,n2,n3] 227));clear E;go_wp2;go_returns;exact⟨rfl,q.o⟩
 |c::t,a1=>
  have R:=YU (c::t);rw[Vai (by simp)] at R;obtain⟨s1,a3,s3,b5⟩:=L2 (c::t);have a7:decide ((cn 0 (c::t):Int)+(cn 1 (c::t):Int)+(cn 2 (c::t):Int)+(cn 3 (c::t):Int)=((bs (c::t)).size:Int))=(c::t).all nP:=by rw[lN,Vax,uI,G];constructor;intro h x a2;have:=a3.1 O x a2;unfold nP;rw[Vax];exact this;intro h;have:=a3.2 (λx a2=>by have:=h x a2;unfold nP at this;simpa using this);omega
  have I:cn 0 (c::t)<=1099511627776/\cn 1 (c::t)<=1099511627776/\cn 2 (c::t)<=1099511627776/\cn 3 (c::t)<=1099511627776:=O;have a9:((cn 0 (c::t):Int)+(cn 1 (c::t):Int)+(cn 2 (c::t):Int)+(cn 3 (c::t):Int) !=((bs (c::t)).size:Int))= !((c::t).all nP):=by rw[<-a7,bne,Bool.not_eq_eq_eq_not,Bool.not_not,lN,beq_iff_eq,Vax]
  obtain⟨c3,c4,l2,c5⟩:=I;unfold pD at g;generalize cn 0 (c::t)=k at*;generalize cn 1 (c::t)=n1 at*;generalize cn 2 (c::t)=n2 at*;generalize cn 3 (c::t)=n3 at*;clear s1 a3 s3 b5 a7;simp only;cases a0:(c::t).all nP;rw[Vag rfl];rw[a0] at a9;exact W6E;rw[Vae (by simp)];rw[a0] at a9;by_cases ab:(m:Int)<((c::t).length:Int);rw[Vag ab];rw[<-G] at ab;exact W6E;rw[Vae ab];have b1:(m:Int)-((bs (c::t)).size:Int)=((m-(c::t).length:Nat):Int):=(by rw[G];omega);have b8:¬(m:Int)<((bs (c::t)).size:Int):=(by rw[G];exact ab);have b7:0<(bs (c::t)).size:=(by rw[G];simp);have b0:∀h:0<(bs (c::t)).size,((bs (c::t))[0]'h).toNat=c.toNat:=λh=>(by rw[XQ _ 0 (by simp)];rfl);have a8:bs (List.replicate (m-(c::t).length) (fr c))++bs (c::t)=bs (List.replicate (m-(c::t).length) (fr c)++(c::t)):=Z9 _ _;have a4:=J a8;obtain⟨d,hd⟩:=ay (m-(c::t).length);have c6:d<=128:=O;have b9:(m:Int)<=128:=O;simp only[ep];rw[hd] at b1 a4⊢;have M:=J (λW=>g_ (fr c) d O W);have b4:Hid ((bs (List.replicate d (fr c))).size+(bs (c::t)).size<=128):=J (by rw[Z0,Z0,iE];omega);have a5:UInt8.ofNat ((fr c).toNat:Int).toNat=fr c:=(by simp);have z:=λW=>U3 (P:=prog) 110 9 5 underlying110 underlying5 underlying9 W ((fr c).toNat:Int);rw[a5] at z;have B:((fr c).toNat:Int)=if c=49 then 48 else(c.toNat:Int):=by unfold fr;by_cases h:c=49;rw[Vag h,Vag h];rfl;rw[Vae h,Vae h]
  have Q:=DH c 49;rw[show(((49:cj).toNat:Nat):Int)=49 from rfl] at Q;rw[<-a4.o];obtain⟨A,a6⟩:=ay c.toNat;rw[a6] at b0 B Q;obtain⟨F,hF⟩:=ay (((fr c).toNat:Int));rw[hF] at B z;generalize bs (List.replicate d (fr c))=SR at*;generalize fr c=f at*;clear a4 hd G p a8 a0 a5 a6 hF ab;generalize bs (c::t)=S at*;have b3:SR.size+S.size<=128:=b4.o;by_cases y:c=49;.rw[Vag y] at B;rw[dd y] at Q;subst B;clear y;go_in;go_wp21;refine aP g.o λw1 E=>?_;have q:=J (E.alloc E.size (.cells #[k,n1,n2,n3] 227));have l:=J (q.o.alloc q.o.size (.cells #[.int .u8 48] 5));have D:=z (w1.alloc (.cells #[k,n1,n2,n3] 227));rw[World.size_alloc] at D;clear E z q;go_wp21;refine aP (M.o _) λb6 aa=>?_;have u:=l.o.trans (aa.mono l.o.size);clear aa l M D g;exact ES
  rw[Vae y] at B;rw[Vai y] at Q;subst B;clear y;go_in;go_wp21;refine aP g.o λw1 E=>?_;have q:=J (E.alloc E.size (.cells #[k,n1,n2,n3] 227));have l:=J (q.o.alloc q.o.size (.cells #[.int .u8 (A:Int)] 5));have D:=z (w1.alloc (.cells #[k,n1,n2,n3] 227));rw[World.size_alloc] at D;clear E z q;go_wp21;refine aP (M.o _) λb6 aa=>?_;have u:=l.o.trans (aa.mono l.o.size);clear aa l M D g;go_wp2;go_returns;exact⟨rfl,u⟩
theorem Zkp {p q:Nat} (g:p<4) (k:q<4):Go.bits .xor .i64 (p:Int) (q:Int)=((p ^^^ q:Nat):Int):=by rcases(show p=0\/p=1\/p=2\/p=3 by omega) with rfl|rfl|rfl|rfl<;>rcases(show q=0\/q=1\/q=2\/q=3 by omega) with rfl|rfl|rfl|rfl<;>decide
theorem L0 {c:cj} (h:cd c<4):pC c=(cd c:Int):=by unfold pC;rw[Vag h]
def tH (a b:ax) (i:Nat):ax:=List.zipWith mx (a.take i) (b.take i)++List.replicate (a.length-i) 0
theorem ZmQ (a b:ax) (g:a=b.length) (i:Nat) (hi:i<=a):(tH a b i)=a.length:=by unfold tH;rw[Vab,Ah,ek,ek,iE];omega
theorem ZmR (a b:ax) (l:a=b.length) (i:Nat) (g:i<a) (hb:i<b):(tH a b i).set i (mx a[i] b[i])=tH a b (i+1):=by
 have k:(List.zipWith mx (a.take i) (b.take i))=i:=by rw[Ah,ek,ek];omega
 unfold tH
 rw[nj _ _ O,k,fh,dK g,dK hb,
  List.zipWith_append (by rw[ek,ek];omega),show a.length-i=(a.length-(i+1))+1 by omega,pP,List.set_cons_zero];simp
theorem Zhx (a b:ax) (f4:a.length<=1099511627776) (e8:b.length<=1099511627776) (w:aq):
  Calls prog 250 #[bs a,bs b] w (bM w (.tuple #[bs (jp a b).1,((jp a b).2:Int)])):=by
 have Ha:=J (xz a f4 w);have q:=J (λW=>xz b e8 W);have k:(bs a).size=a:=Z0 a;have l:(bs b).size=b:=Z0 b;have a8:bs ([]:ax)=⟨#[]⟩:=rfl;unfold jp;cases b0:isV a;rw[b0] at Ha;rw[Vag (.inl rfl)];simp only[a8];clear k l a8;generalize bs a=g at*;generalize bs b=y at*;exact Ff;cases b4:isV b;rw[b0] at Ha;rw[b4] at q;rw[Vag (.inr rfl)];simp only[a8];clear k l a8;exact YT;rw[b0] at Ha;rw[b4] at q;rw[Vae (by simp)];by_cases t:a=b.length
 .rw[Vae (by simp[t])];simp only;have c8:(((bs a).size:Int) !=((bs b).size:Int))=false:=Fa;obtain⟨a1,a2,a3⟩:=Zp.1 b0;obtain⟨b1,h0,b3⟩:=Zp.1 b4;have c3:Hid (∀(i:Nat) (h:i<a.length) (z:i<(bs a).size),(bs a)[i]'z=a[i]'h):=J (λi h z=>XQ a i h z);have c5:Hid (∀(i:Nat) (h:i<b.length) (z:i<(bs b).size),(bs b)[i]'z=b[i]'h):=J (λi h z=>XQ b i h z);obtain⟨n,F⟩:=ay a.length;have e1:b=n:=O;have d4:=λW=>Y5 (P:=prog) 110 5 (.int .u8 0) 1 underlying110 qD rfl ((bs a).size:Int) n (by rw[k,F]) O O W;have e7:(Array.replicate n (.int .u8 0:aI))=((tH a b 0).map bv).toArray:=by unfold tH;exact PS
  obtain⟨b6,b5,c9⟩:=bD e7 (λi (hi:i<=n)=>(show(tH a b i).length=n by rw[ZmQ a b t i O,F])) (λi (h1:i<a.length) (z:i<b.length)=>ZmR a b t i h1 z);have b8:Hid (tH a b n=List.zipWith mx a b):=J (by unfold tH;exact Pr);obtain⟨e4,d1,a0,g8⟩:=dc a1 b1 F e1;rw[F] at k;rw[e1] at l;obtain⟨g,g1⟩:=ay (bs a);obtain⟨y,g2⟩:=ay (bs b);rw[g1] at k c8 d4 c3 Ha⊢;rw[g2] at l c8 c5 q⊢;rw[F] at a3;have h5:=J k;have g7:=J l;clear e7 a1 b1 F e1 g1 g2 k l f4 e8 a2 h0 b3 a8 b0 b4 t;go_in;go_wp21;refine aP Ha.o λw1 E=>?_;go_wp21;refine aP (q.o _) λw2 aa=>?_;have u:=E.trans (aa.mono E.size);have g0:=d4 w2;have d3:=Bk.new w2 5 (Array.replicate n (.int .u8 0));rw[b6.o] at d3;have R:=J d3;have a5:=J (u.alloc u.size (.cells (Array.replicate n (.int .u8 0)) 5));have f5:=u.size;obtain⟨G,e5⟩:=ay w2.heap.size;rw[e5] at g0 f5 R;rw[<-b6.o] at R;generalize w2.alloc (.cells (Array.replicate n (.int .u8 0)) 5)=W0 at*;clear d4 Ha q E aa u d3 e5;rw[b6.o] at R;go_wp2;go_loopw [26] (λe3 wr=>∃i:Nat,i<=n/\e3=(i:Int)/\Hid (Bk wr G 5 ((tH a b i).map bv).toArray)/\Hid (Below w w wr)) (λe3 _=>(n-intOf e3).toNat);exact Cq;clear R a5 g0 b6;obtain⟨i,hi,rfl,a9,hb⟩:=hrel;by_cases ab:i<n
  .have d9:i<a.length:=xh;have d7:i<b.length:=(by rw[g8.o];exact ab);have f9:=c3.o i d9;have f2:=c5.o i d7;have c6:=e4.o a[i] (dt _);have c4:=d1.o b[i] (dt _);have f7:=c9.o i d9 d7;have b9:=b5.o i hi;have b7:=a9.o.put i (bv (mx a[i] b[i]));rw[List.setIfInBounds_toArray,<-List.map_set,f7] at b7;have d2:=a9.o.cell i;rw[mF,jX,fb O] at d2;have h3:=a9.o.frozen i;obtain⟨i2,a7⟩:∃o,(Option.map bv (some (tH a b i)[i]))=some o:=⟨_,rfl⟩;rw[a7] at d2;obtain⟨c7,d8,e2⟩:=bD (λW=>Qc a[i] W) (λW=>Qc b[i] W) (λW=>KB (cd a[i] ^^^ cd b[i]) (Mw _ c6 _ c4).1 W);rw[L0 c6] at c7;rw[L0 c4] at d8;have f8:=Zkp c6 c4;have e6:mx a[i] b[i]=ch (cd a[i] ^^^ cd b[i]):=rfl;rw[e6] at b7;have a4:=J b7;have S:=J (hb.o.setCell (p:=⟨G,i,none⟩) f5 (bv (ch (cd a[i] ^^^ cd b[i]))));unfold bv at a4 S;have g3:∀h:i<g.size,((g[i]'h).toNat:Int)=(a[i].toNat:Int):=λh=>(by rw[f9 h]);have g4:∀h:i<y.size,((y[i]'h).toNat:Int)=(b[i].toNat:Int):=λh=>(by rw[f2 h]);have h4:i<g.size:=(by rw[h5.o];omega);have g6:i<y.size:=(by rw[g7.o];omega);obtain⟨Z,f6⟩:=ay (((ch (cd a[i] ^^^ cd b[i])).toNat:Int));rw[f6] at a4 S e2;clear b7 f7 b9 a7 e6 f9 f2 c6 c4 f6 a9 hb;generalize (cd a[i] ^^^ cd b[i])=M at*;generalize cd a[i]=P at*;generalize cd b[i]=Q at*;have h6:=g3 h4;have i0:=g4 g6;generalize (a[i].toNat:Int)=A at*;generalize (b[i].toNat:Int)=B at*;have i3:(0:Int)<=i:=O;have i1:(i:Int)<n:=O;clear g3 g4 d9 d7 c9 b5 b8 c3 c5 e4 d1;have h7:(i:Int)<g.size:=O;have h8:(i:Int)<y.size:=O;go_wp2
   go_region_with (first
    |(go_at_call 110;with_reducible refine(e2.o _).mono ?_;rintro r g5 ⟨rfl,rfl⟩)
    |(go_at_call 98;with_reducible refine(c7.o _).mono ?_;rintro r g5 ⟨rfl,rfl⟩)
    |(go_at_call 98;with_reducible refine(d8.o _).mono ?_;rintro r g5 ⟨rfl,rfl⟩))
   all_goals
    clear d2 h3 c7 d8 e2;go_wp2;go_roundw;exact OQ;simp[intOf]<;>omega
  have g9:i=n:=O;subst g9;have I:=a9.o;rw[b8.o] at I;have b9:(List.zipWith mx a b).length=i:=(by rw[<-b8.o];exact b5.o i aU);have d5:=run_convert_bytes_back (P:=prog) wr 110 9 5 ⟨G,0,none⟩ i (List.zipWith mx a b) underlying110 underlying5 underlying9 (λj D=>I1);rw[b9] at d5;have f3:(⟨(List.zipWith mx a b).toArray⟩:aT)=bs (List.zipWith mx a b):=rfl;rw[f3] at d5;obtain⟨h9,d6⟩:=ay (bs (List.zipWith mx a b));rw[d6] at d5;have a6:=J d6;clear I b9 f3 d6 a9 c9 b5 b8 c3 c5 e4 d1;exact Al
 rw[Vag t];have c8:(((bs a).size:Int) !=((bs b).size:Int))=true:=(by rw[k,l,kx];omega);simp only[a8];clear k l a8 b0 b4 t;exact YT
