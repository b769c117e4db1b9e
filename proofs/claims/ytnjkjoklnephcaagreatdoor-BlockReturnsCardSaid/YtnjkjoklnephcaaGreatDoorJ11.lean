import Derived.Test.YtnjkjoklnephcaaGreatDoorJ08
import Derived.Lib.Repeat
import Derived.StillTailTactics
set_option linter.all false
set_option maxRecDepth 100000
set_option maxHeartbeats 0
section
variable{P Q:Prop}
theorem mL(h:P:=by first|rfl|trivial):P:=h
theorem xi(h:P:=by rw[I.o];exact ab):P:=h
theorem Cv(h:P:=by rw[dc,eC];omega):P:=h
theorem oh(h:P:=by rw[I.o];exact aW):P:=h
theorem Ff(h:P:=by rw[k,l,t];exact yH _):P:=h
theorem Cz(h:P:=by exact⟨0,cf _,rfl,E,R⟩):P:=h
theorem EZ(h:P:=by go_wp2;go_returns;exact⟨rfl,z⟩):P:=h
theorem E2(h:P:=by go_wp2;go_returns;exact⟨rfl,D⟩):P:=h
theorem Jb(h:P:=by first|rfl|(congr 2;rw[lO];simp)):P:=h
theorem Jl(h:P:=by go_in;go_wp2;go_returns;exact⟨rfl,bi _ _⟩):P:=h
theorem Ap(h:P:=by go_wp2;go_returns;exact⟨by rw[a5.o];rfl,hb.o⟩):P:=h
theorem Rj(h:P:=by have:=grownCap_ge w (bs v).size 0 5;rw[t] at this;omega):P:=h
theorem PO(h:P:=by rw[Nm (by omega)];simp only[k,fv];rw[IC];simpa using g):P:=h
theorem I2(h:P:=by rw[Go.WideShapes.add_plain,jW,y.cell j,mK,jV,fD a4];rfl):P:=h
theorem ER(h:P:=by subst g;go_wp2;go_returns;exact⟨by first|rfl|(rw[t];rfl),rfl⟩):P:=h
theorem PI(h:P:=by rw[nz _ _ (by omega),k,fv,l,List.set_cons_zero,u,jv];simp):P:=h
theorem PD(h:P:=by go_in;go_wp21;refine cq H.o ?_;go_wp2;go_returns;exact⟨rfl,rfl⟩):P:=h
theorem PF(h:P:=by generalize bs v=S at*;go_in;go_wp2;go_returns;exact⟨rfl,bi _ _⟩):P:=h
theorem PG(h:P:=by rw[dU (by omega),dU (by omega),F,fv,List.replicate_zero,fu]):P:=h
theorem Rg(h:P:=by have:=(y.cell j a4).1;rw[Go.WideShapes.add_plain,jW];exact this):P:=h
theorem P4(h:P:=by go_in;go_wp21;refine aO Ha.o λw1 z=>?_;go_wp2;go_returns;exact⟨rfl,z⟩):P:=h
theorem P5(h:P:=by rw[po,List.zipWith_nil_left,pX,Nat.sub_zero,List.map_replicate,F];rfl):P:=h
theorem PT(h:P:=by have a1:=J (F.o.trans (aa.mono F.o.size));go_wp2;go_returns;exact⟨rfl,a1.o⟩):P:=h
theorem OI(h:P:=by simp only[p];clear p G g;generalize bs v=S at*;go_in;go_wp2;go_returns;exact⟨rfl,bi _ _⟩):P:=h
theorem OH(h:P:=by generalize bs v=S at*;go_in;go_wp21;refine aO g.o λw1 z=>?_;go_wp2;go_returns;exact⟨rfl,z⟩):P:=h
theorem O4(h:P:=by first|exact⟨i+1,ab,by go_num,J (a0.o.drew),J (S.o.drew)⟩|((repeat apply Exists.intro);exact⟨⟨i+1,ab,by go_num,J (a0.o.drew),J (S.o.drew)⟩,rfl⟩)):P:=h
theorem NU(h:P:=by rw[y] at Ha;rw[az (by simp)];simp only[p];clear k l p;generalize bs a=g at*;generalize bs b=u at*;go_in;go_wp21;refine aO Ha.o λw1 z=>?_;go_wp2;go_returns;exact⟨rfl,z⟩):P:=h
theorem NT(h:P:=by simp only[p];clear G;generalize bs (c::t)=S at*;go_in;go_wp21;refine aO g.o λw1 z=>?_;have q:=J (z.alloc z.size (.cells #[k,n1,n2,n3] 260));clear z;go_wp2;go_returns;exact⟨rfl,q.o⟩):P:=h
theorem NP(h:P:=by generalize bs a=g at*;generalize bs b=u at*;go_in;go_wp21;refine aO Ha.o λw1 z=>?_;go_wp21;refine aO (q.o _) λw2 aa=>?_;have D:=z.trans (aa.mono z.size);go_wp2;go_returns;exact⟨rfl,D⟩):P:=h
theorem NB(h:P:=by rw[y] at Ha;rw[B] at q;rw[az (by simp)];simp only[p];clear k l p;generalize bs a=g at*;generalize bs b=u at*;go_in;go_wp21;refine aO Ha.o λw1 z=>?_;go_wp21;refine aO (q.o _) λw2 aa=>?_;have D:=z.trans (aa.mono z.size);go_wp2;go_returns;exact⟨rfl,D⟩):P:=h
theorem Od(h:P:=by rw[az (λh=>t h.2.2)];have e2:(((bs a).size:Int) !=((bs b).size:Int))=true:=(by rw[k,l,kx];omega);simp only[p];clear k l p y B t;generalize bs a=g at*;generalize bs b=u at*;go_in;go_wp21;refine aO Ha.o λw1 z=>?_;go_wp21;refine aO (q.o _) λw2 aa=>?_;have D:=z.trans (aa.mono z.size);go_wp2;go_returns;exact⟨rfl,D⟩):P:=h
end
namespace Go.Proofs.Y
open Tryz Wv Go.RowKit
def pH (c:ci):Int:=if cd c<4 then(cd c:Int) else-1
theorem Zd9:(∀h:0<(⟨#[48,49,120,122]⟩:aS).size,((⟨#[48,49,120,122]⟩:aS)[0]'h).toNat=48)/\(∀h:1<(⟨#[48,49,120,122]⟩:aS).size,((⟨#[48,49,120,122]⟩:aS)[1]'h).toNat=49)/\
  (∀h:2<(⟨#[48,49,120,122]⟩:aS).size,((⟨#[48,49,120,122]⟩:aS)[2]'h).toNat=120)/\(∀h:3<(⟨#[48,49,120,122]⟩:aS).size,((⟨#[48,49,120,122]⟩:aS)[3]'h).toNat=122):=⟨λ_=>rfl,λ_=>rfl,λ_=>rfl,λ_=>rfl⟩
theorem ZoO {c:ci} :(c.toNat=48->pH c=0)/\(c.toNat=49->pH c=1)/\(c.toNat=120->pH c=2)/\(c.toNat=122->pH c=3)/\(c.toNat≠48->c.toNat≠49->c.toNat≠120->c.toNat≠122->pH c= -1):=by have e:∀k:ci,c.toNat=k.toNat->c=k:=λk h=>UInt8.toNat_inj.1 h;refine⟨λh=>by rw[e 48 h];rfl,λh=>by rw[e 49 h];rfl,λh=>by rw[e 120 h];rfl,λh=>by rw[e 122 h];rfl,λh0 h1 g l=> ?_⟩;rcases GE c with ⟨rfl,h⟩|⟨rfl,h⟩|⟨rfl,h⟩|⟨rfl,h⟩|⟨_,_,_,_,h⟩;exact absurd rfl h0;exact absurd rfl h1;exact absurd rfl g;exact absurd rfl l;unfold pH;rw[h];rfl
theorem Qf (c:ci) (w:au):Calls prog 107 #[.int .u8 (c.toNat:Int)] w λx w'=>x=.returned (pH c:Int)/\w=w':=by
 obtain⟨f0,f1,p,q,u⟩:=ZoO (c:=c);obtain⟨I,M,Q,S⟩:=Zd9;obtain⟨R,t⟩:=ay (pH c);rw[t] at f0 f1 p q u⊢;obtain⟨C,z⟩:=ay c.toNat;rw[z] at f0 f1 p q u⊢;obtain⟨B,D,E,F,G⟩:=ia f0 f1 p q u;clear t z f0 f1 p q u;go_in;go_wp2;go_loopw [4] (λy wr=>∃i:Nat,i<=4/\y=i/\Hid ((0<i->C≠48)/\(1<i->C≠49)/\(2<i->C≠120)/\(3<i->C≠122))/\wr=w) (λy _=>(4-intOf y).toNat);exact⟨0,O,rfl,J ⟨λh=>O,λh=>O,λh=>O,λh=>O⟩,rfl⟩;obtain⟨i,hi,rfl,l,rfl⟩:=hrel;rcases(show i=0\/i=1\/i=2\/i=3\/i=4 by omega) with rfl|rfl|rfl|rfl|rfl;.by_cases g:C=48;have t:=B.o g;exact ER;have hb:((48:Int)==C)=false:=rY;go_wp2;refine⟨⟨1,O,rfl,J ⟨λ_=>g,λh=>O,λh=>O,λh=>O⟩,mL⟩,?_⟩;simp[intOf]
 .by_cases g:C=49;have t:=D.o g;exact ER;have hb:((49:Int)==C)=false:=rY;have k:=l.o;go_wp2;refine⟨⟨2,O,rfl,J ⟨λ_=>k.1 O,λ_=>g,λh=>O,λh=>O⟩,mL⟩,?_⟩;simp[intOf]
 .by_cases g:C=120;have t:=E.o g;exact ER;have hb:((120:Int)==C)=false:=rY;have k:=l.o;go_wp2;refine⟨⟨3,O,rfl,J ⟨λ_=>k.1 O,λ_=>k.2.1 O,λ_=>g,λh=>O⟩,mL⟩,?_⟩;simp[intOf]
 .by_cases g:C=122;have t:=F.o g;exact ER;have hb:((122:Int)==C)=false:=rY;have k:=l.o;go_wp2;refine⟨⟨4,O,rfl,J ⟨λ_=>k.1 O,λ_=>k.2.1 O,λ_=>k.2.2.1 O,λ_=>g⟩,mL⟩,?_⟩;simp[intOf]
 have k:=l.o;have t:=G.o (k.1 O) (k.2.1 O) (k.2.2.1 O) (k.2.2.2 O);go_wp2;go_returns;exact⟨by first|rfl|(rw[t];rfl),rfl⟩
theorem KJ (n:Nat) (g:n<4) (w:au):Calls prog 137 #[n] w λx w'=>x=.returned (.tuple #[.int .u8 ((ch n).toNat:Int),true])/\w=w':=by
 rcases(show n=0\/n=1\/n=2\/n=3 by omega) with rfl|rfl|rfl|rfl
 all_goals
  go_in;go_wp2;go_returns;exact⟨rfl,rfl⟩
def wE (c:ci):Nat:=if cd c<4 then cd c else 2
theorem ZoP (c:ci):wE c<4:=by unfold wE;split<;>omega
theorem Zez (c:ci) (w:au):Calls prog 364 #[.int .u8 (c.toNat:Int)] w λx w'=>x=.returned (wE c)/\w=w':=by have H:=J (Qf c w);unfold pH wE at*;by_cases h:cd c<4;rw[aP h] at H⊢;generalize (c.toNat:Int)=C at*;generalize cd c=k at*;have h0:(0:Int)<=k:=O;exact PD;rw[az h] at H⊢;generalize (c.toNat:Int)=C at*;clear h;exact PD
theorem Zcw (c:ci) (w:au):Calls prog 71 #[.int .u8 (c.toNat:Int)] w λx w'=>x=.returned (nV c)/\w=w':=by
 have H:=J (Qf c w);have h:decide (0<=pH c)=nV c:=by unfold pH nV;by_cases h:cd c<4;rw[aP h];simp[h];rw[az h];simp[h]
 generalize (c.toNat:Int)=C at*;generalize pH c=k at*;go_in;go_wp21;refine cq H.o ?_;go_wp2;go_returns;exact⟨by first|rfl|(rw[h]),rfl⟩
def nU (c:ci):ci:=ch (if wE c<2 then 1-wE c else wE c)
theorem ZjS (w:au):(Instr.index 253 (.agg #[.int .u8 49,.int .u8 48,.int .u8 120,.int .u8 122]) (0:Int)).run prog w=.ok (.int .u8 49) w:=qH
theorem ZjT (w:au):(Instr.index 253 (.agg #[.int .u8 49,.int .u8 48,.int .u8 120,.int .u8 122]) (1:Int)).run prog w=.ok (.int .u8 48) w:=qH
theorem ZjU (w:au):(Instr.index 253 (.agg #[.int .u8 49,.int .u8 48,.int .u8 120,.int .u8 122]) (2:Int)).run prog w=.ok (.int .u8 120) w:=qH
theorem ZjV (w:au):(Instr.index 253 (.agg #[.int .u8 49,.int .u8 48,.int .u8 120,.int .u8 122]) (3:Int)).run prog w=.ok (.int .u8 122) w:=qH
theorem Z8F (c:ci) (w:au):Calls prog 361 #[.int .u8 (c.toNat:Int)] w λx w'=>x=.returned (.int .u8 ((nU c).toNat:Int))/\w=w':=by
 have H:=J (Zez c w);have g:=ZoP c;unfold nU;generalize (c.toNat:Int)=C at*;generalize wE c=k at*;have r0:=ZjS w;have l:=ZjT w;have p:=ZjU w;have q:=ZjV w;rcases(show k=0\/k=1\/k=2\/k=3 by omega) with rfl|rfl|rfl|rfl
 all_goals
  go_in;go_wp21;refine cq H.o ?_;go_wp2;go_returns;exact⟨rfl,rfl⟩
def cn (k:Nat) (v:ax):Nat:=(v.filter (λc=>cd c==k)).length
theorem k_ (k:Nat) (v:ax) (c:ci):cn k (v++[c])=cn k v+if cd c=k then 1 else 0:=by unfold cn;grind
theorem vn (k:Nat) (v:ax):cn k v<=v:=List.length_filter_le _ _
theorem Mf (v:ax):cn 0 v+cn 1 v+cn 2 v+cn 3 v<=v/\(cn 0 v+cn 1 v+cn 2 v+cn 3 v=v.length↔∀c∈v,cd c<4)/\(cn 0 v+cn 1 v=v.length↔∀c∈v,cd c<2)/\((∀c∈v,cd c<4)->(cn 2 v+cn 3 v=0↔∀c∈v,cd c<2)):=by
 induction v with
 |nil=>simp[cn]
 |cons a r ih=>
  have key:∀k,cn k (a::r)=cn k r+if cd a=k then 1 else 0:=λk=>by unfold cn;grind
  grind
theorem XV (v:ax) (i:Nat) (h:i<v) (g:i<(bs v).size):((bs v)[i]'g)=v[i]'h:=by simp[bs];rfl
def pI (v:ax):Array aJ:= #[.int .i64 (cn 0 v:Int),.int .i64 (cn 1 v:Int),.int .i64 (cn 2 v:Int),.int .i64 (cn 3 v:Int)]
theorem Zi7 (v:ax) (c:ci) (k:Nat) (g:cd c=k) (h:k<4):(pI v).setIfInBounds k ((cn k v:Int)+1:Int)=pI (v++[c]):=by unfold pI;simp only[k_,g];rcases(show k=0\/k=1\/k=2\/k=3 by omega) with rfl|rfl|rfl|rfl<;>simp
theorem Zi6 (v:ax) (c:ci) (h:¬cd c<4):pI (v++[c])=pI v:=by unfold pI;simp only[k_];rw[az O,az O,az O,az O];rfl
theorem J' (v:ax) (e1:v.length<=1099511627776) (w:au):
  Calls prog 190 #[.string (bs v)] w (bN w (.agg (pI v))):=by
 have G:(bs v).size=v:=Z0 v;have c4:=J (((bi w w).alloc aW (.cells #[.int .i64 0,.int .i64 0,.int .i64 0,.int .i64 0] 260)).alloc (by simp) (.cells #[.int .i64 0,.int .i64 0,.int .i64 0,.int .i64 0] 260));have c6:=J ((Bk.new w 260 #[.int .i64 0,.int .i64 0,.int .i64 0,.int .i64 0]).alloc (.cells #[.int .i64 0,.int .i64 0,.int .i64 0,.int .i64 0] 260));have a0:=Bk.new (w.alloc (.cells #[.int .i64 0,.int .i64 0,.int .i64 0,.int .i64 0] 260)) 260 #[.int .i64 0,.int .i64 0,.int .i64 0,.int .i64 0];rw[World.size_alloc] at a0;have b6:=J a0;have a9:Hid (∀(i:Nat) (h:i<v.length) (a2:i<(bs v).size),(bs v)[i]'a2=v[i]'h):=J (λi h a2=>XV v i h a2);obtain⟨n,a3⟩:=ay v.length;obtain⟨S,b0⟩:=ay (bs v);rw[b0] at G a9⊢;rw[a3] at G e1;have I:=J a3;have a7:=J G;clear a3 b0 a0 G;go_in;go_wp2;rw[a7.o];go_loopw [8] (λa4 wr=>∃i:Nat,i<=n/\a4=(i:Int)/\Hid (Bk wr w 260 #[.int .i64 0,.int .i64 0,.int .i64 0,.int .i64 0])/\Hid (Bk wr (w.heap.size+1) 260 (pI (v.take i)))/\Hid (Below w w wr)) (λa4 _=>(n-intOf a4).toNat);exact⟨0,cf _,rfl,c6,b6,c4⟩;obtain⟨i,hi,rfl,l,g,hb⟩:=hrel;by_cases ab:i<n
 .have a6:i<v.length:=xi;have f8:i<S.size:=(by rw[a7.o];exact ab);have a8:=a9.o i a6;have E:v.take (i+1)=v.take i++[v[i]]:=dD a6;obtain⟨c,d8⟩:=ay v[i];rw[d8] at a8 E;have e6:∀h:i<S.size,(S[i]'h).toNat=c.toNat:=λh=>(by rw[a8 h]);have e8:(i:Int)<n:=O;have f7:(0:Int)<=i:=O;have d2:cn 0 (v.take i)<=i/\cn 1 (v.take i)<=i/\cn 2 (v.take i)<=i/\cn 3 (v.take i)<=i:=by have M:(v.take i).length<=i:=vW;exact⟨cp (vn _ _) M,cp (vn _ _) M,cp (vn _ _) M,cp (vn _ _) M⟩
  obtain⟨c9,c8,d1,d3⟩:=d2;have D:=J (Qf c wr);unfold pH at D;have t:=g.o.cell 0;have B:=g.o.cell 1;have y:=g.o.cell 2;have z:=g.o.cell 3;have f0:=g.o.frozen 0;have f1:=g.o.frozen 1;have f4:=g.o.frozen 2;have f5:=g.o.frozen 3;unfold pI at t B y z;simp only[mK,List.getElem?_cons_zero,List.getElem?_cons_succ] at t B y z;obtain⟨a5,b8,e3,d7⟩:=dm (λk (h:cd c=k) (q:k<4)=>(by rw[E,<-Zi7 _ c k h q];exact Bk.put g.o k ((cn k (v.take i):Int)+1:Int):Bk (wr.setCell ⟨w+1,k,none⟩ ((cn k (v.take i):Int)+1:Int)) (w.heap.size+1) 260 (pI (v.take (i+1))))) (λ(h:¬cd c<4)=>(by rw[E,Zi6 _ c h];exact g.o:Bk wr (w.heap.size+1) 260 (pI (v.take (i+1))))) (λk (u:aJ)=>Bk.off l.o (p:=⟨w+1,k,none⟩) (by simp) u) (λk (u:aJ)=>hb.o.setCell (p:=⟨w+1,k,none⟩) (by simp) u);have d9:=ZqH c;obtain⟨b7,R⟩:∃f:Nat->Nat,(λk=>cn k (v.take i))=f:=⟨_,rfl⟩;have d5:∀k,cn k (v.take i)=b7 k:=λk=>congrFun R k;simp only[d5] at a5 t B y z c9 c8 d1 d3;by_cases q:cd c<4
  .rw[aP q] at D;obtain⟨k,b1⟩:=ay (cd c);rw[b1] at D q;obtain⟨a1,b9,aa⟩:=bF (a5.o k b1 q) (λu=>e3.o k u) (λu=>d7.o k u);rcases(show k=0\/k=1\/k=2\/k=3 by omega) with rfl|rfl|rfl|rfl
   all_goals
    go_wp21;refine cq D.o ?_;go_wp2;refine⟨⟨i+1,ab,ck,J (b9.o _),a1,J (aa.o _)⟩,?_⟩;simp[intOf]<;>omega
  rw[az q] at D;have a1:=J (b8.o q);go_wp21;refine cq D.o ?_;go_wp2;refine⟨⟨i+1,ab,ck,l,a1,hb⟩,?_⟩;simp[intOf]<;>omega
 have c3:i=n:=O;subst c3;have E:v.take i=v:=dU oh;have F:=g.o;rw[E] at F;have t:=F.cell 0;have B:=F.cell 1;have y:=F.cell 2;have z:=F.cell 3;have f6:=l.o.frozen 0;have e7:=l.o.frozen 1;have e5:=l.o.frozen 2;have e9:=l.o.frozen 3;have e4:=l.o.cell 0;have c5:=l.o.cell 1;have c7:=l.o.cell 2;have d4:=l.o.cell 3;unfold pI at t B y z;simp only[mK,List.getElem?_cons_zero,List.getElem?_cons_succ] at t B y z e4 c5 c7 d4;have e2:pI v= #[.int .i64 (cn 0 v:Int),.int .i64 (cn 1 v:Int),.int .i64 (cn 2 v:Int),.int .i64 (cn 3 v:Int)]:=rfl;have R:=J e2;generalize cn 0 v=Q at*;generalize cn 1 v=n1 at*;generalize cn 2 v=n2 at*;generalize cn 3 v=n3 at*;have hF:=J ((((l.o.put 0 Q).put 1 n1).put 2 n2).put 3 n3);have d6:=J ((((hb.o.setCell (p:=⟨w,0,none⟩) aW Q).setCell (p:=⟨w,1,none⟩) aW n1).setCell (p:=⟨w,2,none⟩) aW n2).setCell (p:=⟨w,3,none⟩) aW n3);go_wp2;have b2:=hF.o.cell 0;have b3:=hF.o.cell 1;have b4:=hF.o.cell 2;have b5:=hF.o.cell 3;simp at b2 b3 b4 b5;generalize ((((wr.setCell ⟨w.heap.size,0,none⟩ Q).setCell ⟨w.heap.size,1,none⟩ n1).setCell ⟨w.heap.size,2,none⟩ n2).setCell ⟨w.heap.size,3,none⟩ n3)=WF at*;refine bodyPost_ret (v:=.agg #[.int .i64 (Q:Int),.int .i64 (n1:Int),.int .i64 (n2:Int),.int .i64 (n3:Int)]) (by simp[results,results190,go_sem,b2,b3,b4,b5];try rfl) rfl ?_;exact⟨by rw[R.o],d6.o⟩
theorem YZ (v:ax):(bs v).toList.isEmpty=decide (v=[]):=by
 have h:(bs v).toList.isEmpty=((bs v).toList==(bs []).toList):=by have:(bs ([]:ax)).toList=[]:=Au;rw[this];cases (bs v).toList<;>rfl
 rw[h,lO,beq_iff_eq,fE,ByteArray.toList_eq,ByteArray.toList_eq];exact Iff.rfl
theorem Zpn {v:ax} (h0:v≠[]) (h1:v.length<=128):fH v=decide ((cn 0 v:Int)+(cn 1 v:Int)+(cn 2 v:Int)+(cn 3 v:Int)=(v.length:Int)):=by rw[lO,Zo,fE];obtain⟨_,g,_⟩:=Mf v;constructor;rintro⟨h,_,_⟩;have:=g.2 h;omega;intro h;exact⟨g.1 O,h0,h1⟩
theorem Zps {v:ax} (h:fH v=true):jR v=decide ((cn 2 v:Int)+(cn 3 v:Int)=0):=by obtain⟨a,b,c⟩:=Zo.1 h;rw[lO,Yz,fE];obtain⟨_,_,_,g⟩:=Mf v;constructor;rintro⟨h,_,_⟩;have:=(g a).2 h;omega;intro h;exact⟨(g a).1 O,b,c⟩
theorem xB (v : ax) (y : v.length <= 1099511627776) (w : au) :
    Calls prog 132 #[.string (bs v)] w (bN w (.bool (fH v))):=by
  have t:=YZ v;have q:(bs v).size=v:=Z0 v;by_cases h0:v=[]
  . have hi : fH v = false := by cases h : fH v with
      |false=>rfl
      |true=>exact absurd h0 (Zo.1 h).2.1
    rw[cT h0] at t;rw[hi];exact PF
  rw[cG h0] at t;by_cases h1:128<v.length
  . have hi : fH v = false := by cases h : fH v with
      |false=>rfl
      |true=>have:=(Zo.1 h).2.2;omega
    rw[hi];have E:(128:Int)<((bs v).size:Int):=O;exact PF
  have hi:=Zpn h0 O;have k:=J (J' v y w);have z:pI v= #[.int .i64 (cn 0 v:Int),.int .i64 (cn 1 v:Int),.int .i64 (cn 2 v:Int),.int .i64 (cn 3 v:Int)]:=rfl;rw[z] at k;have c0:=vn 0 v;have c1:=vn 1 v;have c2:=vn 2 v;have D:=vn 3 v;have g:Hid ((bs v).size=v):=J q;have E:¬(128:Int)<((bs v).size:Int):=O;have l:=J hi;have G:v.length<=128:=O;obtain⟨n,u⟩:=ay v.length;rw[u] at l g c0 c1 c2 D G;generalize cn 0 v=F at*;generalize cn 1 v=n1 at*;generalize cn 2 v=n2 at*;generalize cn 3 v=n3 at*;generalize bs v=S at*;clear z q hi h0 h1 u y;go_in;go_wp21;refine aO k.o λw1 p=>?_;have B:=J (p.alloc p.size (.cells #[.int .i64 (F:Int),.int .i64 (n1:Int),.int .i64 (n2:Int),.int .i64 (n3:Int)] 260));go_wp2;go_returns;rw[g.o,l.o];exact⟨Jb,B.o⟩
theorem Bu (v:ax) (u:v.length<=1099511627776) (w:au):
  Calls prog 136 #[.string (bs v)] w (bN w (.bool (jR v))):=by
 have q:=J (J' v u w);have D:pI v= #[.int .i64 (cn 0 v:Int),.int .i64 (cn 1 v:Int),.int .i64 (cn 2 v:Int),.int .i64 (cn 3 v:Int)]:=rfl;rw[D] at q;have l:=J (λW=>xB v u W);have c2:=vn 2 v;have G:=vn 3 v;cases h:fH v
 .have k:jR v=false:=by cases k:jR v with
   |false=>rfl
   |true=>rw[Hq k] at h;cases h
  rw[h] at l;rw[k];generalize cn 0 v=p at*;generalize cn 1 v=n1 at*;generalize cn 2 v=n2 at*;generalize cn 3 v=n3 at*;generalize bs v=S at*;go_in;go_wp21;refine aO q.o λw1 g=>?_;have F:=J (g.alloc g.size (.cells #[.int .i64 (p:Int),.int .i64 (n1:Int),.int .i64 (n2:Int),.int .i64 (n3:Int)] 260));go_wp21;refine aO (l.o _) λE aa=>?_;exact PT
 have k:=Zps h;have I:=(Zo.1 h).2.2;rw[h] at l;rw[k];have y:cn 2 v<=128:=O;have z:cn 3 v<=128:=O;generalize cn 0 v=p at*;generalize cn 1 v=n1 at*;generalize cn 2 v=n2 at*;generalize cn 3 v=n3 at*;generalize bs v=S at*;go_in;go_wp21;refine aO q.o λw1 g=>?_;have B:=J (Bk.new w1 260 #[.int .i64 (p:Int),.int .i64 (n1:Int),.int .i64 (n2:Int),.int .i64 (n3:Int)]);have F:=J (g.alloc g.size (.cells #[.int .i64 (p:Int),.int .i64 (n1:Int),.int .i64 (n2:Int),.int .i64 (n3:Int)] 260));go_wp21;refine aO (l.o _) λE aa=>?_;have t:=Bk.below B.o aa (by simp);have k2:=t.cell 2;have k3:=t.cell 3;simp only[mK,List.getElem?_cons_zero,List.getElem?_cons_succ] at k2 k3;have a1:=J (F.o.trans (aa.mono F.o.size));go_wp2;go_returns;exact⟨Jb,a1.o⟩
theorem Z84 (wd:Int) (v:ax) (p:v.length<=1099511627776) (w:au):
  Calls prog 173 #[wd,bs v] w (bN w (gW wd v)):=by
 have g:=J (xB v p w);have k:(bs v).size=v:=Z0 v;have l:=J k;unfold gW;generalize fH v=b at*;generalize bs v=S at*;clear k;cases b;.go_in;go_wp21;refine aO g.o λw1 z=>?_;exact EZ
 go_in;go_wp21;refine aO g.o λw1 z=>?_;go_wp2;go_returns;rw[l.o];exact⟨Jb,z⟩
end Go.Proofs.Y
namespace Wv
open Go.Proofs.Tryz Go Go.RowKit
variable{R:ax}{g:Nat}{w:au}
def nt (w:au) (g:Nat) (e:TypeId) (R:ax):Prop:=∃k l sp,w.heap[g]? =some (.cells k e l)/\k.toList=R.map bv++sp/\R.length<=l.1
theorem nt.lt {e:TypeId} (h:nt w g e R):g<w:=by obtain⟨k,l,sp,h1,_⟩:=h;exact(Array.getElem?_eq_some_iff.1 h1).1
theorem nt.cell {e:TypeId} (h:nt w g e R) (i:Nat) (hi:i<R):w.cell? (g,i)=some (bv R[i])/\w.frozen? (g,i)=false:=by obtain⟨l,p,sp,h1,k,q⟩:=h;constructor;simp only[World.cell?,h1];rw[<-Array.getElem?_toList,k,List.getElem?_append_left (by rw[dc];exact hi),jV,fD hi];rfl;simp only[World.frozen?,h1];exact fp
theorem nt.put {e:TypeId} (h:nt w g e R) (i:Nat) (hi:i<R) (x:ci):nt (w.setCell (g,i) (bv x)) g e (R.set i x):=by obtain⟨k,l,sp,h1,p,q⟩:=h;refine⟨k.setIfInBounds i (bv x),l,sp,?_,?_,by rw[og];exact q⟩;simp[World.setCell,Array.getElem?_modify,h1];rw[Array.toList_setIfInBounds,p,List.set_append_left _ _ (by rw[dc];exact hi),List.map_set]
theorem nt.below {w':au} {B:Nat} {e:TypeId} (h:nt w g e R) (hb:Below B w w') (t:g<B):nt w' g e R:=by obtain⟨k,l,sp,h1,p,q⟩:=h;exact⟨k,l,sp,(hb.block g t).trans h1,p,q⟩
theorem nt.new (w:au) (e:TypeId) (s:aS) (cap:Nat) (z:Nat×Nat) (g:s.size<=z.1):nt (w.alloc (.cells (bytesRow s cap) e z)) w e s.data.toList:=by refine⟨bytesRow s cap,z,(Array.replicate (cap-s.size) (.int .u8 0)).toList,?_,?_,by rw[Array.length_toList];exact g⟩;show(w.heap.push _)[w.heap.size]? =_;simp;unfold bytesRow;rw[Array.toList_append,Array.toList_map];rfl
end Wv
namespace Go.Proofs.Y
open Tryz Wv Go.RowKit
theorem ZmF (v:ax) (h:fH v=true):qX v=v.map nU:=by unfold qX;apply List.map_congr_left;intro c g;have:=(Zo.1 h).1 c g;unfold nU wE;rw[aP this]
theorem Ziw (v:ax) (b2:v.length<=1099511627776) (w:au):
  Calls prog 134 #[bs v,.func (.func 361) #[] #[]] w (bN w (bs (v.map nU))):=by
 have z:=run_bytes_of_string (P:=prog) w 9 88 5 (bs v) underlying9 underlying88 underlying5;have a7:(bs v).size=v:=Z0 v;have q:=nt.new w.drew 5 (bs v) (grownCap w (bs v).size 0 5) ((bytesRow (bs v) (grownCap w (bs v).size 0 5)).size,(bytesRow (bs v) (grownCap w (bs v).size 0 5)).size+1) (by unfold bytesRow;simp);have Q:=J (((bi w w).drew).alloc aW (.cells (bytesRow (bs v) (grownCap w (bs v).size 0 5)) 5 ((bytesRow (bs v) (grownCap w (bs v).size 0 5)).size,(bytesRow (bs v) (grownCap w (bs v).size 0 5)).size+1)));have b0:(bs v).data.toList=v:=rfl;rw[b0] at q;have F:=J (show nt _ w 5 v from q);have b3:=J (λc W=>Z8F c W);obtain⟨n,D⟩:=ay v.length;obtain⟨cap,t⟩:=ay (grownCap w (bs v).size 0 5);rw[t] at z Q F;have b9:n<=cap:=Rj;generalize w.drew.alloc (.cells (bytesRow (bs v) cap) 5 ((bytesRow (bs v) cap).size,(bytesRow (bs v) cap).size+1))=W0 at*;rw[a7,D] at z;rw[D] at b2;have I:=J D;obtain⟨S,b1⟩:=ay (bs v);rw[b1] at z⊢;go_in;go_wp2;go_loopw [12] (λE wr=>∃i:Nat,i<=n/\E=i/\Hid (nt wr w 5 ((v.take i).map nU++v.drop i))/\Hid (Below w w wr)) (λE _=>(n-intOf E).toNat);exact⟨0,cf _,rfl,F,Q⟩;obtain⟨i,hi,rfl,q,hb⟩:=hrel;by_cases ab:i<n;.have R:i<v:=xi;have u:v.take (i+1)=v.take i++[v[i]]:=dD R;have l:v.drop i=v[i]::v.drop (i+1):=kw R;have k:((v.take i).map nU).length=i:=Cv;obtain⟨c,g⟩:=ay v[i];rw[g] at u l;have a2:i<((v.take i).map nU++v.drop i).length:=(by rw[bT,k,jt];omega);obtain⟨h1,b8⟩:=q.o.cell i a2;have b4:((v.take i).map nU++v.drop i)[i]=c:=PO;rw[b4] at h1;have b5:wr.cell? (w,i)=some (.int .u8 (c.toNat:Int)):=h1;have M:=q.o.put i a2 (nU c);have a9:((v.take i).map nU++v.drop i).set i (nU c)=(v.take (i+1)).map nU++v.drop (i+1):=PI;rw[a9] at M;obtain⟨G,a3,a0⟩:=bF M (b3.o c wr) (hb.o.setCell (p:=⟨w,i,none⟩) aW (bv (nU c)));have b7:(i:Int)<n:=O;have c3:(0:Int)<=i:=O;unfold bv at G a0;go_wp21;refine cq a3.o ?_;go_wp2;refine⟨⟨i+1,ab,ck,G,a0⟩,?_⟩;simp[intOf]<;>omega
 have a6:i=n:=O;subst a6;have u:v.take i=v:=dU oh;have l:v.drop i=[]:=oe oh;have y:=q.o;rw[u,l,fu] at y;have k:(v.map nU)=i:=(by rw[dc,I.o]);have B:=run_convert_bytes_back (P:=prog) wr 88 9 5 ⟨w,0,none⟩ cap (v.map nU) underlying88 underlying5 underlying9 (λj a4=>Rg);rw[k] at B;have a8:(⟨(v.map nU).toArray⟩:aS)=bs (v.map nU):=rfl;rw[a8] at B;obtain⟨b6,a1⟩:=ay (bs (v.map nU));rw[a1] at B;have a5:=J a1;exact Ap
theorem ZhA (v:ax) (k:v.length<=1099511627776) (w:au):
  Calls prog 331 #[bs v] w (bN w (bs (if fH v=true then qX v else[]))):=by have g:=J (xB v k w);have l:=J (λW=>Ziw v k W);cases h:fH v;rw[h] at g;rw[az (by simp)];exact OH;rw[h] at g;rw[aP rfl,ZmF v h];generalize bs (v.map nU)=SR at*;generalize bs v=S at*;go_in;go_wp21;refine aO g.o λw1 z=>?_;go_wp21;refine aO (l.o _) λp aa=>?_;have hb:=z.trans (aa.mono z.size);go_wp2;go_returns;exact⟨rfl,hb⟩
theorem ZE (w:au) (o:Obj):Below w w (w.alloc o):=(bi w w).alloc aW o
theorem Zch (w:au) (g n:Nat) (p:n<=128):(Instr.sliceAt 397 (.pointer (some (g,0))) none (some (.int .i64 (n:Int))) none).run prog w=.ok (.slice (some (g,0)) n 128) w:=by have h1:prog.arrayLen 397=128:=qH;have k:prog.underlying 397=some (.array (prog.arrayLen 397) (prog.elem 397)):=qH;have l:∀w,(sizeOf (prog.elem 397)).run prog w=.ok 1 w:=λw=>qH;rw[run_sliceAt_array_h w _ ⟨g,0,none⟩ k .i64 (n:Int) O (by rw[h1];omega),l,h1];unfold slicedAt;simp[Result.andThen,Addr.add]
theorem cd2 {c:ci} (h:cd c<2):c.toNat=48+cd c:=by rcases GE c with ⟨rfl,h1⟩|⟨rfl,h1⟩|⟨_,h1⟩|⟨_,h1⟩|⟨_,_,_,_,h1⟩;rfl;rfl;all_goals omega
theorem ZnF {a b:ax} {k:Nat} (c:Nat) (g:k<a) (hb:k<b):sm (a.drop k) (b.drop k) c=(UInt8.ofNat (48+(cd a[k]+cd b[k]+(sm (a.drop (k+1)) (b.drop (k+1)) c).2) % 2)::(sm (a.drop (k+1)) (b.drop (k+1)) c).1,(cd a[k]+cd b[k]+(sm (a.drop (k+1)) (b.drop (k+1)) c).2)/2):=by rw[kw g,kw hb];rfl
theorem VU (c:Nat) (g:c<=1):∀(a b:ax),(∀x∈a,cd x<2)->(∀x∈b,cd x<2)->(sm a b c).2<=1
 |[],_,_,_=>by simpa [sm] using g
 |_::_,[],_,_=>by simpa [sm] using g
 |x::a,y::b,h1,h2=>by have l:=VU c g a b (λz k=>h1 z (gN _ k)) (λz k=>h2 z (gN _ k));have p:=h1 x fm;have q:=h2 y fm;show(cd x+cd y+(sm a b c).2)/2<=1;omega
def uB (n k:Nat) (g:ax):Array aJ:=((List.replicate k 0++g++List.replicate (128-n) 0).map bv).toArray
theorem Zgs (a b:ax) (c:Nat) (h8:c<=1) (f5:jR a=true) (hb:jR b=true) (f6:a=b.length) (w:au):
  Calls prog 301 #[bs a,bs b,.int .u8 (c:Int)] w (bN w (bs (sm a b c).1)):=by
 obtain⟨a1,a2,a3⟩:=Yz.1 f5;obtain⟨b1,e2,b3⟩:=Yz.1 hb;have G:(bs a).size=a:=Z0 a;have M:(bs b).size=b:=Z0 b;have R:Hid (∀(i:Nat) (h:i<a.length) (g:i<(bs a).size),(bs a)[i]'g=a[i]'h):=J (λi h g=>XV a i h g);have a0:Hid (∀(i:Nat) (h:i<b.length) (g:i<(bs b).size),(bs b)[i]'g=b[i]'h):=J (λi h g=>XV b i h g);obtain⟨n,Q⟩:=ay a.length;have c8:b=n:=O;rw[Q] at G a3;rw[c8] at M;have e3:=J (Bk.new w 397 (Array.replicate 128 (.int .u8 0)));have d9:=J (ZE w (.cells (Array.replicate 128 (.int .u8 0)) 397));have f2:Array.replicate 128 (.int .u8 0:aJ)=uB n n (sm (a.drop n) (b.drop n) c).1:=by have t:a.drop n=[]:=oe O;rw[t];show _=((List.replicate n (0:ci)++[]++List.replicate (128-n) (0:ci)).map bv).toArray;rw[fu,List.replicate_append_replicate,show n+(128-n)=128 by omega,List.map_replicate];rfl
 have d7:=J f2;have e4:(sm (a.drop n) (b.drop n) c).2=c:=by have t:a.drop n=[]:=oe O;rw[t];rfl
 obtain⟨g2,d2,d3,d1,b4,h4⟩:=fF e4 (λk=>VU c h8 (a.drop k) (b.drop k) (λx B=>a1 x (List.mem_of_mem_drop B)) (λx B=>b1 x (List.mem_of_mem_drop B))) (λk (h1:k<a.length) (g:k<b.length)=>ZnF c h1 g) a1 b1 Q;have g6:=J c8;have d6:(sm a b c).1=n:=(by rw[HK a b c f6,Q]);have d5:=J d6;obtain⟨E,g3⟩:=ay (bs a);obtain⟨a8,g4⟩:=ay (bs b);rw[g3] at G R⊢;rw[g4] at M a0⊢;have a6:=J G;have g8:=J M;clear f2 e4 a1 b1 Q c8 g3 g4 G M f5 hb f6 a2 e2 b3 d6;have i4:E.size<=128:=(by rw[a6.o];exact a3);go_in;go_wp2;rw[a6.o];go_loopw [2,8] (λh9 c9 wr=>∃k:Nat,k<=n/\c9=((k:Int)-1:Int)/\h9=.int .u8 (((sm (a.drop k) (b.drop k) c).2:Nat):Int)/\Hid (Bk wr w 397 (uB n k (sm (a.drop k) (b.drop k) c).1))/\Hid (Below w w wr)) (λ_ c9 _=>(intOf c9+1).toNat);exact⟨n,aW,rfl,by rw[g2.o],J (by rw[<-d7.o];exact e3.o),d9⟩;clear e3 d9 d7 g2;obtain⟨k,j0,rfl,rfl,l,hb⟩:=hrel;cases k with
 |succ i=>
  have c7:i<a.length:=(by rw[h4.o];omega);have c5:i<b.length:=(by rw[g6.o];omega);have j3:i<E.size:=(by rw[a6.o];omega);have i0:i<a8.size:=(by rw[g8.o];omega);have z:=d3.o i c7 c5;have a7:=d2.o (i+1);have a4:=d1.o a[i] (dr _);have S:=b4.o b[i] (dr _);have c6:=R.o i c7;have b7:=a0.o i c5;obtain⟨x,B⟩:=ay a[i];obtain⟨y,c4⟩:=ay b[i];rw[B,c4] at z;rw[B] at a4 c6;rw[c4] at S b7;obtain⟨⟨I,b6⟩,hr⟩:=ay (sm (a.drop (i+1)) (b.drop (i+1)) c);rw[hr] at z a7 l;simp only at z a7 l;have g9:∀h:i<E.size,(E[i]'h).toNat=48+cd x:=λh=>(by rw[c6 h,cd2 a4]);have h0:∀h:i<a8.size,(a8[i]'h).toNat=48+cd y:=λh=>(by rw[b7 h,cd2 S]);obtain⟨p,f7⟩:=ay (cd x);obtain⟨q,f8⟩:=ay (cd y);rw[f7] at z a4 g9;rw[f8] at z S h0;have t:((i+1:Nat):Int)-1=(i:Int):=O;rw[t,hr];have i8:(0:Int)<=i:=O;have i6:(i:Int)<n:=O;have i5:(i:Int)<128:=O;have i2:i<128:=O;have b5:=l.o.cell i;have e5:=l.o.frozen i;have d8:=λu=>l.o.put i u;have e8:∀d:ci,(uB n (i+1) I).setIfInBounds i (bv d)=uB n i (d::I):=λd=>by unfold uB;rw[List.setIfInBounds_toArray,<-List.map_set];congr 2;rw[List.replicate_succ',ey,ey,nz _ _ (by rw[iK];exact aW),iK,fv];simp
  have e6:(uB n (i+1) I)[i]? =some (.int .u8 0):=by unfold uB;rw[mK,jV,ey,List.getElem?_append_left (by rw[iK];omega),List.getElem?_replicate,aP O];rfl
  rw[e6] at b5;have a9:=J (λd:ci=>(by rw[<-e8 d];exact d8 (bv d):Bk (wr.setCell (w,i) (bv d)) w 397 (uB n i (d::I))));have f3:=J (λu:aJ=>hb.o.setCell (p:=⟨w,i,none⟩) aW u);unfold bv at a9;obtain⟨D,g0⟩:=ay (p+q+b6);rw[g0] at z;have d4:((UInt8.ofNat (48+D % 2)).toNat:Int)=((48+D % 2:Nat):Int):=fp;have g5:=J (show Bk (wr.setCell (w,i) (.int .u8 ((48+D % 2:Nat):Int))) w 397 (uB n i (sm (a.drop i) (b.drop i) c).1) by have:=a9.o (UInt8.ofNat (48+D % 2));rw[d4] at this;rw[z];exact this);have h6:=J (show(((sm (a.drop i) (b.drop i) c).2:Nat):Int)=((D/2:Nat):Int) by rw[z]);have i7:Go.bits .and .u8 0 1=0:=aZ;have b1:Go.bits .and .u8 1 1=1:=aZ;have e2:Go.bits .and .u8 2 1=0:=aZ;have b3:Go.bits .and .u8 3 1=1:=aZ;clear a9 d4;clear c7 c5 z c6 b7 B c4 hr f7 f8 t d8 e8 e6 l hb d3 d2 d1 b4 R a0;have c3:(p=0\/p=1)/\(q=0\/q=1)/\(b6=0\/b6=1):=O;obtain⟨h1,g,h7⟩:=c3;clear a7 a4 S;rcases h1 with rfl|rfl<;>rcases g with rfl|rfl<;>rcases h7 with rfl|rfl
  all_goals
   go_wp2;go_quiet (fail);have j2:(wr.drewN nq).cell? (w,i)=some (.int .u8 0):=b5;have i1:(wr.drewN nq).frozen? (w,i)=false:=e5;have g7:Hid (Bk ((wr.drewN nq).setCell (w,i) (.int .u8 ((48+D % 2:Nat):Int))) w 397 (uB n i (sm (a.drop i) (b.drop i) c).1)):=J g5.o;have h5:Hid (∀u:aJ,Below w w ((wr.drewN nq).setCell (w,i) u)):=J (λu=>mU (f3.o u) nq);clear b5 e5 g5 f3;generalize wr.drewN nq=W at*;subst g0;go_wp2;refine⟨⟨i,O,ck,by rw[h6.o];rfl,J (by exact g7.o),J (h5.o _)⟩,?_⟩;simp[intOf]<;>omega
 |zero=>
  have t:((0:Nat):Int)-1= -1:=rfl;rw[t];simp only[Al] at l⊢;have g1:=d5.o;have e9:∀j (F:j<(sm a b c).1.length),wr.cell? (w,0+j)=some (.int .u8 (((sm a b c).1[j]).toNat:Int)):=λj F=>by rw[jW,l.o.cell j];unfold uB;rw[mK,jV,List.replicate_zero,pX,List.getElem?_append_left F,fD F];rfl
  have b8:=run_convert_bytes_back (P:=prog) wr 88 9 5 ⟨w,0,none⟩ 128 (sm a b c).1 underlying88 underlying5 underlying9 (λj F=>by rw[Go.WideShapes.add_plain];exact e9 j F);rw[g1] at b8;have e7:(⟨((sm a b c).1).toArray⟩:aS)=bs (sm a b c).1:=rfl;rw[e7] at b8;obtain⟨i3,b9⟩:=ay (bs (sm a b c).1);rw[b9] at b8;have a5:=J b9;have j1:(0:Int)<=n:=O;have i9:(n:Int)<=128:=O;generalize (sm a b c).2=c2 at*;clear g1 e9 e7 b9 l d3 d2 d1 b4 R a0 d5 t;have f9:=Zch wr w n O;have f4:(E.size:Int)=n:=(by rw[a6.o]);exact Ap
theorem Zhu (a b:ax) (I:a.length<=1099511627776) (hb:b.length<=1099511627776) (w:au):
  Calls prog 274 #[bs a,bs b] w (bN w (.tuple #[bs (qf a b).1,.bool (qf a b).2])):=by
 have Ha:=J (Bu a I w);have q:=J (λW=>Bu b hb W);have k:(bs a).size=a:=Z0 a;have l:(bs b).size=b:=Z0 b;have p:bs ([]:ax)=⟨#[]⟩:=rfl;unfold qf;cases y:jR a;exact NU;cases B:jR b;exact NB;rw[y] at Ha;rw[B] at q;by_cases t:a=b.length;.have F:=J (λW=>Zgs a b 0 O y B t W);rw[aP ⟨rfl,rfl,t⟩];have e2:(((bs a).size:Int) !=((bs b).size:Int))=false:=Ff;have E:=F;simp only;generalize bs (sm a b 0).1=SR at*;clear k l p y B t E;generalize bs a=g at*;generalize bs b=u at*;go_in;go_wp21;refine aO Ha.o λw1 z=>?_;go_wp21;refine aO (q.o _) λw2 aa=>?_;have D:=z.trans (aa.mono z.size);clear z aa;go_wp21;refine aO (F.o _) λQ G=>?_;have M:=D.trans (G.mono D.size);clear D G;go_wp2;go_returns;exact⟨rfl,M⟩
 exact Od
theorem Zer {v:ax} (h:jR v=true):jR (qX v)=true/\(qX v)=v.length:=by obtain⟨a1,a2,a3⟩:=Yz.1 h;have g:(qX v)=v.length:=(by unfold qX;rw[dc]);refine⟨Yz.2 ⟨λc k=> ?_,λe=> ?_,O⟩,g⟩;unfold qX at k;obtain⟨d,hd,rfl⟩:=iV.1 k;have:=a1 d hd;rw[aP this,HP _ O];omega;rw[e] at g;exact a2 (gx g.symm)
theorem Zhv (a b:ax) (M:a.length<=1099511627776) (hb:b.length<=1099511627776) (w:au):
  Calls prog 320 #[bs a,bs b] w (bN w (.tuple #[bs (vz a b).1,.bool (vz a b).2])):=by
 have Ha:=J (Bu a M w);have q:=J (λW=>Bu b hb W);have k:(bs a).size=a:=Z0 a;have l:(bs b).size=b:=Z0 b;have p:bs ([]:ax)=⟨#[]⟩:=rfl;unfold vz;cases y:jR a;exact NU;cases B:jR b;exact NB;rw[y] at Ha;rw[B] at q;by_cases t:a=b.length;.obtain⟨k1,k2⟩:=Zer y;have Q:=J (λW=>Zgs b (qX a) 1 O B k1 O W);have F:=J (λW=>ZhA a M W);rw[aP (Hq y)] at F;rw[aP ⟨rfl,rfl,t⟩];have e2:(((bs a).size:Int) !=((bs b).size:Int))=false:=Ff;simp only;generalize bs (sm b (qX a) 1).1=SR at*;generalize bs (qX a)=SI at*;clear k l p y B t k1 k2;generalize bs a=g at*;generalize bs b=u at*;go_in;go_wp21;refine aO Ha.o λw1 z=>?_;go_wp21;refine aO (q.o _) λw2 aa=>?_;have D:=z.trans (aa.mono z.size);clear z aa;go_wp21;refine aO (F.o _) λS G=>?_;have E:=D.trans (G.mono D.size);clear D G;go_wp21;refine aO (Q.o _) λa0 I=>?_;have R:=E.trans (I.mono E.size);clear E I;go_wp2;go_returns;exact⟨rfl,R⟩
 exact Od
theorem DP (a b:ci):((a.toNat:Int)==b.toNat)=decide (a=b):=by rw[lO,beq_iff_eq,fE];exact⟨λh=>UInt8.toNat_inj.1 O,λh=>rr⟩
theorem To (v:ax) (d6:v.length<=1099511627776) (w:au):
  Calls prog 176 #[bs v] w (bN w (bs (fJ v))):=by
 have g:=J (xB v d6 w);have a5:bs ([]:ax)=⟨#[]⟩:=rfl;unfold fJ;cases h:fH v;rw[h] at g;rw[az (by simp),a5];clear a5;exact OH;rw[h] at g;rw[aP rfl];obtain⟨h1,b8,d5⟩:=Zo.1 h;have b0:=J b8;clear a5 h h1 b8;go_in;go_wp21;refine aO g.o λw1 z=>?_;have b3:=J z;clear z g;go_wp2
 go_loopw [0] (λa7 wr=>∃u:ax,a7=.string (bs u)/\Hid (rN u=rN v)/\Hid (u≠[])/\u.length<=128/\Hid (Below w w wr)) (λa7 _=>match a7 with
  |.string s=>s.size
  |_=>0)
 exact⟨v,rfl,J rfl,b0,d5,b3⟩;clear b3 b0;obtain⟨u,rfl,a3,b1,a2,hb⟩:=hrel;have G:(bs u).size=u:=Z0 u;have D:=A0 (bs u) 1;rw[Zk] at D;go_upto_region 3 with fail;go_cut [30] (λa8 wx=>∃q:Bool,a8=.bool q/\Hid ((q=true/\∃a b r,u=a::b::r/\a=fr b)\/(q=false/\rN u=u))/\∃k,wx=wr.drewN k)
 case first=>
  clear D a3 hb;match u,b1.o with
  |[c],_=>have h0:decide ((1:Int)<((bs [c]).size:Int))=false:=(by rw[G];rfl);have h1:¬(1:Int)<((bs [c]).size:Int):=(by rw[G];simp);generalize bs [c]=S at*;clear G;go_quiet (fail);go_wp2;go_meet;case rel=>exact⟨false,rfl,J (.inr ⟨rfl,rfl⟩),_,rfl⟩
  |a::b::r,_=>
   have M:(bs (a::b::r)).size=r.length+2:=(by rw[G];rfl);have d2:∀a1:0<(bs (a::b::r)).size,((bs (a::b::r))[0]'a1).toNat=a.toNat:=λa1=>(by rw[XV _ 0 (by simp)];rfl);have d3:∀a1:1<(bs (a::b::r)).size,((bs (a::b::r))[1]'a1).toNat=b.toNat:=λa1=>(by rw[XV _ 1 (by simp)];rfl);have b2:(1:Int)<((bs (a::b::r)).size:Int):=(by rw[M];omega);have e1:decide ((1:Int)<((bs (a::b::r)).size:Int))=true:=cT b2;have d9:0<(bs (a::b::r)).size:=O;have e2:1<(bs (a::b::r)).size:=O;have E:=DP a b;have t:=DP a 49;have y:=DP a 48;have F:=DP b 49;have c7:(((49:ci).toNat:Nat):Int)=49:=rfl;have c8:(((48:ci).toNat:Nat):Int)=48:=rfl;rw[c7] at t F;rw[c8] at y;have R:((a.toNat:Int) !=49)= !decide (a=49):=(by rw[bne,t]);have b4:fr b=if b=49 then 48 else b:=rfl;have c9:=KA a b r;have p:=J b4;have Q:=J c9;obtain⟨A,b9⟩:=ay a.toNat;obtain⟨B,c4⟩:=ay b.toNat;rw[b9] at d2 E t y R;rw[c4] at d3 E F;generalize bs (a::b::r)=S at*;clear G M c7 c8 b4 c9 b9 c4 a2;by_cases c1:a=b
   .rw[cT c1] at E;by_cases c2:a=49;.rw[cT c2] at t R;have l:¬a=48:=(by rw[c2];decide);rw[cG l] at y;have I:Hid (rN (a::b::r)=a::b::r):=J (by rw[Q.o,az];rw[p.o,<-c1,aP c2,c2];decide);clear c1 c2 l p Q t F;go_quiet (fail);go_wp2;go_meet;case rel=>exact⟨false,by simp[E,R,y],J (.inr ⟨rfl,I.o⟩),_,rfl⟩
    rw[cG c2] at t R;have a4:Hid (a=fr b):=J (by rw[p.o,<-c1,az c2]);clear c1 c2 p Q t F y;go_quiet (fail);go_wp2;go_meet;case rel=>exact⟨true,by simp[E,R],J (.inl ⟨rfl,a,b,r,rfl,a4.o⟩),_,rfl⟩
   rw[cG c1] at E;by_cases c2:a=48
   .rw[cT c2] at y;by_cases l:b=49;.rw[cT l] at F;have a4:Hid (a=fr b):=J (by rw[p.o,aP l,c2]);clear c1 c2 l p Q t R;go_quiet (fail);go_wp2;go_meet;case rel=>exact⟨true,by simp[E,y,F],J (.inl ⟨rfl,a,b,r,rfl,a4.o⟩),_,rfl⟩
    rw[cG l] at F;have I:Hid (rN (a::b::r)=a::b::r):=J (by rw[Q.o,az];rw[p.o,az l];exact c1);clear c1 c2 l p Q t R;go_quiet (fail);go_wp2;go_meet;case rel=>exact⟨false,by simp[E,y,F],J (.inr ⟨rfl,I.o⟩),_,rfl⟩
   rw[cG c2] at y;have I:Hid (rN (a::b::r)=a::b::r):=J (by rw[Q.o,az];rw[p.o];by_cases l:b=49;rw[aP l];exact c2;rw[az l];exact c1);clear c1 c2 p Q t R F;go_quiet (fail);go_wp2;go_meet;case rel=>exact⟨false,by simp[E,y],J (.inr ⟨rfl,I.o⟩),_,rfl⟩
 obtain⟨q,rfl,a9,k,rfl⟩:=hcut;have b7:=J (mU hb.o k);rcases a9.o with ⟨rfl,a,b,r,a0,c5⟩|⟨rfl,I⟩;.have d7:Hid (rN (b::r)=rN v):=J (by rw[<-a3.o,a0,KA,aP c5]);have b5:u.drop 1=b::r:=(by rw[a0];rfl);rw[b5] at D;have b2:(1:Int)<=((bs u).size:Int):=(by rw[G,a0];exact fp);have c6:1<=(bs u).size:=O;have d1:(b::r).length<=128:=(by rw[a0] at a2;simp at a2⊢;omega);have b6:(bs (b::r)).size<u:=(by rw[Z0,a0];simp);have d8:=J b6;clear b6;have a6:Hid (b::r≠[]):=J (by simp);clear a9 a0 c5 b5 a3 b1 hb G a2;generalize bs u=S at*;go_wp2;refine⟨⟨b::r,rfl,d7,a6,d1,b7⟩,?_⟩;show(bs (b::r)).size<(bs u).size;rw[Z0 u];exact d8.o
 have d4:Hid (bs u=bs (rN v)):=J (by rw[<-a3.o,I]);clear a9 I D G;go_wp2;go_returns;exact⟨by rw[<-d4.o];rfl,b7.o⟩
theorem H_ (c:ci):∀n,Lib.repeatL [c] n=List.replicate n c
 |0=>rfl
 |n+1=>by rw[Lib.repeatL,H_ c n,pS];rfl
theorem G_ (c:ci) (n:Nat) (k:n<=1099511627776) (W:au):
  dt 72 #[.string ⟨#[c]⟩,n] W (bN W (bs (List.replicate n c))):=by have h:=Tryz.strings_Repeat ⟨#[c]⟩ n W O (by rw[show(⟨#[c]⟩:aS).size=1 from rfl];omega);refine h.mono ?_;rintro x w1 ⟨rfl,g⟩;refine⟨?_,g⟩;rw[<-H_];rfl
theorem GU (n:Int) (c:ci) (w:au):
  Calls prog 40 #[n,.int .u8 (c.toNat:Int)] w (bN w (bs (mE n c))):=by
 have g:=J (λW=>Zcw c W);have k:bs ([]:ax)=⟨#[]⟩:=rfl;unfold mE;by_cases h1:n<1;rw[aP (.inl h1),k];clear k g;exact Jl;by_cases z:128<n;rw[aP (.inr (.inl z)),k];clear k g;exact Jl;cases l:nV c;.rw[aP (.inr (.inr rfl)),k];rw[l] at g;clear k l;generalize (c.toNat:Int)=C at*;go_in;go_wp21;refine cq (g.o _) ?_;go_wp2;go_returns;exact⟨rfl,bi _ _⟩
 rw[az (by simp[h1,z])];rw[l] at g;have y:=Vn (P:=prog) 88 9 5 underlying88 underlying5 underlying9 w (c.toNat:Int);have u:UInt8.ofNat (c.toNat:Int).toNat=c:=(by simp);rw[u] at y;obtain⟨m,rfl⟩:∃m:Nat,n=m:=⟨n.toNat,O⟩;rw[ek];have q:=J (λW=>G_ c m O W);have t:=ZE w (.cells #[.int .u8 (c.toNat:Int)] 5);have p:=J t;clear k l u t;generalize (c.toNat:Int)=C at*;generalize bs (List.replicate m c)=SR at*;go_in;go_wp21;refine cq (g.o _) ?_;go_wp21;refine aO (q.o _) λw1 hb=>?_;have D:=p.o.trans (hb.mono p.o.size);clear hb p g q y;exact E2
theorem Zmk (n:Int) (v:ax) (a1:v.length<=1099511627776) (w:au):
  Calls prog 221 #[n,bs v] w (bN w (.tuple #[bs (ext n v).1,((ext n v).2:Int)])):=by
 have p:bs ([]:ax)=⟨#[]⟩:=rfl;have G:(bs v).size=v:=Z0 v;have g:=J (J' v a1 w);unfold ext;by_cases h1:n<1;rw[aP (.inl h1)];exact OI;by_cases b2:128<n;rw[aP (.inr b2)];exact OI;rw[az O];obtain⟨m,rfl⟩:∃m:Nat,n=m:=⟨n.toNat,O⟩;match v,a1 with
 |[],_=>have R:=YZ [];rw[cT rfl] at R;simp only[p] at*;unfold pI at g;generalize (cn 0 []:Int)=k at*;generalize (cn 1 []:Int)=n1 at*;generalize (cn 2 []:Int)=n2 at*;generalize (cn 3 []:Int)=n3 at*;clear G;go_in;go_wp21;refine aO g.o λw1 z=>?_;have q:=J (z.alloc z.size (.cells #[k,n1,n2,n3] 260));clear z;go_wp2;go_returns;exact⟨rfl,q.o⟩
 |c::t,a1=>
  have R:=YZ (c::t);rw[cG (by simp)] at R;obtain⟨s1,a3,s3,b4⟩:=Mf (c::t);have a7:decide ((cn 0 (c::t):Int)+(cn 1 (c::t):Int)+(cn 2 (c::t):Int)+(cn 3 (c::t):Int)=((bs (c::t)).size:Int))=(c::t).all nV:=by rw[lO,fE,tS,G];constructor;intro h x a2;have:=a3.1 O x a2;unfold nV;rw[fE];exact this;intro h;have:=a3.2 (λx a2=>by have:=h x a2;unfold nV at this;simpa using this);omega
  have I:cn 0 (c::t)<=1099511627776/\cn 1 (c::t)<=1099511627776/\cn 2 (c::t)<=1099511627776/\cn 3 (c::t)<=1099511627776:=O;have a9:((cn 0 (c::t):Int)+(cn 1 (c::t):Int)+(cn 2 (c::t):Int)+(cn 3 (c::t):Int) !=((bs (c::t)).size:Int))= !((c::t).all nV):=by rw[<-a7,bne,Bool.not_eq_eq_eq_not,Bool.not_not,lO,beq_iff_eq,fE]
  obtain⟨c3,c4,l2,c5⟩:=I;unfold pI at g;generalize cn 0 (c::t)=k at*;generalize cn 1 (c::t)=n1 at*;generalize cn 2 (c::t)=n2 at*;generalize cn 3 (c::t)=n3 at*;clear s1 a3 s3 b4 a7;simp only;cases a0:(c::t).all nV;rw[aP rfl];rw[a0] at a9;exact NT;rw[az (by simp)];rw[a0] at a9;by_cases ab:(m:Int)<((c::t).length:Int);rw[aP ab];rw[<-G] at ab;exact NT;rw[az ab];have b1:(m:Int)-((bs (c::t)).size:Int)=((m-(c::t).length:Nat):Int):=(by rw[G];omega);have b8:¬(m:Int)<((bs (c::t)).size:Int):=(by rw[G];exact ab);have b7:0<(bs (c::t)).size:=(by rw[G];simp);have b0:∀h:0<(bs (c::t)).size,((bs (c::t))[0]'h).toNat=c.toNat:=λh=>(by rw[XV _ 0 (by simp)];rfl);have a8:bs (List.replicate (m-(c::t).length) (fr c))++bs (c::t)=bs (List.replicate (m-(c::t).length) (fr c)++(c::t)):=Z8 _ _;have a4:=J a8;obtain⟨d,hd⟩:=ay (m-(c::t).length);have c6:d<=128:=O;have b9:(m:Int)<=128:=O;simp only[ek];rw[hd] at b1 a4⊢;have M:=J (λW=>G_ (fr c) d O W);have b5:Hid ((bs (List.replicate d (fr c))).size+(bs (c::t)).size<=128):=J (by rw[Z0,Z0,iK];omega);have a5:UInt8.ofNat ((fr c).toNat:Int).toNat=fr c:=(by simp);have y:=λW=>Vn (P:=prog) 88 9 5 underlying88 underlying5 underlying9 W ((fr c).toNat:Int);rw[a5] at y;have B:((fr c).toNat:Int)=if c=49 then 48 else(c.toNat:Int):=by unfold fr;by_cases h:c=49;rw[aP h,aP h];rfl;rw[az h,az h]
  have Q:=DP c 49;rw[show(((49:ci).toNat:Nat):Int)=49 from rfl] at Q;rw[<-a4.o];obtain⟨A,a6⟩:=ay c.toNat;rw[a6] at b0 B Q;obtain⟨F,hF⟩:=ay (((fr c).toNat:Int));rw[hF] at B y;generalize bs (List.replicate d (fr c))=SR at*;generalize fr c=f at*;clear a4 hd G p a8 a0 a5 a6 hF ab;generalize bs (c::t)=S at*;have b3:SR.size+S.size<=128:=b5.o;by_cases u:c=49;.rw[aP u] at B;rw[cT u] at Q;subst B;clear u;go_in;go_wp21;refine aO g.o λw1 z=>?_;have q:=J (z.alloc z.size (.cells #[k,n1,n2,n3] 260));have l:=J (q.o.alloc q.o.size (.cells #[.int .u8 48] 5));have E:=y (w1.alloc (.cells #[k,n1,n2,n3] 260));rw[World.size_alloc] at E;clear z y q;go_wp21;refine aO (M.o _) λb6 aa=>?_;have D:=l.o.trans (aa.mono l.o.size);clear aa l M E g;exact E2
  rw[az u] at B;rw[cG u] at Q;subst B;clear u;go_in;go_wp21;refine aO g.o λw1 z=>?_;have q:=J (z.alloc z.size (.cells #[k,n1,n2,n3] 260));have l:=J (q.o.alloc q.o.size (.cells #[.int .u8 (A:Int)] 5));have E:=y (w1.alloc (.cells #[k,n1,n2,n3] 260));rw[World.size_alloc] at E;clear z y q;go_wp21;refine aO (M.o _) λb6 aa=>?_;have D:=l.o.trans (aa.mono l.o.size);clear aa l M E g;go_wp2;go_returns;exact⟨rfl,D⟩
theorem Zkw {p q:Nat} (g:p<4) (k:q<4):Go.bits .xor .i64 (p:Int) (q:Int)=((p ^^^ q:Nat):Int):=by rcases(show p=0\/p=1\/p=2\/p=3 by omega) with rfl|rfl|rfl|rfl<;>rcases(show q=0\/q=1\/q=2\/q=3 by omega) with rfl|rfl|rfl|rfl<;>decide
theorem Mb {c:ci} (h:cd c<4):pH c=(cd c:Int):=by unfold pH;rw[aP h]
def tD (a b:ax) (i:Nat):ax:=List.zipWith mx (a.take i) (b.take i)++List.replicate (a.length-i) 0
theorem ZmW (a b:ax) (g:a=b.length) (i:Nat) (hi:i<=a):(tD a b i)=a.length:=by unfold tD;rw[bT,Ak,eC,eC,iK];omega
theorem ZmX (a b:ax) (l:a=b.length) (i:Nat) (g:i<a) (hb:i<b):(tD a b i).set i (mx a[i] b[i])=tD a b (i+1):=by
 have k:(List.zipWith mx (a.take i) (b.take i))=i:=by rw[Ak,eC,eC];omega
 unfold tD
 rw[nz _ _ O,k,fv,dD g,dD hb,
  List.zipWith_append (by rw[eC,eC];omega),show a.length-i=(a.length-(i+1))+1 by omega,pS,List.set_cons_zero];simp
theorem ZhG (a b:ax) (f3:a.length<=1099511627776) (e8:b.length<=1099511627776) (w:au):
  Calls prog 275 #[bs a,bs b] w (bN w (.tuple #[bs (jp a b).1,((jp a b).2:Int)])):=by
 have Ha:=J (xB a f3 w);have q:=J (λW=>xB b e8 W);have k:(bs a).size=a:=Z0 a;have l:(bs b).size=b:=Z0 b;have a8:bs ([]:ax)=⟨#[]⟩:=rfl;unfold jp;cases b0:fH a;rw[b0] at Ha;rw[aP (.inl rfl)];simp only[a8];clear k l a8;generalize bs a=g at*;generalize bs b=u at*;exact P4;cases b4:fH b;rw[b0] at Ha;rw[b4] at q;rw[aP (.inr rfl)];simp only[a8];clear k l a8;exact NP;rw[b0] at Ha;rw[b4] at q;rw[az (by simp)];by_cases t:a=b.length
 .rw[az (by simp[t])];simp only;have c8:(((bs a).size:Int) !=((bs b).size:Int))=false:=Ff;obtain⟨a1,a2,a3⟩:=Zo.1 b0;obtain⟨b1,g8,b3⟩:=Zo.1 b4;have c3:Hid (∀(i:Nat) (h:i<a.length) (a6:i<(bs a).size),(bs a)[i]'a6=a[i]'h):=J (λi h a6=>XV a i h a6);have c5:Hid (∀(i:Nat) (h:i<b.length) (a6:i<(bs b).size),(bs b)[i]'a6=b[i]'h):=J (λi h a6=>XV b i h a6);obtain⟨n,F⟩:=ay a.length;have e1:b=n:=O;have d4:=λW=>Y4 (P:=prog) 88 5 (.int .u8 0) 1 underlying88 qH rfl ((bs a).size:Int) n (by rw[k,F]) O O W;have e7:(Array.replicate n (.int .u8 0:aJ))=((tD a b 0).map bv).toArray:=by unfold tD;exact P5
  obtain⟨b6,b5,c9⟩:=bF e7 (λi (hi:i<=n)=>(show(tD a b i).length=n by rw[ZmW a b t i O,F])) (λi (h1:i<a.length) (a6:i<b.length)=>ZmX a b t i h1 a6);have b8:Hid (tD a b n=List.zipWith mx a b):=J (by unfold tD;exact PG);obtain⟨e4,d1,I,g5⟩:=dm a1 b1 F e1;rw[F] at k;rw[e1] at l;obtain⟨g,f9⟩:=ay (bs a);obtain⟨u,g0⟩:=ay (bs b);rw[f9] at k c8 d4 c3 Ha⊢;rw[g0] at l c8 c5 q⊢;rw[F] at a3;have h3:=J k;have g6:=J l;clear e7 a1 b1 F e1 f9 g0 k l f3 e8 a2 g8 b3 a8 b0 b4 t;go_in;go_wp21;refine aO Ha.o λw1 z=>?_;go_wp21;refine aO (q.o _) λw2 aa=>?_;have D:=z.trans (aa.mono z.size);have nf:=d4 w2;have d3:=Bk.new w2 5 (Array.replicate n (.int .u8 0));rw[b6.o] at d3;have E:=J d3;have R:=J (D.alloc D.size (.cells (Array.replicate n (.int .u8 0)) 5));have f4:=D.size;obtain⟨G,e5⟩:=ay w2.heap.size;rw[e5] at nf f4 E;rw[<-b6.o] at E;generalize w2.alloc (.cells (Array.replicate n (.int .u8 0)) 5)=W0 at*;clear d4 Ha q z aa D d3 e5;rw[b6.o] at E;go_wp2;go_loopw [26] (λe3 wr=>∃i:Nat,i<=n/\e3=(i:Int)/\Hid (Bk wr G 5 ((tD a b i).map bv).toArray)/\Hid (Below w w wr)) (λe3 _=>(n-intOf e3).toNat);exact Cz;clear E R nf b6;obtain⟨i,hi,rfl,a9,hb⟩:=hrel;by_cases ab:i<n
  .have d9:i<a.length:=xi;have d7:i<b.length:=(by rw[g5.o];exact ab);have f8:=c3.o i d9;have e9:=c5.o i d7;have c6:=e4.o a[i] (dr _);have c4:=d1.o b[i] (dr _);have f6:=c9.o i d9 d7;have b9:=b5.o i hi;have b7:=a9.o.put i (bv (mx a[i] b[i]));rw[List.setIfInBounds_toArray,<-List.map_set,f6] at b7;have d2:=a9.o.cell i;rw[mK,jV,fD O] at d2;have g9:=a9.o.frozen i;obtain⟨i0,a7⟩:∃o,(Option.map bv (some (tD a b i)[i]))=some o:=⟨_,rfl⟩;rw[a7] at d2;obtain⟨c7,d8,e2⟩:=bF (λW=>Qf a[i] W) (λW=>Qf b[i] W) (λW=>KJ (cd a[i] ^^^ cd b[i]) (ME _ c6 _ c4).1 W);rw[Mb c6] at c7;rw[Mb c4] at d8;have f7:=Zkw c6 c4;have e6:mx a[i] b[i]=ch (cd a[i] ^^^ cd b[i]):=rfl;rw[e6] at b7;have a0:=J b7;have S:=J (hb.o.setCell (p:=⟨G,i,none⟩) f4 (bv (ch (cd a[i] ^^^ cd b[i]))));unfold bv at a0 S;have g1:∀h:i<g.size,((g[i]'h).toNat:Int)=(a[i].toNat:Int):=λh=>(by rw[f8 h]);have g2:∀h:i<u.size,((u[i]'h).toNat:Int)=(b[i].toNat:Int):=λh=>(by rw[e9 h]);have h0:i<g.size:=(by rw[h3.o];omega);have g4:i<u.size:=(by rw[g6.o];omega);obtain⟨Z,f5⟩:=ay (((ch (cd a[i] ^^^ cd b[i])).toNat:Int));rw[f5] at a0 S e2;clear b7 f6 b9 a7 e6 f8 e9 c6 c4 f5 a9 hb;generalize (cd a[i] ^^^ cd b[i])=M at*;generalize cd a[i]=P at*;generalize cd b[i]=Q at*;have h4:=g1 h0;have h7:=g2 g4;generalize (a[i].toNat:Int)=A at*;generalize (b[i].toNat:Int)=B at*;have i1:(0:Int)<=i:=O;have h9:(i:Int)<n:=O;clear g1 g2 d9 d7 c9 b5 b8 c3 c5 e4 d1;have h5:(i:Int)<g.size:=O;have h6:(i:Int)<u.size:=O;go_wp2
   go_region_with (first
    |(go_at_call 137;with_reducible refine(e2.o _).mono ?_;rintro r g3 ⟨rfl,rfl⟩)
    |(go_at_call 107;with_reducible refine(c7.o _).mono ?_;rintro r g3 ⟨rfl,rfl⟩)
    |(go_at_call 107;with_reducible refine(d8.o _).mono ?_;rintro r g3 ⟨rfl,rfl⟩))
   all_goals
    clear d2 g9 c7 d8 e2;go_wp2;go_roundw;exact O4;simp[intOf]<;>omega
  have g7:i=n:=O;subst g7;have y:=a9.o;rw[b8.o] at y;have b9:(List.zipWith mx a b).length=i:=(by rw[<-b8.o];exact b5.o i aW);have d5:=run_convert_bytes_back (P:=prog) wr 88 9 5 ⟨G,0,none⟩ i (List.zipWith mx a b) underlying88 underlying5 underlying9 (λj a4=>I2);rw[b9] at d5;have f2:(⟨(List.zipWith mx a b).toArray⟩:aS)=bs (List.zipWith mx a b):=rfl;rw[f2] at d5;obtain⟨h8,d6⟩:=ay (bs (List.zipWith mx a b));rw[d6] at d5;have a5:=J d6;clear y b9 f2 d6 a9 c9 b5 b8 c3 c5 e4 d1;exact Ap
 rw[aP t];have c8:(((bs a).size:Int) !=((bs b).size:Int))=true:=(by rw[k,l,kx];omega);simp only[a8];clear k l a8 b0 b4 t;exact NP
