import Derived.Test.YtikecoijpkmnbaaGreatDoorJ08
set_option linter.all false
set_option maxRecDepth 100000
set_option maxHeartbeats 0
theorem Ji{P:Prop}(h:P:=by exact⟨a1,w1,a2,w2,c4,a4,q2.swap,q1.bk,q1.bel⟩):P:=h
namespace Wv
open Go Go.RowKit
structure kZ (wb:World) (B:Nat) (e1:TypeId) (v1:Value) (xs:List Value) (e2:TypeId) (v2:Value) (ys:List Value) (H:Nat) (T:TypeId) (cs:Array Value) (w:World):Prop where
 own1:w.ownsRow B e1 1 v1 xs.length xs
 own2:w.ownsRow B e2 1 v2 ys.length ys
 apart:∀g,v1.ownBlock=some g->v2.ownBlock≠some g
 bk:Bk w H T cs
 bel:Below B wb w
 base:B<=w.heap.size
variable {P:Program} {wb w:aq} {B:Nat} {e1 e2:TypeId} {v1 v2:aI} {xs ys:List aI} {H:Nat} {T:TypeId} {cs:Array aI}
theorem kZ.alloc (h:kZ wb B e1 v1 xs e2 v2 ys H T cs w) (o:Obj):kZ wb B e1 v1 xs e2 v2 ys H T cs (w.alloc o):=
 ⟨h.own1.alloc o,h.own2.alloc o,h.apart,h.bk.alloc o,h.bel.alloc h.base o,co h.base (by simp)⟩
theorem kZ.drew (h:kZ wb B e1 v1 xs e2 v2 ys H T cs w):kZ wb B e1 v1 xs e2 v2 ys H T cs w.drew:=⟨h.own1,h.own2,h.apart,h.bk,h.bel.drew,h.base⟩
theorem kZ.swap (h:kZ wb B e1 v1 xs e2 v2 ys H T cs w):kZ wb B e2 v2 ys e1 v1 xs H T cs w:=⟨h.own2,h.own1,λg h1 k=>h.apart g k h1,h.bk,h.bel,h.base⟩
theorem AZ (t : TypeId) (z : aI) (bytes : Nat) (a2 : P.underlying t = some (.slice e1)) (F : (P.info? e1).map (λi => (i.zero, i.size, i.bytes)) = some (some z, 1, bytes)) (G : z.cells.size = 1) (h : kZ wb B e1 v1 xs e2 v2 ys H T cs w) (S : T ≠ e1) (a : Nat) (x : aI) (M : w.cell? (a,0) = some x) (h1 : x.oneCell' = true) (Q : xs.length + 1 <= maxLen) (I : (xs.length + 1) * bytes <= 140737488355328) :
    ∃q w',(Builtin.append_ #[t,t] t #[v1,.slice (some (a,0)) 1 1]).run P w=.ok q w'/\kZ wb B e1 q (xs++[x]) e2 v2 ys H T cs w'/\(∀b,some b≠v1.ownBlock->b<w.heap.size->w'.cell? ⟨b,0,none⟩=w.cell? ⟨b,0,none⟩):=by obtain⟨i,hi,a3,a1,hb⟩:=info_parts F;obtain ⟨q, w', a0, a4, D, _, l⟩ := run_append_own_at (P := P) w B t t e1 i z 1 bytes a2 hi a3 a1 hb G O v1 xs.length xs h.own1 ⟨a, 0, none⟩ 1 1 [x] rfl (λj u hu => Pt) aO Q I h.base;have y:Fr (λk=>v1.ownBlock=some k) w w':=(Fr.refl _ w).grown D (λk E=>.inl E);refine⟨q,w',a0,⟨aO,Z6 h.own2 y (λg R e=>h.apart g e R),λg R=> ?_,h.bk.grown D (λe=>Z1 h.own1 h.bk (λe=>S e.symm) e.symm),h.bel.grown D h.base (λk E=>(h.own1.lt k E).1),co h.base y.size⟩,λb hb ab=>y.cell (p:=⟨b,0,none⟩) ab (λe=>hb e.symm)⟩;exact Oh
theorem Zkc (t1 k:TypeId) (p q:aI) (b1 l:Nat) (S:P.underlying t1=some (.slice e1)) (i1:(P.info? e1).map (λi=>(i.zero,i.size,i.bytes))=some (some p,1,b1)) (c1:p.cells.size=1) (a0:P.underlying k=some (.slice e2)) (G:(P.info? e2).map (λi=>(i.zero,i.size,i.bytes))=some (some q,1,l)) (c2:q.cells.size=1)
  (h:kZ wb B e1 v1 xs e2 v2 ys H T cs w) (a3:T≠e1) (I:T≠e2) (x y:aI) (E:x.oneCell'=true) (F:y.oneCell'=true) (D:xs+1<=maxLen) (M:(xs.length+1)*b1<=140737488355328) (R:ys+1<=maxLen) (Q:(ys.length+1)*l<=140737488355328):
  (∃a1 w1 a2 w2,(Builtin.append_ #[t1,t1] t1 #[v1,.slice (some (w,0)) 1 1]).run P (w.alloc (.cells #[x] e1))=.ok a1 w1/\(Builtin.append_ #[k,k] k #[v2,.slice (some ⟨w1.heap.size,0,none⟩) 1 1]).run P (w1.alloc (.cells #[y] e2))=.ok a2 w2/\kZ wb B e1 a1 (xs++[x]) e2 a2 (ys++[y]) H T cs w2/\Bk w1 H T cs/\Below B wb w1)/\
  (∃a1 w1 a2 w2,(Builtin.append_ #[t1,t1] t1 #[v1,.slice (some (w,0)) 1 1]).run P ((w.alloc (.cells #[x] e1)).alloc (.cells #[y] e2))=.ok a1 w1/\(Builtin.append_ #[k,k] k #[v2,.slice (some (w.heap.size+1,0)) 1 1]).run P w1=.ok a2 w2/\kZ wb B e1 a1 (xs++[x]) e2 a2 (ys++[y]) H T cs w2/\Bk w1 H T cs/\Below B wb w1)/\
  (∃a1 w1 a2 w2,(Builtin.append_ #[t1,t1] t1 #[v1,.slice (some (w.heap.size+1,0)) 1 1]).run P ((w.alloc (.cells #[y] e2)).alloc (.cells #[x] e1))=.ok a1 w1/\(Builtin.append_ #[k,k] k #[v2,.slice (some (w,0)) 1 1]).run P w1=.ok a2 w2/\kZ wb B e1 a1 (xs++[x]) e2 a2 (ys++[y]) H T cs w2/\Bk w1 H T cs/\Below B wb w1):=by
 have a8:∀g,v1.ownBlock=some g->g<w.heap.size:=λg a7=>(h.own1.lt g a7).2;have a5:(w.alloc (.cells #[x] e1)).cell? (w,0)=some x:=(Bk.new w e1 #[x]).cell 0;have b0:(w.alloc (.cells #[y] e2)).cell? (w,0)=some y:=(Bk.new w e2 #[y]).cell 0;have a9:(w.alloc (.cells #[x] e1))=w.heap.size+1:=(by simp);have a6:(w.alloc (.cells #[y] e2))=w.heap.size+1:=(by simp);refine⟨?_,?_,?_⟩;.obtain⟨a1,w1,c4,q1,_⟩:=AZ t1 p b1 S i1 c1 (h.alloc (.cells #[x] e1)) a3 w x a5 E D M;obtain⟨a2,w2,a4,q2,_⟩:=AZ k q l a0 G c2 (q1.swap.alloc (.cells #[y] e2)) I w1.heap.size y ((Bk.new w1 e2 #[y]).cell 0) F R Q;exact Ji
 .have t:((w.alloc (.cells #[x] e1)).alloc (.cells #[y] e2)).cell? (w,0)=some x:=((Bk.new w e1 #[x]).alloc (.cells #[y] e2)).cell 0;have u:((w.alloc (.cells #[x] e1)).alloc (.cells #[y] e2)).cell? (w.heap.size+1,0)=some y:=by have:=(Bk.new (w.alloc (.cells #[x] e1)) e2 #[y]).cell 0;grind
  obtain⟨a1,w1,c4,q1,k1⟩:=AZ t1 p b1 S i1 c1 ((h.alloc (.cells #[x] e1)).alloc (.cells #[y] e2)) a3 w x t E D M;have z:=(k1 (w.heap.size+1) (λe=>aO) nk).trans u;obtain⟨a2,w2,a4,q2,_⟩:=AZ k q l a0 G c2 q1.swap I (w.heap.size+1) y z F R Q;exact Ji
 have t:((w.alloc (.cells #[y] e2)).alloc (.cells #[x] e1)).cell? (w,0)=some y:=((Bk.new w e2 #[y]).alloc (.cells #[x] e1)).cell 0;have u:((w.alloc (.cells #[y] e2)).alloc (.cells #[x] e1)).cell? (w.heap.size+1,0)=some x:=by have:=(Bk.new (w.alloc (.cells #[y] e2)) e1 #[x]).cell 0;rw[a6] at this;exact this
 obtain⟨a1,w1,c4,q1,k1⟩:=AZ t1 p b1 S i1 c1 ((h.alloc (.cells #[y] e2)).alloc (.cells #[x] e1)) a3 (w.heap.size+1) x u E D M;have z:=(k1 w (λe=>by have:=a8 _ e.symm;omega) (by simp<;>omega)).trans t;obtain⟨a2,w2,a4,q2,_⟩:=AZ k q l a0 G c2 q1.swap I w y z F R Q;exact Ji
