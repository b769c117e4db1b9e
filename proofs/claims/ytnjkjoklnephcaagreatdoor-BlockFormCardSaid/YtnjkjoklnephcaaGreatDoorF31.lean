import Derived.Test.YtnjkjoklnephcaaGreatDoorF08
set_option linter.all false
set_option maxRecDepth 100000
set_option maxHeartbeats 0
theorem Ji{P:Prop}(h:P:=by exact⟨a1,w1,a2,w2,c4,a4,q2.swap,q1.bk,q1.bel⟩):P:=h
namespace Wv
open Go Go.RowKit
structure kZ (wb:World) (B:Nat) (e1:TypeId) (v1:Value) (xs:List Value) (e2:TypeId) (v2:Value) (ys:List Value) (H:Nat) (T:TypeId) (cs:Array Value) (w:World):Prop where
 own1:w.ownsRow B e1 1 v1 xs.length xs
 own2:w.ownsRow B e2 1 v2 ys.length ys
 apart:∀g,v1.ownBlock=some g->v2.ownBlock≠some g
 bk:Bk w H T cs
 bel:Below B wb w
 base:B<=w.heap.size
variable {P:Program} {wb w:aq} {B:Nat} {e1 e2:TypeId} {v1 v2:aI} {xs ys:List aI} {H:Nat} {T:TypeId} {cs:Array aI}
theorem kZ.alloc (h:kZ wb B e1 v1 xs e2 v2 ys H T cs w) (o:Obj):kZ wb B e1 v1 xs e2 v2 ys H T cs (w.alloc o):=
 ⟨h.own1.alloc o,h.own2.alloc o,h.apart,h.bk.alloc o,h.bel.alloc h.base o,co h.base (by simp)⟩
theorem kZ.drew (h:kZ wb B e1 v1 xs e2 v2 ys H T cs w):kZ wb B e1 v1 xs e2 v2 ys H T cs w.drew:=⟨h.own1,h.own2,h.apart,h.bk,h.bel.drew,h.base⟩
theorem kZ.swap (h:kZ wb B e1 v1 xs e2 v2 ys H T cs w):kZ wb B e2 v2 ys e1 v1 xs H T cs w:=⟨h.own2,h.own1,λg h1 d=>h.apart g d h1,h.bk,h.bel,h.base⟩
theorem AZ (t : TypeId) (z : aI) (bytes : Nat) (a0 : P.underlying t = some (.slice e1)) (E : (P.info? e1).map (λi => (i.zero, i.size, i.bytes)) = some (some z, 1, bytes)) (F : z.cells.size = 1) (h : kZ wb B e1 v1 xs e2 v2 ys H T cs w) (L : T ≠ e1) (a : Nat) (x : aI) (M : w.cell? (a,0) = some x) (h1 : x.oneCell' = true) (I : xs.length + 1 <= maxLen) (G : (xs.length + 1) * bytes <= 140737488355328) :
    ∃d w',(Builtin.append_ #[t,t] t #[v1,.slice (some (a,0)) 1 1]).run P w=.ok d w'/\kZ wb B e1 d (xs++[x]) e2 v2 ys H T cs w'/\(∀b,some b≠v1.ownBlock->b<w.heap.size->w'.cell? ⟨b,0,none⟩=w.cell? ⟨b,0,none⟩):=by obtain⟨i,hi,a1,S,hb⟩:=info_parts E;obtain ⟨d, w', Q, a2, y, _, l⟩ := run_append_own_at (P := P) w B t t e1 i z 1 bytes a0 hi a1 S hb F O v1 xs.length xs h.own1 ⟨a, 0, none⟩ 1 1 [x] rfl (λj u hu => Pt) aO I G h.base;have q:Fr (λk=>v1.ownBlock=some k) w w':=(Fr.refl _ w).grown y (λk D=>.inl D);refine⟨d,w',Q,⟨aO,Z6 h.own2 q (λg R e=>h.apart g e R),λg R=> ?_,h.bk.grown y (λe=>Z1 h.own1 h.bk (λe=>L e.symm) e.symm),h.bel.grown y h.base (λk D=>(h.own1.lt k D).1),co h.base q.size⟩,λb hb ab=>q.cell (p:=⟨b,0,none⟩) ab (λe=>hb e.symm)⟩;exact Oh
theorem Zkc (t1 d:TypeId) (k l:aI) (b1 j:Nat) (M:P.underlying t1=some (.slice e1)) (i1:(P.info? e1).map (λi=>(i.zero,i.size,i.bytes))=some (some k,1,b1)) (c1:k.cells.size=1) (Q:P.underlying d=some (.slice e2)) (E:(P.info? e2).map (λi=>(i.zero,i.size,i.bytes))=some (some l,1,j)) (c2:l.cells.size=1)
  (h:kZ wb B e1 v1 xs e2 v2 ys H T cs w) (R:T≠e1) (F:T≠e2) (x y:aI) (z:x.oneCell'=true) (D:y.oneCell'=true) (u:xs+1<=maxLen) (G:(xs.length+1)*b1<=140737488355328) (L:ys+1<=maxLen) (I:(ys.length+1)*j<=140737488355328):
  (∃a1 w1 a2 w2,(Builtin.append_ #[t1,t1] t1 #[v1,.slice (some (w,0)) 1 1]).run P (w.alloc (.cells #[x] e1))=.ok a1 w1/\(Builtin.append_ #[d,d] d #[v2,.slice (some ⟨w1.heap.size,0,none⟩) 1 1]).run P (w1.alloc (.cells #[y] e2))=.ok a2 w2/\kZ wb B e1 a1 (xs++[x]) e2 a2 (ys++[y]) H T cs w2/\Bk w1 H T cs/\Below B wb w1)/\
  (∃a1 w1 a2 w2,(Builtin.append_ #[t1,t1] t1 #[v1,.slice (some (w,0)) 1 1]).run P ((w.alloc (.cells #[x] e1)).alloc (.cells #[y] e2))=.ok a1 w1/\(Builtin.append_ #[d,d] d #[v2,.slice (some (w.heap.size+1,0)) 1 1]).run P w1=.ok a2 w2/\kZ wb B e1 a1 (xs++[x]) e2 a2 (ys++[y]) H T cs w2/\Bk w1 H T cs/\Below B wb w1)/\
  (∃a1 w1 a2 w2,(Builtin.append_ #[t1,t1] t1 #[v1,.slice (some (w.heap.size+1,0)) 1 1]).run P ((w.alloc (.cells #[y] e2)).alloc (.cells #[x] e1))=.ok a1 w1/\(Builtin.append_ #[d,d] d #[v2,.slice (some (w,0)) 1 1]).run P w1=.ok a2 w2/\kZ wb B e1 a1 (xs++[x]) e2 a2 (ys++[y]) H T cs w2/\Bk w1 H T cs/\Below B wb w1):=by
 have a5:∀g,v1.ownBlock=some g->g<w.heap.size:=λg a3=>(h.own1.lt g a3).2;have S:(w.alloc (.cells #[x] e1)).cell? (w,0)=some x:=(Bk.new w e1 #[x]).cell 0;have a7:(w.alloc (.cells #[y] e2)).cell? (w,0)=some y:=(Bk.new w e2 #[y]).cell 0;have a6:(w.alloc (.cells #[x] e1))=w.heap.size+1:=(by simp);have a0:(w.alloc (.cells #[y] e2))=w.heap.size+1:=(by simp);refine⟨?_,?_,?_⟩;.obtain⟨a1,w1,c4,q1,_⟩:=AZ t1 k b1 M i1 c1 (h.alloc (.cells #[x] e1)) R w x S z u G;obtain⟨a2,w2,a4,q2,_⟩:=AZ d l j Q E c2 (q1.swap.alloc (.cells #[y] e2)) F w1.heap.size y ((Bk.new w1 e2 #[y]).cell 0) D L I;exact Ji
 .have p:((w.alloc (.cells #[x] e1)).alloc (.cells #[y] e2)).cell? (w,0)=some x:=((Bk.new w e1 #[x]).alloc (.cells #[y] e2)).cell 0;have q:((w.alloc (.cells #[x] e1)).alloc (.cells #[y] e2)).cell? (w.heap.size+1,0)=some y:=by have:=(Bk.new (w.alloc (.cells #[x] e1)) e2 #[y]).cell 0;grind
  obtain⟨a1,w1,c4,q1,k1⟩:=AZ t1 k b1 M i1 c1 ((h.alloc (.cells #[x] e1)).alloc (.cells #[y] e2)) R w x p z u G;have t:=(k1 (w.heap.size+1) (λe=>aO) nk).trans q;obtain⟨a2,w2,a4,q2,_⟩:=AZ d l j Q E c2 q1.swap F (w.heap.size+1) y t D L I;exact Ji
 have p:((w.alloc (.cells #[y] e2)).alloc (.cells #[x] e1)).cell? (w,0)=some y:=((Bk.new w e2 #[y]).alloc (.cells #[x] e1)).cell 0;have q:((w.alloc (.cells #[y] e2)).alloc (.cells #[x] e1)).cell? (w.heap.size+1,0)=some x:=by have:=(Bk.new (w.alloc (.cells #[y] e2)) e1 #[x]).cell 0;rw[a0] at this;exact this
 obtain⟨a1,w1,c4,q1,k1⟩:=AZ t1 k b1 M i1 c1 ((h.alloc (.cells #[y] e2)).alloc (.cells #[x] e1)) R (w.heap.size+1) x q z u G;have t:=(k1 w (λe=>by have:=a5 _ e.symm;omega) (by simp<;>omega)).trans p;obtain⟨a2,w2,a4,q2,_⟩:=AZ d l j Q E c2 q1.swap F w y t D L I;exact Ji
