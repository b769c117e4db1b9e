import Derived.Test.YtikecoijpkmnbaaGreatDoorJ25
set_option linter.all false
set_option maxRecDepth 100000
set_option maxHeartbeats 0
namespace Wv
variable{a b f k t:Int}
theorem ZrT:∀(a b:List Int),a.Pairwise (· <·)->b.Pairwise (· <·)->(∀x,x∈a↔x∈b)->a=b
 |[],[],_,_,_=>rfl
 |[],y::b,_,_,h=>absurd ((h y).2 (fi ..)) (by simp)
 |x::a,[],_,_,h=>absurd ((h x).1 (fi ..)) (by simp)
 |x::a,y::b,ha,hb,h=>by
  rw[List.pairwise_cons] at ha hb;have e:x=y:=by rcases jA.1 ((h x).1 (fi ..)) with e|e;exact O;rcases jA.1 ((h y).2 (fi ..)) with g|g;exact O;grind
  congr 1;refine ZrT a b ha.2 hb.2 (λz=> ?_);grind
theorem Zs0 (f t k:Int) (q:1<=k):(ms f t k).Pairwise (· <·):=by rw[List.pairwise_iff_getElem];intro i j hi p g;rw[Nm,Nm];have h1:(i:Int)+1<=j:=O;have l:=Int.mul_le_mul_of_nonneg_right h1 (show 0<=k by omega);grind
theorem Ztl (l:1<=k) (hi:sx f t=true) (g:0<=nM f t k):nM f t k=Ed t k-Ed f k:=by unfold nM at g⊢;grind
theorem ZsU {x:Int} (q:1<=k) (hi:sx f t=true) (u:0<=nM f t k) (h1:f<x) (l:x<=t) (p:x % k=0):x∈ms f t k:=by
 obtain⟨i1,E,F⟩:=Hb.1 hi;have g:0<=x:=O;have D:x=x/k*k:=(by have:=Int.ediv_mul_cancel (Int.dvd_of_emod_eq_zero p);omega)
 have G:Ed f k<=x/k:=by
  unfold Ed;split
  .have:f/k<x/k:=by by_cases h:f/k<x/k;exact O;have y:=Int.mul_le_mul_of_nonneg_right (show x/k<=f/k by omega) (show 0<=k by omega);have z:=Int.ediv_mul_le f (show k≠0 by omega);omega
   omega
  exact Ao g O
 have I:x/k<Ed t k:=by unfold Ed;have:=Int.ediv_le_ediv (show 0<k by omega) l;omega
 have B:=Ztl q hi u;unfold ms;rw[Vbm];refine⟨(x/k-Ed f k).toNat,List.mem_range.2 O,?_⟩;grind
theorem LD (g:1<=a) (hb:1<=b):1<=a*b/\a<=a*b:=by have h1:=Int.mul_le_mul_of_nonneg_left hb (show 0<=a by omega);grind
theorem Zt2 (p:1<=a) (hb:1<=b) (hi:sx f t=true) (B:0<=nM f t a):0<=nM f t (a*b):=by
 obtain⟨i1,q,Q⟩:=Hb.1 hi;obtain⟨F,z⟩:=LD p hb;have I:=Ztl p hi B;have G:=PJ f t a;have D:=Zsb (k:=a*b) F q
 -- as many multiples of a * b as stand among those of a
 have key:Ed t (a*b)-Ed f (a*b)<=Ed t a-Ed f a:=by
  have hd:∀x:Int,0<=x->x/(a*b)=x/a/b:=λx M=>(Int.ediv_ediv_of_nonneg O).symm
  have main:∀u v:Int,u<=v->v/b-u/b<=v-u:=by
   intro u v E;have h1:v<=u+(v-u)*b:=by have:=Int.mul_le_mul_of_nonneg_left hb (show 0<=v-u by omega);grind
   have l:=Int.ediv_le_ediv (show 0<b by omega) h1;rw[Int.add_mul_ediv_right _ _ (show b≠0 by omega)] at l;omega
  unfold Ed;by_cases h0:0<=f;rw[Vag h0,Vag h0,Vag O,Vag O,hd t O,hd f h0];have:=main (f/a) (t/a) (Int.ediv_le_ediv O q);omega;rw[Vae h0,Vae h0];by_cases g:0<=t;rw[Vag g,Vag g,hd t g];have y:=Ao g (show 0<=a by omega);have:=main 0 (t/a) y;rw[Int.zero_ediv] at this;omega;grind
 have l:¬(sx f t=false\/a*b<1):=aO;unfold nM;grind
theorem Zt0 (g:1<=a) (hb:1<=b) (hi:sx f t=true) (q:0<=nM f t a):(ms f t a).filter (λx=>decide (x % (a*b)=0))=ms f t (a*b):=by obtain⟨u,_⟩:=LD g hb;refine ZrT _ _ ((Zs0 f t a g).filter _) (Zs0 f t (a*b) u) (λx=> ?_);rw[List.mem_filter,Vax];constructor;rintro⟨h1,y⟩;obtain⟨_,k,l,_⟩:=Np h1;exact ZsU u hi (Zt2 g hb hi q) k l y;intro h1;obtain⟨_,k,l,p⟩:=Np h1;refine⟨ZsU g hi q k l ?_,p⟩;exact Int.emod_eq_zero_of_dvd (Int.dvd_trans ⟨b,rfl⟩ (Int.dvd_of_emod_eq_zero p))
theorem ZsL (g:1<=a) (hb:1<=b) (hi:sx f t=true) (k:0<=nM f t a) (v:aT) (l:List (Int×aT)):(vx f t a v l).filter (λx=>decide (x.1 % (a*b)=0))=vx f t (a*b) v l:=by unfold vx;rw[<-Zt0 g hb hi k,List.filter_map];rfl
