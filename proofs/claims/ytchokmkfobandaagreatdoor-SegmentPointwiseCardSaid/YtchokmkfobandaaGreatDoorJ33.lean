import Derived.Test.YtchokmkfobandaaGreatDoorJ30
set_option linter.unusedVariables false
set_option linter.unusedSimpArgs false
set_option maxRecDepth 100000
set_option maxHeartbeats 8000000
namespace Go.Proofs.YtchokmkfobandaaGreatDoor
open Go.RowKit Go.Proofs Wv Wv.Vi Wv.Mo Wv.Lz
def Lq (q:Nat) (cur:Option St) (tb:List St):List St:=List.replicate q st0++cur.getD st0::tb
theorem ZnZ (q:Nat) (cur:Option St) (tb:List St):(Lq q cur tb).length=q+tb.length+1:=by unfold Lq;rw[List.length_append,List.length_replicate,List.length_cons];omega
theorem ZoS (q:Nat) (cur:Option St) (tb:List St):(Lq q cur tb).getD q st0=cur.getD st0:=by
 unfold Lq;rw[List.getD_eq_getElem?_getD,List.getElem?_append_right (by simp),List.length_replicate,Nat.sub_self];rfl
theorem Zo0 (q:Nat) (cur:Option St) (tb:List St) {k:Nat} (h:1<=k):(Lq q cur tb).getD (q+k) st0=tb.getD (k-1) st0:=by
 unfold Lq;rw[List.getD_eq_getElem?_getD,List.getElem?_append_right (by simp),List.length_replicate,Nat.add_sub_cancel_left];obtain⟨j,rfl⟩:∃j,k=j+1:=⟨k-1,by omega⟩;rw[List.getElem?_cons_succ,Nat.add_sub_cancel,List.getD_eq_getElem?_getD]
theorem Zo1 (q:Nat) (cur:Option St) (tb:List St) (x:St):(Lq q cur tb).set q x=Lq q (some x) tb:=by
 unfold Lq;rw[List.set_append_right _ _ (by simp),List.length_replicate,Nat.sub_self];rfl
theorem Zmc (q:Nat) (cur:Option St) (tb:List St) (t:Pc) (h:1<=t.len):(if(!cur.isSome||bett (xOf (Lq q cur tb) q t) ((Lq q cur tb).getD q st0))=true then(Lq q cur tb).set q (xOf (Lq q cur tb) q t) else Lq q cur tb)=Lq q (tryP tb cur t) tb:=by
 have hx:xOf (Lq q cur tb) q t=stOf tb t:=(by unfold xOf stOf;rw[Zo0 q cur tb h]);rw[hx,ZoS,Zo1];unfold tryP;cases cur with
 |none=>rfl
 |some c=>
  simp only[Option.isSome_some,Bool.not_true,Bool.false_or,Option.getD_some];split<;>rfl
theorem Zo2 {q:Nat} {cur:Option St} {tb:List St} {M:Nat} (kz:∀x∈tb,x.cost<=M/\x.pcs<=M) (hc:∀x,cur=some x->x.cost<=M/\x.pcs<=M):∀x∈Lq q cur tb,x.cost<=M/\x.pcs<=M:=by
 intro x hx;unfold Lq at hx;rcases List.mem_append.1 hx with h|h
 ·rw[List.eq_of_mem_replicate h];exact⟨Nat.zero_le _,Nat.zero_le _⟩
 ·rcases List.mem_cons.1 h with h|h
  ·cases cur with
   |none=>rw[h];exact⟨Nat.zero_le _,Nat.zero_le _⟩
   |some c=>rw[h];exact hc c rfl
  ·exact kz x h
theorem ZgE {w:World} {T bb ib cb sb q n M:Nat} {cur:Option St} {tb:List St} (h:TrSt w T bb ib cb sb (Lq q cur tb) q cur.isSome) (fw:q+tb.length=n) (hn:n<=4096) (kz:∀x∈tb,x.cost<=M/\x.pcs<=M) (hM:M<=160000) (hc:∀x,cur=some x->x.cost<=M+38/\x.pcs<=M+38) (t:Pc) (h1:1<=t.len) (h2:q+t.len<=n) (h3:t.dist<=4096):
  Calls Tryz.prog 213 #[.agg (pcC t),.pointer (some ⟨bb,0,none⟩),.pointer (some ⟨ib,0,none⟩),.pointer (some ⟨cb,0,none⟩),.pointer (some ⟨sb,0,none⟩)] w λx w'=>x=.returned (.tuple #[])/\TrSt w' T bb ib cb sb (Lq q (tryP tb cur t) tb) q (tryP tb cur t).isSome/\(∀x,tryP tb cur t=some x->x.cost<=M+38/\x.pcs<=M+38)/\Fr (λk=>k=T\/k=sb) w w':=by
 have hl:=ZnZ q cur tb;have Zn9:(tryP tb cur t).isSome=true:=(by obtain⟨x,hx⟩:=Z46 tb cur t;rw[hx];rfl);have hm:=Zo2 (q:=q) (M:=M+38) (λx hx=>by have:=kz x hx;omega) hc;refine(Zjw h (by omega) (λx hx=>by have:=hm x hx;omega) t (by omega) h3 h1 (by omega)).mono ?_;rintro x w' ⟨rfl,ht,hf⟩;rw[Zmc q cur tb t h1] at ht;rw[Zn9];exact⟨rfl,ht,ZfI kz hc (Z5d h3 (by omega)),hf⟩
theorem Zmd:(Tryz.prog.info? 279).map (λi=>(i.zero,i.size,i.bytes))=some (some (.agg #[.int .i64 0,.int .i64 0,.int .i64 0,.int .i64 0,.int .u8 0]),5,40):=by kernel_rfl
theorem Zde (n:Nat):madeCells #[.int .i64 0,.int .i64 0,.int .i64 0,.int .i64 0,.int .u8 0] (n*5)=stA (List.replicate n st0):=by
 apply Array.ext_getElem?;intro i;unfold madeCells;rcases Nat.lt_or_ge i (n*5) with h|h
 ·have hq:i/5<(List.replicate n st0).length:=(by rw[List.length_replicate];omega);obtain⟨a,b,c,d,e⟩:=Zav (List.replicate n st0) (i/5) hq
  have hg:(List.replicate n st0).getD (i/5) st0=st0:=by
   rw[List.getD_eq_getElem?_getD,List.getElem?_eq_getElem hq,List.getElem_replicate];rfl
  rw[hg] at a b c d e;have hi:i=i/5*5+i % 5:=(by omega);rw[Array.getElem?_map,Array.getElem?_range];rw[if_pos h];rcases(show i % 5=0\/i % 5=1\/i % 5=2\/i % 5=3\/i % 5=4 by omega) with r|r|r|r|r
  all_goals
   rw[r] at hi;simp only[Option.map_some,Array.size,List.size_toArray,List.length_cons,List.length_nil,Nat.reduceAdd,r]
  ·rw[hi,Nat.add_zero,a];rfl
  ·rw[hi,b];rfl
  ·rw[hi,c];rfl
  ·rw[hi,d];rfl
  ·rw[hi,e];rfl
 ·have h1:(stA (List.replicate n st0)).size<=i:=by
   unfold stA;simp only[List.size_toArray,List.length_flatMap,List.map_replicate,List.sum_replicate_nat];have:(stc st0).length=5:=rfl;rw[this];exact h
  rw[Array.getElem?_eq_none h1,Array.getElem?_map,Array.getElem?_range,if_neg (by omega)];rfl
theorem Zjz (n:Nat) (hn:n<=5000) (w:World):(Instr.makeSlice 277 (.int .i64 (n:Int)) (.int .i64 (n:Int))).run Tryz.prog w=.ok (.slice (some ⟨w.heap.size,0,none⟩) n n) (w.alloc (.cells (stA (List.replicate n st0)) 279)):=by
 obtain⟨i,hi,hz,hs,dd⟩:=info_parts Zmd;have hr:=run_make (P:=Tryz.prog) w 277 279 i _ Tryz.underlying277 hi hz .i64 .i64 (n:Int) (n:Int) (by omega) (by omega) (by rw[dd];omega) (by omega);rw[hr,Int.toNat_natCast,hs,<-Zde];rfl
theorem ZbY (w:World):Calls Tryz.prog 212 #[.int .i64 4096] w λx w'=>x=.returned (.bool true)/\w=w':=by
 go_enter Tryz.func212,Tryz.ntmps212;go_wp2;go_returns;exact⟨rfl,rfl⟩
theorem Z6U (w:World):Calls Tryz.prog 211 #[Z5Z] w λx w'=>x=.returned (.bool true)/\Below w.heap.size w w':=by
 have hk:=h_ (Bk.newN (w.alloc (.cells #[.int .i64 9,.int .i64 12,.int .i64 1,.int .i64 1] 226)) 3 #[.int .i64 9,.int .i64 12,.int .i64 1,.int .i64 1] (n:=w.heap.size+1) (by simp));have hb:=h_ (((Below.refl w.heap.size w).alloc (Nat.le_refl _) (.cells #[.int .i64 9,.int .i64 12,.int .i64 1,.int .i64 1] 226)).alloc (by simp) (.cells #[.int .i64 9,.int .i64 12,.int .i64 1,.int .i64 1] 3));unfold Z5Z;go_enter Tryz.func211,Tryz.ntmps211;go_wp2;generalize (w.alloc (.cells #[.int .i64 9,.int .i64 12,.int .i64 1,.int .i64 1] 226)).alloc (.cells #[.int .i64 9,.int .i64 12,.int .i64 1,.int .i64 1] 3)=W0 at*;go_loopw [15] (λnv wr=>∃k:Nat,k<=4/\nv=.int .i64 (k:Int)/\wr=W0) (λnv _=>(4-intOf nv).toNat);case atStart=>exact⟨0,by omega,rfl,rfl⟩
 case round=>
  obtain⟨k,KD,rfl,rfl⟩:=hrel;have c0:=hk.o.cell 0;have c1:=hk.o.cell 1;have c2:=hk.o.cell 2;have c3:=hk.o.cell 3;simp at c0 c1 c2 c3;rcases(show k=0\/k=1\/k=2\/k=3\/k=4 by omega) with rfl|rfl|rfl|rfl|rfl
  ·go_wp2;refine⟨⟨1,by omega,rfl,by first|rfl|trivial⟩,?_⟩;simp[intOf]
  ·go_wp2;refine⟨⟨2,by omega,rfl,by first|rfl|trivial⟩,?_⟩;simp[intOf]
  ·go_wp2;refine⟨⟨3,by omega,rfl,by first|rfl|trivial⟩,?_⟩;simp[intOf]
  ·go_wp2;refine⟨⟨4,by omega,rfl,by first|rfl|trivial⟩,?_⟩;simp[intOf]
  ·go_wp2;go_returns;exact⟨rfl,hb.o⟩
def pcL (t:Pc):List Value:=[.int .i64 (t.len:Int),.int .i64 (t.dist:Int),.int .u8 (t.byte.toNat:Int)]
def pcCs (l:List Pc):List Value:=l.flatMap pcL
structure PaSt (w:World) (T bb ib cb:Nat) (L:List St) (iv:Int):Prop where
 tb:Bk w T 279 (stA L)
 best:Bk w bb 277 #[.slice (some ⟨T,0,none⟩) L.length L.length]
 i:Bk w ib 3 #[.int .i64 iv]
 c:Bk w cb 226 #[.int .i64 9,.int .i64 12,.int .i64 1,.int .i64 1]
theorem PaSt.below {w w':World} {T bb ib cb:Nat} {L:List St} {iv:Int} (h:PaSt w T bb ib cb L iv) (hb:Below w.heap.size w w'):PaSt w' T bb ib cb L iv:=
 ⟨h.tb.below hb h.tb.lt,h.best.below hb h.best.lt,h.i.below hb h.i.lt,h.c.below hb h.c.lt⟩
theorem PaSt.try {w:World} {T bb ib cb:Nat} {L:List St} {i:Nat} (h:PaSt w T bb ib cb L (i:Int)):TrSt (w.alloc (.cells #[.bool false] 4)) T bb ib cb w.heap.size L i false:=
 ⟨h.tb.alloc _,h.best.alloc _,h.i.alloc _,h.c.alloc _,Bk.new _ _ _⟩
def Lk (s:List UInt8) (k:Nat):List St:=List.replicate k st0++tbl s (s.length-k)
theorem Zme (s:List UInt8) (q:Nat):Lk s (q+1)=Lq q none (tbl s (s.length-(q+1))):=by
 unfold Lk Lq;rw[List.replicate_succ',List.append_assoc];rfl
theorem ZjA (s:List UInt8):List.replicate (s.length+1) st0=Lk s s.length:=by
 unfold Lk;rw[Nat.sub_self,List.replicate_succ'];rfl
theorem Zmf (s:List UInt8) (q:Nat) (hq:q<s.length) {x:St} (hx:(Z6j s q).foldl (tryP (tbl s (s.length-(q+1)))) none=some x):Lq q (some x) (tbl s (s.length-(q+1)))=Lk s q:=by
 unfold Lk Lq;have e:s.length-q=(s.length-(q+1))+1:=(by omega);rw[e];show _=_++(Z4S s (s.length-1-(s.length-(q+1))) _::_);rw[show s.length-1-(s.length-(q+1))=q by omega];unfold Z4S;rw[hx]
theorem ZkE (s:List UInt8) {k:Nat} (h:k<=s.length):(Lk s k).length=s.length+1:=by
 unfold Lk;rw[List.length_append,List.length_replicate,ZeK];omega
theorem Zax {w:World} {B n cap g:Nat} {o:List (Nat×Nat)} (h:w.ownsRow B 284 2 (.slice (some ⟨g,0,none⟩) n cap) n (cpC o)) {k:Nat} (hk:k<o.length):w.cell? ⟨g,k*2,none⟩=some (.int .i64 ((o.getD k (0,0)).1:Int))/\w.cell? ⟨g,k*2+1,none⟩=some (.int .i64 ((o.getD k (0,0)).2:Int)):=by
 have key:∀(o:List (Nat×Nat)) (k:Nat),k<o.length->(cpC o)[k*2]? =some (.int .i64 ((o.getD k (0,0)).1:Int))/\(cpC o)[k*2+1]? =some (.int .i64 ((o.getD k (0,0)).2:Int)):=by
  intro o;induction o with
  |nil=>intro k h;simp at h
  |cons c r ih=>
   intro k h;cases k with
   |zero=>exact⟨rfl,rfl⟩
   |succ k=>
    obtain⟨a,b⟩:=ih k (by simpa using h)
    have e1:(cpC (c::r))[(k+1)*2]? =(cpC r)[k*2]? :=by
     unfold cpC;rw[List.flatMap_cons,List.getElem?_append_right (by show 2<=_;omega)];congr 1;show(k+1)*2-2=_;omega
    have e2:(cpC (c::r))[(k+1)*2+1]? =(cpC r)[k*2+1]? :=by
     unfold cpC;rw[List.flatMap_cons,List.getElem?_append_right (by show 2<=_;omega)];congr 1;show(k+1)*2+1-2=_;omega
    rw[e1,e2,List.getD_cons_succ];exact⟨a,b⟩
 obtain⟨a,b⟩:=key o k hk;have h1:=h.cells (g:=g) rfl _ _ a;have h2:=h.cells (g:=g) rfl _ _ b;rw[Go.WideShapes.add_plain,Nat.zero_add] at h1 h2;exact⟨h1,h2⟩
def ptmu (v:Value) (w:World):Nat:=match v with
 |.pointer (some a)=>match w.cell? a with
  |some (.int _ n)=>(n+1).toNat
  |_=>0
 |_=>0
theorem ZgF {w:World} {a:Addr} {k:IntKind} {n:Int} (h:w.cell? a=some (.int k n)):ptmu (.pointer (some a)) w=(n+1).toNat:=by
 unfold ptmu;simp only;rw[h]
theorem ZjB {w1:World} {cb:Nat} (hc:Bk w1 cb 226 #[.int .i64 9,.int .i64 12,.int .i64 1,.int .i64 1]) {L:List St} {m:Nat} (hL:L.length=m) (iv:Int):
  PaSt (((w1.alloc (.cells (stA L) 279)).alloc (.cells #[.slice (some ⟨w1.heap.size,0,none⟩) m m] 277)).alloc (.cells #[.int .i64 iv] 3)) w1.heap.size (w1.heap.size+1) (w1.heap.size+1+1) cb L iv/\
  Below w1.heap.size w1 (((w1.alloc (.cells (stA L) 279)).alloc (.cells #[.slice (some ⟨w1.heap.size,0,none⟩) m m] 277)).alloc (.cells #[.int .i64 iv] 3)):=by
 subst hL
 exact⟨⟨((Bk.new _ _ _).alloc _).alloc _,(Bk.newN _ _ _ (by simp)).alloc _,Bk.newN _ _ _ (by simp),((hc.alloc _).alloc _).alloc _⟩,
  (((Below.refl w1.heap.size w1).alloc (Nat.le_refl _) _).alloc (by simp) _).alloc (by simp;omega) _⟩
theorem ZbZ {B T sb:Nat} {w wr wx:World} (h:Below B w wr) (hB:B<=wr.heap.size) (hf:Fr (λk=>k=T\/k=sb) wr wx) (h1:B<=T) (h2:B<=sb):Below B w wx:=
 h.trans (hf.toBelow' hB (λk hk hs=>by rcases hs with hs|hs<;>omega))
theorem Zo3 {B n:Nat} {v:Value} {xs:List Value} {w w':World} {T bb ib cb sb:Nat} {L:List St} {i:Nat} {seen:Bool} (h:w.ownsRow B 284 2 v n xs) (ht:TrSt w T bb ib cb sb L i seen) (hf:Fr (λk=>k=T\/k=sb) w w'):w'.ownsRow B 284 2 v n xs:=
 Z0v h hf (λg hg hs=>by
  rcases hs with hs|hs
  ·exact Z02 h ht.tb (by decide) (hs▸hg)
  ·exact Z02 h ht.sn (by decide) (hs▸hg))
def CpOk (n q:Nat) (l:List (Nat×Nat)):Prop:=∀c∈l,2<=c.1/\q+c.1<=n/\c.2<=4096
theorem ZgG {s:List UInt8} {q:Nat} (hq:q<=s.length):CpOk s.length q (cand s q):=λc hc=>by
 obtain⟨h1,h2,_,_,h5,_⟩:=(Z9V s q).1 c hc;have:Z2t s q<=s.length-q:=Nat.min_le_right _ _;exact⟨h1,by omega,h5⟩
theorem Zmg (s:List UInt8) (i most:Nat):∀p b o,(btr s i most p b o).length<=o.length+p:=by
 intro p;induction p with
 |zero=>intro b o;exact Nat.le_refl _
 |succ p ih=>
  intro b o;rw[btr];split
  ·omega
  ·split
   ·have:=ih b o;omega
   ·split
    ·have:=ih (com s p i most) (o++[(com s p i most,i-p)]);rw[List.length_append,List.length_singleton] at this;omega
    ·have:=ih b o;omega
theorem ZjC (s:List UInt8) (i:Nat):(cand s i).length<=i:=by
 have:=Zmg s i (Z2t s i) i 1 [];unfold cand;simpa using this
theorem Zc0 {n q:Nat} {l:List (Nat×Nat)} (h:CpOk n q l) {j:Nat} (hj:j<l.length):2<=(l.getD j (0,0)).1/\q+(l.getD j (0,0)).1<=n/\(l.getD j (0,0)).2<=4096:=by
 rw[List.getD_eq_getElem?_getD,List.getElem?_eq_getElem hj];exact h _ (List.getElem_mem _)
theorem ZgH {n q:Nat} {l:List (Nat×Nat)} (h:CpOk n q l) {j:Nat} (hj:j<l.length):1<=Z6C l j/\Z6C l j<=n+1:=by
 unfold Z6C;split
 ·obtain⟨a,b,_⟩:=Zc0 h (j:=j-1) (by omega);omega
 ·omega
theorem Z9m {w:World} {base n size:Nat} {e:TypeId} {v:Value} {xs:List Value} (h:w.ownsRow base e size v n xs) (hn:0<n):∃g cap,v=.slice (some ⟨g,0,none⟩) n cap/\n<=cap:=by
 rcases h.2 with ⟨_,h2⟩|⟨g',bh,cur,hv,hb,hg,hc,_⟩
 ·omega
 ·exact⟨g',bh,hv,hc⟩
theorem ZoT:(Tryz.prog.info? 181).map (λi=>(i.zero,i.size,i.bytes))=some (some (.agg #[.int .i64 0,.int .i64 0,.int .u8 0]),3,24):=by kernel_rfl
theorem Zdf (s:List UInt8) (hs:s.length<=4096) (w:World):
  Calls Tryz.prog 173 #[Z5Z,.string (bs s),.int .i64 4096] w λx w'=>∃ov,x=.returned (.tuple #[ov,.int .i64 0])/\w'.ownsRow w.heap.size 181 3 ov (parse s).length (pcCs (parse s))/\Below w.heap.size w w':=by
 have gY:=h_ (λW=>Z6U W);have Dy:=h_ (λW=>ZbY W);have ua:=h_ (λi (hi:i<=s.length) W=>ZcY s hs i hi W);have ad:(bs s).size=s.length:=Z00 s;obtain⟨n,hn⟩:∃n,s.length=n:=⟨_,rfl⟩;have rH:=λW=>Zjz (n+1) (by omega) W;have fF:((n+1:Nat):Int)=(n:Int)+1:=(by omega);rw[fF] at rH;have rX:=h_ (Bk.new w 226 #[.int .i64 9,.int .i64 12,.int .i64 1,.int .i64 1]);have mD:=h_ ((Below.refl w.heap.size w).alloc (Nat.le_refl _) (.cells #[.int .i64 9,.int .i64 12,.int .i64 1,.int .i64 1] 226));have Hg:=h_ (Z3O s);have pj:=h_ (λq hq x hx=>Zmf s q hq (x:=x) hx);have zV:=h_ (λq=>Zme s q);have uk:=h_ (λq (hq:q<s.length)=>ZfJ s (s.length-(q+1)) (by omega));have mQ:=h_ (λq (hq:q<=s.length)=>ZgG hq);have rU:=h_ (λk=>ZeK s k);obtain⟨S,hS⟩:∃S,bs s=S:=⟨_,rfl⟩;have aR:=h_ (ZjA s);have fu:(Lk s s.length).length=s.length+1:=ZkE s (Nat.le_refl _);rw[hS] at ad ua Hg⊢;rw[hn] at ad hs ua Hg aR pj zV uk mQ fu;have fq:¬(4096:Int)<(S.size:Int):=(by omega);have Dz:decide ((4096:Int)<(n:Int))=false:=decide_eq_false (by omega);have Hn:=h_ hn;rw[aR.o] at rH;have AH:=h_ fu;clear hn hS fu;unfold Z5Z at gY⊢;go_enter Tryz.func173,Tryz.ntmps173;go_wp2_with fail;refine(gY.o _).mono ?_;rintro x w1 ⟨rfl,a7⟩;go_wp2_with fail;refine(Dy.o _).mono ?_;rintro x w2 ⟨rfl,rfl⟩;have bE:=rH w1;have Dt:=a7.size;rw[World.size_alloc] at Dt;obtain⟨hP,MU⟩:=ZjB (rX.o.below a7 (by simp)) AH.o ((n:Int)-1);have dA:=(mD.o.trans (a7.mono (by simp))).trans (MU.mono (by omega));have AI:=h_ hP;have MV:=h_ dA;clear hP MU dA rX mD a7 gY Dy rH;generalize stA (Lk s n)=ST at*;go_wp2;generalize ((w1.alloc (.cells ST 279)).alloc (.cells #[.slice (some ⟨w1.heap.size,0,none⟩) (n+1) (n+1)] 277)).alloc (.cells #[.int .i64 ((n:Int)-1)] 3)=W0 at*;clear bE;have MW:w.heap.size<=w1.heap.size:=(by omega);generalize w1.heap.size+1+1=Rr at*;generalize w1.heap.size+1=bb at*;generalize w1.heap.size=T at*;go_loopw [9] (λs9 wr=>∃(k ib:Nat),k<=n/\s9=.pointer (some ⟨ib,0,none⟩)/\Hid (PaSt wr T bb ib w.heap.size (Lk s k) ((k:Int)-1))/\Hid (Below w.heap.size w wr)) (λs9 wr=>ptmu s9 wr);case atStart=>exact⟨n,Rr,Nat.le_refl _,rfl,AI,MV⟩
 case round=>
  clear AI MV;obtain⟨k,ib,hk,rfl,hP,hb⟩:=hrel;have ci:=hP.o.i.cell 0;have qD:=hP.o.i.lt;have AJ:=hP.o.best.lt;have rz:=hP.o.tb.lt;have ia:=hP.o.c.lt;simp at ci;have mP:=h_ (ZgF ci);by_cases ab:0<k
  ·obtain⟨q,rfl⟩:∃q,k=q+1:=⟨k-1,by omega⟩;have i1:((q+1:Nat):Int)-1=(q:Int):=(by omega);rw[i1] at ci hP mP;have hq:q<n:=(by omega);have kO:=hP.o.try;rw[zV.o] at kO;have iL:=pj.o q hq;have mu:=uk.o q hq;have eR:=mQ.o q (by omega);have fw:=rU.o (n-(q+1));generalize tbl s (n-(q+1))=tb at*;have AK:q+tb.length=n:=(by omega);have hM:38*(n-(q+1))<=160000:=(by omega);have Rs:=ZjC s q;have MX:Z6j s q=Z45 (cand s q).reverse++[lit s q]:=rfl;rw[MX] at iL;have Hq:=h_ (ua.o q (by omega) (wr.alloc (.cells #[.bool false] 4)));generalize cand s q=l at*
   obtain⟨X,hX⟩:∃X,(Z45 l.reverse++[lit s q]).foldl (tryP tb) none=some X:=by
    rw[List.foldl_append];exact Z46 _ _ _
   have HX:=h_ hX;have HY:=h_ (iL X hX);have AL:=h_ (λ(W:World) (cur:Option St) (h:TrSt W T bb ib w.heap.size wr.heap.size (Lq q cur tb) q cur.isSome) hc t h1 h2 h3=>ZgE h AK hs mu hM hc t h1 h2 h3);have Dr:=hb.o.size;have aI:=h_ (hb.o.alloc Dr (.cells #[.bool false] 4));have MY:=h_ kO;have MZ:=h_ eR;clear kO hX iL mu eR fw AK hM MX hP;go_wp2_with fail;refine(Hq.o).mono ?_;rintro x w2 ⟨ov,rfl,aU,a8⟩;obtain⟨A,cap,rfl,_⟩:=Z0q aU;have tx:=h_ (MY.o.below a8);have fR:=h_ (Z79 aU (show w.heap.size<=_ by rw[World.size_alloc];omega));have al:=h_ (aI.o.trans (a8.mono aI.o.size));have fV:l.length<=4096:=(by omega);have h0:Hid ((Z45 ((l.take l.length).reverse)++[lit s q]).foldl (tryP tb) none=some X):=(by rw[List.take_length];exact HX)
   have hA:Hid (∀k,k<l.length->∃b,A=some ⟨b,0,none⟩):=h_ (λk hk=>by
    obtain⟨g,c2,e,_⟩:=Z9m fR.o (by omega);injection e with e1 e2 e3;exact⟨g,e1⟩)
   clear MY aU a8 aI Hq ci qD AJ rz ia HX Rs;go_wp2;have ES:w.heap.size<=wr.heap.size:=Dr;generalize wr.heap.size=sb at*;go_loopw [13] (λnj wx=>∃(kk:Nat) (cur:Option St),kk<=l.length/\nj=.int .i64 ((kk:Int)-1)/\Hid (TrSt wx T bb ib w.heap.size sb (Lq q cur tb) q cur.isSome)/\Hid (wx.ownsRow w.heap.size 284 2 (.slice A l.length cap) l.length (cpC l))/\Hid ((Z45 ((l.take kk).reverse)++[lit s q]).foldl (tryP tb) cur=some X)/\Hid (∀x,cur=some x->x.cost<=38*(n-(q+1))+38/\x.pcs<=38*(n-(q+1))+38)/\Hid (Below w.heap.size w wx)) (λnj _=>(intOf nj+1).toNat);case atStart=>exact⟨l.length,none,Nat.le_refl _,rfl,tx,fR,h0,h_ (λx hx=>by cases hx),al⟩
   case round=>
    clear tx fR h0 al;obtain⟨kk,cur,lr,rfl,gK,o7,sc,sd,pT⟩:=hrel;by_cases bU:0<kk
    ·obtain⟨j,rfl⟩:∃j,kk=j+1:=⟨kk-1,by omega⟩;have i2:((j+1:Nat):Int)-1=(j:Int):=(by omega);rw[i2];have hj:j<l.length:=(by omega);obtain⟨g,rfl⟩:=hA.o j hj;obtain⟨nK,sW,AM⟩:=Zc0 MZ.o hj;have N0:=ZcL hj;have lJ:=ZgH MZ.o hj;have fJ:=sc.o;rw[N0] at fJ;obtain⟨c1,c2⟩:=Zax o7.o hj;obtain⟨hi,lq⟩:∃x,(l.getD j (0,0)).1=x:=⟨_,rfl⟩;obtain⟨d,hd⟩:∃x,(l.getD j (0,0)).2=x:=⟨_,rfl⟩;obtain⟨sh,vz⟩:∃x,Z6C l j=x:=⟨_,rfl⟩;rw[lq] at nK sW c1 fJ;rw[hd] at AM c2 fJ;rw[vz] at lJ fJ;have pU:=h_ fJ;have Mj:(j:Int)<(l.length:Int):=(by omega);have hU:(0:Int)<=(j:Int):=(by omega);have pV:=h_ vz;have Rt:=h_ hd;clear N0 sc fJ lq hd vz ab lr bU;go_upto_if 53 with fail;go_cut [14] (λfX Rv=>fX=.int .i64 (sh:Int)/\wr=Rv)
     case first=>
      clear gK pU sd pT c1 c2;by_cases I0:0<j
      ·have AN:(0:Int)<(j:Int):=(by omega);have e1:(j:Int)-1=((j-1:Nat):Int):=(by omega);obtain⟨c1,c2⟩:=Zax o7.o (k:=j-1) (by omega)
       have aJ:(l.getD (j-1) (0,0)).1=sh:=by
        rw[<-pV.o];unfold Z6C;rw[if_pos I0]
       rw[aJ] at c1;have cK:((j-1:Nat):Int)<(l.length:Int):=(by omega);obtain⟨j1,AO⟩:∃x,j-1=x:=⟨_,rfl⟩;rw[AO] at e1 c1 c2 cK;have Rw:(0:Int)<=(j1:Int):=(by omega);clear o7 pV AO aJ;go_wp2;go_meet;case rel=>exact⟨rfl,rfl⟩
      ·have I3:j=0:=(by omega);subst I3;have aJ:sh=1:=(by rw[<-pV.o];rfl);subst aJ;clear o7 pV;go_wp2;go_meet;case rel=>exact⟨rfl,rfl⟩
     case rest=>
      obtain⟨rfl,rfl⟩:=hcut;clear pV;have im:j<=l.length:=(by omega);go_wp2;go_loopw [15] (λnv wy=>∃(m:Nat) (cur:Option St),m<=hi/\nv=.int .i64 (m:Int)/\Hid (TrSt wy T bb ib w.heap.size sb (Lq q cur tb) q cur.isSome)/\Hid (wy.ownsRow w.heap.size 284 2 (.slice (some ⟨g,0,none⟩) l.length cap) l.length (cpC l))/\Hid (((down m sh d++Z45 ((l.take j).reverse))++[lit s q]).foldl (tryP tb) cur=some X)/\Hid (∀x,cur=some x->x.cost<=38*(n-(q+1))+38/\x.pcs<=38*(n-(q+1))+38)/\Hid (Below w.heap.size w wy)) (λnv _=>(intOf nv).toNat);case atStart=>exact⟨hi,cur,Nat.le_refl _,rfl,gK,o7,pU,sd,pT⟩
      case round=>
       clear c1 c2 gK o7 pU sd pT;obtain⟨m,cur,hm,rfl,gK,o7,sc,sd,pT⟩:=hrel;by_cases fO:sh<m
       ·have ds:=ZfH (d:=d) fO;have fJ:=sc.o;rw[ds] at fJ;have pU:Hid (((down (m-1) sh d++Z45 ((l.take j).reverse))++[lit s q]).foldl (tryP tb) (tryP tb cur ⟨m,d,0⟩)=some X):=h_ fJ;have Ht:=AL.o wr cur gK.o sd.o ⟨m,d,0⟩ (by simp only;omega) (by simp only;omega) (by simp only;omega);unfold pcC at Ht;simp only at Ht;have e0:(((0:UInt8).toNat:Nat):Int)=0:=rfl;rw[e0] at Ht;have Ht:=h_ Ht;obtain⟨c1,c2⟩:=Zax o7.o hj;rw[Rt.o] at c2;have I4:(sh:Int)<(m:Int):=(by omega);have em:(m:Int)-1=((m-1:Nat):Int):=(by omega);obtain⟨m1,dh⟩:∃x,m-1=x:=⟨_,rfl⟩;rw[dh] at em pU;have I5:m1<=hi:=(by omega);have mE:=gK;clear ds sc fJ e0 dh gK sd c1;go_wp2_with fail;refine(Ht.o).mono ?_;rintro x w3 ⟨rfl,tz,N6,xL⟩;have Rx:=h_ tz;have yB:=h_ N6;have cU:=h_ (Zo3 o7.o mE.o xL);have GR:=h_ (ZbZ pT.o pT.o.size xL MW ES);clear tz N6 xL o7 mE pT Ht;go_wp2;refine⟨⟨m1,_,I5,by first|rfl|(congr 1),Rx,cU,pU,yB,GR⟩,?_⟩;simp[intOf]<;>omega
       ·have fJ:=sc.o;rw[ZiR (by omega),List.nil_append] at fJ;have pU:=h_ fJ;have I4:¬(sh:Int)<(m:Int):=(by omega);clear sc fJ;go_wp2;refine⟨⟨j,cur,im,by first|rfl|go_num,gK,o7,pU,sd,pT⟩,?_⟩;simp[intOf]<;>omega
    ·have I6:kk=0:=(by omega);subst I6;have AP:tryP tb cur (lit s q)=some X:=sc.o;have Ht:=AL.o wr cur gK.o sd.o (lit s q) (Nat.le_refl 1) (by show q+1<=n;omega) (Nat.zero_le _);have Ry:q<S.size:=(by omega);have UQ:(q:Int)<(S.size:Int):=(by omega);have xg:(0:Int)<=(q:Int):=(by omega);have N7:=Hg.o q (by omega) Ry;have eS:pcC (lit s q)= #[.int .i64 1,.int .i64 0,.int .u8 ((s.getD q 0).toNat:Int)]:=rfl;rw[eS,<-N7,AP,HY.o] at Ht;have Ht:=h_ Ht;have z1:((0:Nat):Int)-1= -1:=rfl;rw[z1];obtain⟨_,ci,_⟩:=gK.o.cells;clear sc AP eS N7 o7 sd Hg lr bU;go_wp2_with fail;refine(Ht.o).mono ?_;rintro x w3 ⟨rfl,tz,_,xL⟩;obtain⟨_,UR,_⟩:=tz.cells;have I7:=ZbZ pT.o pT.o.size xL MW ES;have I8:Hid (PaSt (w3.alloc (.cells #[.int .i64 ((q:Int)-1)] 3)) T bb w3.heap.size w.heap.size (Lk s q) ((q:Int)-1)):=h_ ⟨tz.tb.alloc _,tz.best.alloc _,Bk.new _ _ _,tz.c.alloc _⟩;have Rz:=h_ (I7.alloc I7.size (.cells #[.int .i64 ((q:Int)-1)] 3));have sK:Hid (ptmu (.pointer (some ⟨w3.heap.size,0,none⟩)) (w3.alloc (.cells #[.int .i64 ((q:Int)-1)] 3))=((q:Int)-1+1).toNat):=h_ (ZgF ((Bk.new w3 3 #[.int .i64 ((q:Int)-1)]).cell 0));clear tz xL I7 gK pT Ht ci;go_wp2;refine⟨⟨q,w3.heap.size,by omega,rfl,I8,Rz⟩,?_⟩;rw[sK.o,mP.o];omega
  ·have bU:k=0:=(by omega);subst bU;have AQ:=hP.o;have z1:((0:Nat):Int)-1= -1:=rfl;rw[z1] at ci;have vA:Lk s 0=Z3M s:=(by unfold Lk Z3M;rw[Nat.sub_zero];rfl);rw[vA] at AQ;have US:=h_ AQ
   have jy:(Z3M s).length=n+1:=by
    rw[<-vA,<-Hn.o];exact ZkE s (Nat.zero_le _)
   have Kx:=h_ jy;have ez:Hid ([]++Wv.Lz.follow s n 0=parse s):=h_ (by rw[List.nil_append,<-Hn.o];rfl);have tw:=h_ (λi (h:i<n)=>(Zbj (by rw[Hn.o];exact h):PcOk s i ((Z3M s).getD i st0).first));have DC:=h_ (λf i (h:i<n)=>(Za9 (by rw[Hn.o];exact h):Wv.Lz.follow s (f+1) i=((Z3M s).getD i st0).first::Wv.Lz.follow s f (i+((Z3M s).getD i st0).first.len)));have RA:=h_ (λf=>(ZcM (by rw[Hn.o];exact Nat.le_refl _):Wv.Lz.follow s f n=[]));have RB:=h_ (λi (h:i<n+1)=>Zav (Z3M s) i (by rw[jy];exact h));have lV:=AQ.best;rw[jy] at lV;have AT:=h_ lV;have N8:=h_ AQ.tb;have N9:Hid (wr.ownsRow w.heap.size 181 3 (.slice none 0 0) ([]:List Pc).length (pcCs [])):=h_ Z0p;clear AQ hP vA mP jy lV qD AJ rz ia zV pj uk mQ rU ua Hg aR;go_wp2;clear ci;go_loopw [16,17] (λiz AU wx=>∃(i f:Nat) (o:List Pc) (ov:Value),i<=n/\AU=.int .i64 (i:Int)/\iz=ov/\Hid (n<=i+f)/\Hid (o.length<=i)/\Hid (Bk wx T 279 (stA (Z3M s)))/\Hid (Bk wx bb 277 #[.slice (some ⟨T,0,none⟩) (n+1) (n+1)])/\Hid (wx.ownsRow w.heap.size 181 3 ov o.length (pcCs o))/\Hid (o++Wv.Lz.follow s f i=parse s)/\Hid (Below w.heap.size w wx)) (λ_ AU _=>(n-intOf AU).toNat);case atStart=>exact⟨0,n,[],_,Nat.zero_le _,rfl,rfl,h_ (by omega),h_ (Nat.le_refl _),N8,AT,N9,ez,hb⟩
   case round=>
    clear N8 AT N9 ez hb;obtain⟨i,f,o,ov,hi,rfl,rfl,hf,fG,hT,lV,aU,qA,hb⟩:=hrel;obtain⟨A,cap,rfl,_⟩:=Z0q aU.o;by_cases ab:i<n
    ·obtain⟨f1,rfl⟩:∃g,f=g+1:=⟨f-1,by have:=hf.o;omega⟩;have bG:=tw.o i ab;have bR:=bG.pos;rw[Hn.o] at bR;have sL:=DC.o f1 i ab;obtain⟨_,_,g2,g3,g4⟩:=RB.o i (by omega);obtain⟨p,hp⟩:∃p,((Z3M s).getD i st0).first=p:=⟨_,rfl⟩;rw[hp] at bR sL g2 g3 g4;have kT:=qA.o;rw[sL] at kT;have pU:Hid ((o++[p])++Wv.Lz.follow s f1 (i+p.len)=parse s):=h_ (by rw[List.append_assoc];exact kT);have q2:=(hT.o.cell (i*5+2)).trans g2;have q3:=(hT.o.cell (i*5+3)).trans g3;have q4:=(hT.o.cell (i*5+4)).trans g4;have qb:=lV.o.cell 0;simp at qb;have di:(i:Int)<(n:Int)+1:=(by omega);have RC:(i:Int)<(n:Int):=(by omega);have ji:(0:Int)<=(i:Int):=(by omega);obtain⟨v',w2,hr,se,AY,dK,_⟩:=ZbO (P:=Tryz.prog) 172 181 _ _ 3 Tryz.underlying172 ZoT rfl (by omega) aU.o hb.o hb.o.size [.int .i64 (p.len:Int),.int .i64 (p.dist:Int),.int .u8 (p.byte.toNat:Int)] rfl (by simp[Value.oneCell']) (by unfold maxLen;have:=fG.o;omega) (by have:=fG.o;omega);have mC:=dK _ _ _ hT.o (by decide);have a8:=dK _ _ _ lV.o (by decide);have r2:=(mC.cell (i*5+2)).trans g2;have rb:=a8.cell 0;simp at rb;have gd:o.length+1=(o++[p]).length:=(by simp);have dz:pcCs o++[.int .i64 (p.len:Int),.int .i64 (p.dist:Int),.int .u8 (p.byte.toNat:Int)]=pcCs (o++[p]):=(by simp[pcCs,pcL]);rw[gd,dz] at se;have I9:=h_ se;have tx:=h_ mC;have al:=h_ a8;have Ia:=h_ AY;have ao:=h_ hr;have bW:Hid (n<=i+p.len+f1):=h_ (by have:=hf.o;omega);have nw:Hid ((o++[p]).length<=i+p.len):=h_ (by have:=fG.o;simp;omega);obtain⟨A2,M2,aK,rfl⟩:=Z0c se;clear bG sL g2 g3 g4 hp qA kT se mC a8 AY hr hf fG dK gd dz aU;obtain⟨m,hm⟩:∃m,i+p.len=m:=⟨_,rfl⟩;rw[hm] at pU bW nw bR;have Na:(i:Int)+(p.len:Int)=(m:Int):=(by omega);have aX:m<=n:=bR.2;have xz:i<m:=(by omega);clear bR hm;go_wp2_with (at_builtin;refine Z04 (by with_reducible rfl) rfl _ _ _ rfl _ _ (by rfl) (by rfl) ao.o ?_);refine⟨⟨m,f1,o++[p],_,aX,by first|rfl|(congr 1),rfl,bW,nw,tx,al,I9,pU,Ia⟩,?_⟩;simp[intOf]<;>omega
    ·have aX:i=n:=(by omega);subst aX;have kT:=qA.o;rw[RA.o,List.append_nil] at kT;have cN:=aU.o;rw[kT] at cN;have oP:=h_ cN;rw[kT];clear qA kT aU cN hT lV;go_wp2;go_returns;exact⟨_,rfl,oP.o,hb.o⟩
end Go.Proofs.YtchokmkfobandaaGreatDoor
namespace Wv
open Go Go.RowKit
theorem Zdg {w:World} {B B':Nat} {e e':TypeId} {sz RE n n':Nat} {v v':Value} {xs ys:List Value} (h:w.ownsRow B e sz v n xs) (h':w.ownsRow B' e' RE v' n' ys) (ay:e≠e') {g:Nat} (hg:v.ownBlock=some g):v'.ownBlock≠some g:=by
 rcases h.2 with ⟨rfl,_⟩|⟨g1,cap,cur,rfl,_,hh,_⟩
 ·simp[Value.ownBlock] at hg
 ·have:g1=g:=(by simpa [Value.ownBlock] using hg);subst this;exact Z02 h' (show Bk w g1 e cur from hh) (Ne.symm ay)
end Wv
namespace Go.Proofs.YtchokmkfobandaaGreatDoor
open Go.RowKit Go.Proofs Wv Wv.Vi Wv.Rc Wv.Mo Wv.Lz
theorem Zmh {w:World} {B n cap g:Nat} {o:List Pc} (h:w.ownsRow B 181 3 (.slice (some ⟨g,0,none⟩) n cap) n (pcCs o)) {k:Nat} (hk:k<o.length):w.cell? ⟨g,k*3,none⟩=some (.int .i64 (o[k].len:Int))/\w.cell? ⟨g,k*3+1,none⟩=some (.int .i64 (o[k].dist:Int))/\w.cell? ⟨g,k*3+2,none⟩=some (.int .u8 (o[k].byte.toNat:Int)):=by
 have key:∀(o:List Pc) (k:Nat) (hk:k<o.length),(pcCs o)[k*3]? =some (.int .i64 (o[k].len:Int))/\(pcCs o)[k*3+1]? =some (.int .i64 (o[k].dist:Int))/\(pcCs o)[k*3+2]? =some (.int .u8 (o[k].byte.toNat:Int)):=by
  intro o;induction o with
  |nil=>intro k h;simp at h
  |cons c r ih=>
   intro k h;cases k with
   |zero=>exact⟨rfl,rfl,rfl⟩
   |succ k=>
    obtain⟨a,b,d⟩:=ih k (by simpa using h)
    have e1:∀j,(pcCs (c::r))[(k+1)*3+j]? =(pcCs r)[k*3+j]? :=λj=>by
     unfold pcCs;rw[List.flatMap_cons,List.getElem?_append_right (by show 3<=_;omega)];congr 1;show(k+1)*3+j-3=_;omega
    have e0:=e1 0;simp only[Nat.add_zero] at e0;rw[e0,e1,e1];exact⟨a,b,d⟩
 obtain⟨a,b,d⟩:=key o k hk;have h1:=h.cells (g:=g) rfl _ _ a;have h2:=h.cells (g:=g) rfl _ _ b;have h3:=h.cells (g:=g) rfl _ _ d;rw[Go.WideShapes.add_plain,Nat.zero_add] at h1 h2 h3;exact⟨h1,h2,h3⟩
theorem Z9n (s:List UInt8) (hs:4096<s.length) (cO:s.length<=1000000000) (w:World):
  Calls Tryz.prog 173 #[Z5Z,.string (bs s),.int .i64 4096] w λx w'=>x=.returned (.tuple #[.slice none 0 0,.int .i64 9])/\Below w.heap.size w w':=by
 have gY:=h_ (λW=>Z6U W);have Dy:=h_ (λW=>ZbY W);have ad:(bs s).size=s.length:=Z00 s;have fq:(4096:Int)<((bs s).size:Int):=(by omega);have mD:=h_ ((Below.refl w.heap.size w).alloc (Nat.le_refl _) (.cells #[.int .i64 9,.int .i64 12,.int .i64 1,.int .i64 1] 226));generalize bs s=S at*;clear ad hs cO;unfold Z5Z at gY⊢;go_enter Tryz.func173,Tryz.ntmps173;go_wp2_with fail;refine(gY.o _).mono ?_;rintro x w1 ⟨rfl,a7⟩;go_wp2_with fail;refine(Dy.o _).mono ?_;rintro x w2 ⟨rfl,rfl⟩;have aQ:=h_ (mD.o.trans (a7.mono (by simp)));clear a7 mD;go_wp2;go_returns;exact⟨rfl,aQ.o⟩
theorem Z63 (s:List UInt8) (hs:s.length<=4096) (w:World):
  Calls Tryz.prog 129 #[.string (bs s)] w λx w'=>∃ov,x=.returned (.tuple #[ov,.int .i64 0])/\w'.ownsRow w.heap.size 181 3 ov (parse s).length (pcCs (parse s))/\Below w.heap.size w w':=by
 have Hp:=h_ (Zdf s hs w);generalize bs s=S at*;generalize parse s=R at*;unfold Z5Z at Hp;go_enter Tryz.func129,Tryz.ntmps129;go_wp2_with fail;refine(Hp.o).mono ?_;rintro x w1 ⟨ov,rfl,h1,h2⟩;obtain⟨A,M,cap,rfl⟩:=Z0c h1;have H1:=h_ h1;clear h1;go_wp2;go_returns;exact⟨_,rfl,H1.o,h2⟩
theorem Z80 (s:List UInt8) (hs:4096<s.length) (cO:s.length<=1000000000) (w:World):
  Calls Tryz.prog 129 #[.string (bs s)] w λx w'=>x=.returned (.tuple #[.slice none 0 0,.int .i64 9])/\Below w.heap.size w w':=by
 have Hp:=h_ (Z9n s hs cO w);generalize bs s=S at*;unfold Z5Z at Hp;go_enter Tryz.func129,Tryz.ntmps129;go_wp2_with fail;refine(Hp.o).mono ?_;rintro x w1 ⟨rfl,h2⟩;go_wp2;go_returns;exact⟨rfl,h2⟩
theorem ZgI {s:List UInt8} {i:Nat} {t:Pc} (h:PcOk s i t) (hs:s.length<=4096):t.len<=1000000/\t.dist<=1000000/\(t.dist=0/\1<=t.len\/1<=t.dist/\2<=t.len):=by
 rcases h with ⟨h1,h2,_⟩|⟨h1,h2,h3,h4,h5,_⟩<;>omega
theorem Zdh (t:Pc) (l:List Pc) (x:Ms×En):Z2o (t::l) x=Z2o l (penc t x):=rfl
theorem wnew {B:Nat} {p:Pl} {eb:Nat} {dv:Value} (hp:PlB B p) (he:B<=eb) (hd:∀g,dv.ownBlock=some g->B<=g):∀k,k<B->¬Z31 p eb dv k:=λk hk hs=>by
 rcases hs with hs|hs|hs|hs|hs|hs|hs
 ·have:=hp.kg;omega
 ·have:=hp.bb;omega
 ·have:=hp.bg;omega
 ·have:=hp.lg;omega
 ·have:=hp.dg;omega
 ·omega
 ·have:=hd k hs;omega
theorem ZgJ (s : List UInt8) (hs : s.length <= 4096) (ay : s ≠ []) (w : World) :
    Calls Tryz.prog 82 #[.string (bs s)] w λx w'=>x=.returned (.tuple #[.string (bs (num s.length++efin (Z2o (parse s) (m0,e0)).2)),.int .i64 0])/\Below w.heap.size w w':=by
  have Hp:=h_ (Z63 s hs w);have ad:(bs s).size=s.length:=Z00 s;have cJ:=Z2i s;rw[decide_eq_false ay] at cJ;have Hn:=h_ (λW=>Z0g (s.length:Int) (by omega) (by omega) W);have rv:=kof9 s.length;rw[<-Z00] at rv;have Hs:=h_ (λW=>Z6R W);unfold setC at Hs;have He:=h_ (λW=>Zb7 W);have ny:=h_ (Z3a s);have tw:=h_ (λi t (h:PcOk s i t)=>ZgI h hs);obtain⟨n,hn⟩:∃n,s.length=n:=⟨_,rfl⟩;have Av:=h_ hn;rw[hn] at ad Hn hs rv⊢;rw[Int.toNat_natCast] at Hn;have uO:=h_ (Z0f (num n) (efin (Z2o (parse s) (m0,e0)).2));generalize bs s=S at*;obtain⟨l,hl⟩:∃l,parse s=l:=⟨_,rfl⟩;rw[hl] at Hp ny uO⊢;generalize bs (num n)=NS at*;clear hn hl ay;go_enter Tryz.func82,Tryz.ntmps82;go_wp2_with fail;refine(Hp.o).mono ?_;rintro x w1 ⟨ov,rfl,cA,a7⟩;obtain⟨A,cap,rfl,_⟩:=Z0q cA;go_wp2_with fail;refine(Hn.o _).mono ?_;rintro x w2 ⟨rfl,a8⟩;go_wp2_with fail;refine(Hs.o _).mono ?_;rintro x w3 ⟨p,rfl,Gx,qF,ae⟩;go_wp2_with fail;refine(He.o _).mono ?_;rintro x w4 ⟨rfl,Nb,aw⟩;have s1:=a7.size;have s2:=a8.size;have s3:=ae.size;have s4:=aw.size;have Ib:Below w1.heap.size w1 w4:=(a8.trans (ae.mono s2)).trans (aw.mono (by omega));have gA:=Z0v cA (Fr.of_below (S:=nob) Ib) (λ_ _ f=>f);have ir:Below w.heap.size w w4:=a7.trans (Ib.mono s1);have hP:PlB w.heap.size p:=⟨by have:=qF.kb;omega,by have:=qF.kg;omega,by have:=qF.bb;omega,by have:=qF.bg;omega,by have:=qF.lb;omega,by have:=qF.lg;omega,by have:=qF.db;omega,by have:=qF.dg;omega⟩
  have xM:WrSt ((w4.alloc (.cells (setC p) 178)).alloc (.cells #[.pointer (some ⟨w3.heap.size,0,none⟩)] 153)) p w4.heap.size (w4.heap.size+1) w3.heap.size (.slice none 0 0) (m0,e0):=
    ⟨(Gx.below aw).below (((Below.refl w4.heap.size w4).alloc (Nat.le_refl _) _).alloc (by simp) _),Nb.below (((Below.refl w4.heap.size w4).alloc (Nat.le_refl _) _).alloc (by simp) _),(Bk.new _ _ _).alloc _,Bk.newN _ _ _ (by simp)⟩
  have xx:=(gA.alloc (.cells (setC p) 178)).alloc (.cells #[.pointer (some ⟨w3.heap.size,0,none⟩)] 153);have aM:=(ir.alloc ir.size (.cells (setC p) 178)).alloc (Nat.le_trans ir.size (by simp)) (.cells #[.pointer (some ⟨w3.heap.size,0,none⟩)] 153);have pW:=h_ xM;have rL:=h_ xx;have bO:=h_ aM;have HP:=h_ hP;have vB:w.heap.size<=w3.heap.size:=(by omega);unfold setC at pW rL bO;clear xM xx aM hP cA gA a7 a8 ae aw Ib ir Gx qF Nb s1 s2 s3 s4 Hp Hn Hs He
  have hA:Hid (∀k,k<l.length->∃b,A=some ⟨b,0,none⟩):=h_ (λk hk=>by
    obtain⟨g,c2,e,_⟩:=Z9m rL.o (by omega);injection e with e1 e2 e3;exact⟨g,e1⟩)
  have gk:l.length<=1000000:=by
    have key:∀(i:Nat) (l:List Pc),Parses s i l->i+l.length<=s.length:=by
      intro i l h;induction h with
      |done=>simp
      |step h r ih=>have:=h.pos;simp only[List.length_cons];omega
    have:=key 0 l ny.o;rw[Av.o] at this;omega
  go_wp2;generalize (w4.alloc (.cells #[.pointer (some ⟨p.kb,0,none⟩),.pointer (some ⟨p.bb,0,none⟩),.pointer (some ⟨p.lb,0,none⟩),.pointer (some ⟨p.db,0,none⟩)] 178)).alloc (.cells #[.pointer (some ⟨w3.heap.size,0,none⟩)] 153)=W5 at*;generalize w4.heap.size+1=cb at*;generalize w4.heap.size=mb at*;generalize w3.heap.size=eb at*;go_loopw [31] (λvC wx=>∃(k i:Nat) (dv:Value) (x:Ms×En),k<=l.length/\vC=.int .i64 (k:Int)/\Hid (WrSt wx p mb cb eb dv x)/\Hid (MOk x.1/\Val 0 x.2)/\Hid (Z2o (l.drop k) x=Z2o l (m0,e0))/\Hid (Parses s i (l.drop k))/\Hid (x.2.out.length<=135*i)/\Hid (wx.ownsRow w.heap.size 181 3 (.slice A l.length cap) l.length (pcCs l))/\Hid (Below w.heap.size w wx)/\Hid (∀g,dv.ownBlock=some g->w.heap.size<=g)) (λvC _=>(l.length-intOf vC).toNat);case atStart=>exact⟨0,0,_,(m0,e0),Nat.zero_le _,rfl,pW,h_ ⟨ZeN,Z8f⟩,h_ rfl,ny,h_ (Nat.zero_le _),rL,bO,h_ (by simp[Value.ownBlock])⟩
  case round=>
    clear pW rL bO ny;obtain⟨k,i,dv,x,hk,rfl,hW,lW,DE,uE,dM,aU,hb,lF⟩:=hrel;by_cases ab:k<l.length
    · obtain⟨g,rfl⟩:=hA.o k ab
      obtain⟨c1,c2,c3⟩:=Zmh aU.o ab;have jE:l.drop k=l[k]::l.drop (k+1):=List.drop_eq_getElem_cons ab;have sf:=uE.o;have si:=DE.o;rw[jE] at sf si;obtain⟨t,ht⟩:∃t,l[k]=t:=⟨_,rfl⟩;rw[ht] at sf si c1 c2 c3;have bG:PcOk s i t/\Parses s (i+t.len) (l.drop (k+1)):=by cases sf with|step h r=>exact⟨h,r⟩
      obtain⟨bG,AZ⟩:=bG;obtain⟨o1,o2,o3⟩:=tw.o i t bG;have bR:=bG.pos;rw[Av.o] at bR;have yR:=ZbV o1 o2 (by omega) x;have sJ:=Z5a (p:=t) lW.o.1 lW.o.2;have cl:Below wr.heap.size wr (wr.alloc (.cells (pcC t) 181)):=(Below.refl _ _).alloc (Nat.le_refl _) _;have Hw:=Zau (hW.o.below cl) lW.o.1 lW.o.2 t o1 o2 o3 (by have:=dM.o;omega)
      have xj := h_ (λ(w' : World) (h : Fr (Z31 p eb dv) (wr.alloc (.cells (pcC t) 181)) w') => (⟨Z0v (aU.o.alloc (.cells (pcC t) 181)) h (λg hg hs => by
          have hR:=aU.o;rcases hs with hs|hs|hs|hs|hs|hs|hs
          · exact Z02 hR hW.o.ms.kn (by decide) (hs▸hg)
          · exact Z02 hR hW.o.ms.bt.st (by decide) (hs▸hg)
          · exact Z02 hR hW.o.ms.bt.nd (by decide) (hs▸hg)
          · exact Z02 hR hW.o.ms.ln.2 (by decide) (hs▸hg)
          · exact Z02 hR hW.o.ms.dn.2 (by decide) (hs▸hg)
          · exact Z02 hR hW.o.en.1 (by decide) (hs▸hg)
          · exact Zdg hR hW.o.en.2 (by decide) hg hs),
        (hb.o.alloc hb.o.size (.cells (pcC t) 181)).trans (h.toBelow' (Nat.le_trans hb.o.size (by simp)) (wnew HP.o vB lF.o))⟩:w'.ownsRow w.heap.size 181 3 (.slice (some ⟨g,0,none⟩) l.length cap) l.length (pcCs l)/\Below w.heap.size w w'))
      have xh := h_ (λ(d : Value) (h : Z0k (wr.alloc (.cells (pcC t) 181)) dv d) => (λg hg => by
          rcases h with h|h
          · exact lF.o g (h▸hg)
          · have:=h g hg
            have:=hb.o.size;simp at*;omega:∀g,d.ownBlock=some g->w.heap.size<=g))
      have B0:Hid ((penc t x).2.out.length<=135*(i+t.len)):=h_ (by have:=dM.o;omega);have RF:Hid (Z2o (l.drop (k+1)) (penc t x)=Z2o l (m0,e0)):=h_ si;have ny:=h_ AZ;have ye:=h_ sJ;have di:(k:Int)<(l.length:Int):=(by omega);have bU:(0:Int)<=(k:Int):=(by omega);have Hw:=h_ Hw;unfold pcC at Hw xj xh;clear jE sf si ht bG AZ o1 o2 o3 bR yR sJ cl hW lW DE uE dM aU lF;obtain⟨tl,td,tb⟩:=t;simp only at c1 c2 c3 Hw xj xh;generalize (tb.toNat:Int)=TB at*;go_wp2_with fail;refine(Hw.o).mono ?_;rintro r w6 ⟨rfl,d6,Nc,qE,Nd⟩;obtain⟨z8,dq⟩:=xj.o _ qE;have FH:=h_ z8;have ej:=h_ dq;have RG:=h_ (xh.o _ Nd);have RH:=h_ Nc;clear qE Nd z8 dq Nc xj xh Hw hb;go_wp2;refine⟨⟨k+1,_,d6,_,ab,by go_num,RH,ye,RF,ny,B0,FH,ej,RG⟩,?_⟩;simp[intOf]<;>omega
    · have bD:k=l.length:=by omega
      subst bD
      have hx:x=Z2o l (m0,e0):=by
        have:=DE.o;rw[List.drop_length] at this;exact this
      have x8:i<=n:=by
        have key:∀(i:Nat) (l:List Pc),Parses s i l->i<=s.length:=by
          intro i l h;cases h with
          |done=>exact Nat.le_refl _
          |step h r=>have:=h.pos;omega
        have:=key _ _ uE.o;rw[Av.o] at this;exact this
      have Hf:=Z5x hW.o.en lW.o.2.low (by have:=dM.o;omega);rw[hx] at Hf;have Hf:=h_ Hf;have c4:=hW.o.cc.cell 0;simp at c4
      have sM:(bs (efin (Z2o l (m0,e0)).2)).size<=1000000:=by
        rw[Z00];unfold efin;rw[<-hx,List.length_append];have:=dM.o;have e4:(be 4 x.2.low).length=4:=(by rw[be4];rfl);omega
      generalize bs (efin (Z2o l (m0,e0)).2)=FS at*;clear hx hW lW DE uE dM aU lF;go_wp2_with fail;refine(Hf.o).mono ?_;rintro r w6 ⟨rfl,dq⟩;have ej:=h_ (hb.o.trans (dq.mono hb.o.size));clear dq hb;go_wp2;go_returns;exact⟨by rw[<-uO.o];rfl,ej.o⟩
theorem ZgK (w:World):
  Calls Tryz.prog 82 #[.string (bs [])] w λx w'=>x=.returned (.tuple #[.string (bs (num 0)),.int .i64 0])/\Below w.heap.size w w':=by
 have Hp:=h_ (Z63 [] (Nat.zero_le _) w);have ad:(bs ([]:List UInt8)).size=0:=rfl;have cJ:=Z2i [];rw[decide_eq_true rfl] at cJ;have Hn:=h_ (λW=>Z0g 0 (by omega) (by omega) W);have e0:(0:Int).toNat=0:=rfl;rw[e0] at Hn;generalize bs []=S at*;generalize parse []=l at*;generalize bs (num 0)=NS at*;go_enter Tryz.func82,Tryz.ntmps82;go_wp2_with fail;refine(Hp.o).mono ?_;rintro x w1 ⟨ov,rfl,cA,a7⟩;obtain⟨A,cap,rfl,_⟩:=Z0q cA;go_wp2_with fail;refine(Hn.o _).mono ?_;rintro x w2 ⟨rfl,a8⟩;have aQ:=h_ (a7.trans (a8.mono a7.size));clear cA a7 a8;go_wp2;go_returns;exact⟨rfl,aQ.o⟩
theorem Zay (s:List UInt8) (hs:4096<s.length) (cO:s.length<=1000000000) (w:World):
  Calls Tryz.prog 82 #[.string (bs s)] w λx w'=>x=.returned (.tuple #[.string (bs []),.int .i64 9])/\Below w.heap.size w w':=by
 have Hp:=h_ (Z80 s hs cO w);have he:bs ([]:List UInt8)=⟨#[]⟩:=rfl;rw[he];generalize bs s=S at*;clear he;go_enter Tryz.func82,Tryz.ntmps82;go_wp2_with fail;refine(Hp.o).mono ?_;rintro x w1 ⟨rfl,a7⟩;go_wp2;go_returns;exact⟨rfl,a7⟩
def optV (o:Option (List UInt8)):Value:=match o with
 |some t=>.tuple #[.string (bs t),.int .i64 0]
 |none=>.tuple #[.string (bs []),.int .i64 9]
theorem Z4U (s:List UInt8) (hs:s.length<=1000000000) (w:World):
  Calls Tryz.prog 82 #[.string (bs s)] w λx w'=>x=.returned (optV (lzE s))/\Below w.heap.size w w':=by
 unfold lzE;by_cases h:4096<s.length
 ·rw[if_pos h];exact Zay s h hs w
 ·rw[if_neg h];by_cases h0:s=[]
  ·subst h0;rw[if_pos rfl,List.append_nil];exact ZgK w
  ·rw[if_neg h0];exact ZgJ s (by omega) h0 w
end Go.Proofs.YtchokmkfobandaaGreatDoor
