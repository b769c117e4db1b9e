import Derived.Test.YtchokmkfobandaaGreatDoorM29
set_option linter.unusedVariables false
set_option linter.unusedSimpArgs false
set_option maxRecDepth 100000
set_option maxHeartbeats 8000000
namespace Go.Proofs.YtchokmkfobandaaGreatDoor
open Go.RowKit Go.Proofs Wv Wv.Vi Wv.Mo Wv.Lz
def Lq (q:Nat) (cur:Option St) (tb:List St):List St:=List.replicate q st0++cur.getD st0::tb
theorem ZkA (q:Nat) (cur:Option St) (tb:List St):(Lq q cur tb).length=q+tb.length+1:=by unfold Lq;rw[Vab,Vaw,Vaz];omega
theorem Zll (q:Nat) (cur:Option St) (tb:List St):(Lq q cur tb).getD q st0=cur.getD st0:=by
 unfold Lq;rw[Vbn,Vbd (by simp),Vaw,Va7];rfl
theorem ZkB (q:Nat) (cur:Option St) (tb:List St) {k:Nat} (h:1<=k):(Lq q cur tb).getD (q+k) st0=tb.getD (k-1) st0:=by
 unfold Lq;rw[Vbn,Vbd (by simp),Vaw,Nat.add_sub_cancel_left];obtain⟨j,rfl⟩:∃j,k=j+1:=⟨k-1,by omega⟩;rw[List.getElem?_cons_succ,Vb5,Vbn]
theorem ZkC (q:Nat) (cur:Option St) (tb:List St) (x:St):(Lq q cur tb).set q x=Lq q (some x) tb:=by
 unfold Lq;rw[Va8 _ _ (by simp),Vaw,Va7];rfl
theorem ZiK (q:Nat) (cur:Option St) (tb:List St) (t:Pc) (h:1<=t.len):(if(!cur.isSome||bett (xOf (Lq q cur tb) q t) ((Lq q cur tb).getD q st0))=true then(Lq q cur tb).set q (xOf (Lq q cur tb) q t) else Lq q cur tb)=Lq q (tryP tb cur t) tb:=by
 have hx:xOf (Lq q cur tb) q t=stOf tb t:=(by unfold xOf stOf;rw[ZkB q cur tb h]);rw[hx,Zll,ZkC];unfold tryP;cases cur with
 |none=>rfl
 |some c=>
  simp only[Option.isSome_some,Bool.not_true,Bool.false_or,Option.getD_some];split<;>rfl
theorem ZkD {q:Nat} {cur:Option St} {tb:List St} {M:Nat} (lQ:∀x∈tb,x.cost<=M/\x.pcs<=M) (hc:∀x,cur=some x->x.cost<=M/\x.pcs<=M):∀x∈Lq q cur tb,x.cost<=M/\x.pcs<=M:=by
 intro x hx;unfold Lq at hx;rcases Vba.1 hx with h|h
 ·rw[List.eq_of_mem_replicate h];exact⟨Var _,Var _⟩
 ·rcases Va9.1 h with h|h
  ·cases cur with
   |none=>rw[h];exact⟨Var _,Var _⟩
   |some c=>rw[h];exact hc c rfl
  ·exact lQ x h
theorem ZcT {w:World} {T bb ib cb sb q n M:Nat} {cur:Option St} {tb:List St} (h:TrSt w T bb ib cb sb (Lq q cur tb) q cur.isSome) (eZ:q+tb.length=n) (hn:n<=4096) (lQ:∀x∈tb,x.cost<=M/\x.pcs<=M) (hM:M<=160000) (hc:∀x,cur=some x->x.cost<=M+38/\x.pcs<=M+38) (t:Pc) (h1:1<=t.len) (h2:q+t.len<=n) (h3:t.dist<=4096):
  Calls Tryz.prog 213 #[.agg (pcC t),.pointer (some ⟨bb,0,none⟩),.pointer (some ⟨ib,0,none⟩),.pointer (some ⟨cb,0,none⟩),.pointer (some ⟨sb,0,none⟩)] w λx w'=>x=.returned (.tuple #[])/\TrSt w' T bb ib cb sb (Lq q (tryP tb cur t) tb) q (tryP tb cur t).isSome/\(∀x,tryP tb cur t=some x->x.cost<=M+38/\x.pcs<=M+38)/\Fr (λk=>k=T\/k=sb) w w':=by
 have hl:=ZkA q cur tb;have ZjH:(tryP tb cur t).isSome=true:=(by obtain⟨x,hx⟩:=Z0a tb cur t;rw[hx];rfl);have hm:=ZkD (q:=q) (M:=M+38) (λx hx=>by have:=lQ x hx;omega) hc;refine(ZfV h (by omega) (λx hx=>by have:=hm x hx;omega) t (by omega) h3 h1 (by omega)).mono ?_;rintro x w' ⟨rfl,ht,hf⟩;rw[ZiK q cur tb t h1] at ht;rw[ZjH];exact⟨rfl,ht,ZbP lQ hc (Z1l h3 (by omega)),hf⟩
theorem ZiL:(Tryz.prog.info? 279).map (λi=>(i.zero,i.size,i.bytes))=some (some (.agg #[.int .i64 0,.int .i64 0,.int .i64 0,.int .i64 0,.int .u8 0]),5,40):=by kernel_rfl
theorem Z9q (n:Nat):madeCells #[.int .i64 0,.int .i64 0,.int .i64 0,.int .i64 0,.int .u8 0] (n*5)=stA (List.replicate n st0):=by
 apply Array.ext_getElem?;intro i;unfold madeCells;rcases Nat.lt_or_ge i (n*5) with h|h
 ·have hq:i/5<(List.replicate n st0).length:=(by rw[Vaw];omega);obtain⟨a,b,c,d,e⟩:=Z6E (List.replicate n st0) (i/5) hq
  have hg:(List.replicate n st0).getD (i/5) st0=st0:=by
   rw[Vbn,Vao hq,List.getElem_replicate];rfl
  rw[hg] at a b c d e;have hi:i=i/5*5+i % 5:=(by omega);rw[Array.getElem?_map,Array.getElem?_range];rw[Vaf h];rcases(show i % 5=0\/i % 5=1\/i % 5=2\/i % 5=3\/i % 5=4 by omega) with r|r|r|r|r
  all_goals
   rw[r] at hi;simp only[Vcg,Array.size,List.size_toArray,Vaz,Vb6,Nat.reduceAdd,r]
  ·rw[hi,Vb3,a];rfl
  ·rw[hi,b];rfl
  ·rw[hi,c];rfl
  ·rw[hi,d];rfl
  ·rw[hi,e];rfl
 ·have h1:(stA (List.replicate n st0)).size<=i:=by
   unfold stA;simp only[List.size_toArray,List.length_flatMap,List.map_replicate,List.sum_replicate_nat];have:(stc st0).length=5:=rfl;rw[this];exact h
  rw[Array.getElem?_eq_none h1,Array.getElem?_map,Array.getElem?_range,Vad (by omega)];rfl
theorem Zg5 (n:Nat) (hn:n<=5000) (w:World):(Instr.makeSlice 277 (.int .i64 (n:Int)) (.int .i64 (n:Int))).run Tryz.prog w=.ok (.slice (some ⟨w.heap.size,0,none⟩) n n) (w.alloc (.cells (stA (List.replicate n st0)) 279)):=by
 obtain⟨i,hi,hz,hs,dt⟩:=info_parts ZiL;have hr:=run_make (P:=Tryz.prog) w 277 279 i _ Tryz.underlying277 hi hz .i64 .i64 (n:Int) (n:Int) (by omega) (by omega) (by rw[dt];omega) (by omega);rw[hr,Vav,hs,<-Z9q];rfl
theorem Z82 (w:World):Calls Tryz.prog 212 #[.int .i64 4096] w λx w'=>x=.returned (.bool true)/\w=w':=by
 go_enter Tryz.func212,Tryz.ntmps212;go_wp2;go_returns;exact⟨rfl,rfl⟩
theorem Z38 (w:World):Calls Tryz.prog 211 #[Z2b] w λx w'=>x=.returned (.bool true)/\Below w.heap.size w w':=by
 have hk:=h_ (Bk.newN (w.alloc (.cells #[.int .i64 9,.int .i64 12,.int .i64 1,.int .i64 1] 226)) 3 #[.int .i64 9,.int .i64 12,.int .i64 1,.int .i64 1] (n:=w.heap.size+1) (by simp));have hb:=h_ (((Vae w.heap.size w).alloc UZz (.cells #[.int .i64 9,.int .i64 12,.int .i64 1,.int .i64 1] 226)).alloc (by simp) (.cells #[.int .i64 9,.int .i64 12,.int .i64 1,.int .i64 1] 3));unfold Z2b;go_enter Tryz.func211,Tryz.ntmps211;go_wp2;generalize (w.alloc (.cells #[.int .i64 9,.int .i64 12,.int .i64 1,.int .i64 1] 226)).alloc (.cells #[.int .i64 9,.int .i64 12,.int .i64 1,.int .i64 1] 3)=W0 at*;go_loopw [15] (λki wr=>∃k:Nat,k<=4/\ki=.int .i64 (k:Int)/\wr=W0) (λki _=>(4-intOf ki).toNat);case atStart=>exact⟨0,by omega,rfl,rfl⟩
 case round=>
  obtain⟨k,KU,rfl,rfl⟩:=hrel;have c0:=hk.o.cell 0;have c1:=hk.o.cell 1;have c2:=hk.o.cell 2;have c3:=hk.o.cell 3;simp at c0 c1 c2 c3;rcases(show k=0\/k=1\/k=2\/k=3\/k=4 by omega) with rfl|rfl|rfl|rfl|rfl
  ·go_wp2;refine⟨⟨1,by omega,rfl,by first|rfl|trivial⟩,?_⟩;simp[intOf]
  ·go_wp2;refine⟨⟨2,by omega,rfl,by first|rfl|trivial⟩,?_⟩;simp[intOf]
  ·go_wp2;refine⟨⟨3,by omega,rfl,by first|rfl|trivial⟩,?_⟩;simp[intOf]
  ·go_wp2;refine⟨⟨4,by omega,rfl,by first|rfl|trivial⟩,?_⟩;simp[intOf]
  ·go_wp2;go_returns;exact⟨rfl,hb.o⟩
def pcL (t:Pc):List Value:=[.int .i64 (t.len:Int),.int .i64 (t.dist:Int),.int .u8 (t.byte.toNat:Int)]
def pcCs (l:List Pc):List Value:=l.flatMap pcL
structure PaSt (w:World) (T bb ib cb:Nat) (L:List St) (iv:Int):Prop where
 tb:Bk w T 279 (stA L)
 best:Bk w bb 277 #[.slice (some ⟨T,0,none⟩) L.length L.length]
 i:Bk w ib 3 #[.int .i64 iv]
 c:Bk w cb 226 #[.int .i64 9,.int .i64 12,.int .i64 1,.int .i64 1]
theorem PaSt.below {w w':World} {T bb ib cb:Nat} {L:List St} {iv:Int} (h:PaSt w T bb ib cb L iv) (hb:Below w.heap.size w w'):PaSt w' T bb ib cb L iv:=
 ⟨h.tb.below hb h.tb.lt,h.best.below hb h.best.lt,h.i.below hb h.i.lt,h.c.below hb h.c.lt⟩
theorem PaSt.try {w:World} {T bb ib cb:Nat} {L:List St} {i:Nat} (h:PaSt w T bb ib cb L (i:Int)):TrSt (w.alloc (.cells #[.bool false] 4)) T bb ib cb w.heap.size L i false:=
 ⟨h.tb.alloc _,h.best.alloc _,h.i.alloc _,h.c.alloc _,Bk.new _ _ _⟩
def Lk (s:List UInt8) (k:Nat):List St:=List.replicate k st0++tbl s (s.length-k)
theorem ZiM (s:List UInt8) (q:Nat):Lk s (q+1)=Lq q none (tbl s (s.length-(q+1))):=by
 unfold Lk Lq;rw[List.replicate_succ',Vay];rfl
theorem Zg6 (s:List UInt8):List.replicate (s.length+1) st0=Lk s s.length:=by
 unfold Lk;rw[Va7,List.replicate_succ'];rfl
theorem ZiN (s:List UInt8) (q:Nat) (hq:q<s.length) {x:St} (hx:(Z2v s q).foldl (tryP (tbl s (s.length-(q+1)))) none=some x):Lq q (some x) (tbl s (s.length-(q+1)))=Lk s q:=by
 unfold Lk Lq;have e:s.length-q=(s.length-(q+1))+1:=(by omega);rw[e];show _=_++(Z0Y s (s.length-1-(s.length-(q+1))) _::_);rw[show s.length-1-(s.length-(q+1))=q by omega];unfold Z0Y;rw[hx]
theorem Zh9 (s:List UInt8) {k:Nat} (h:k<=s.length):(Lk s k).length=s.length+1:=by
 unfold Lk;rw[Vab,Vaw,ZaR];omega
theorem Z6I {w:World} {B n cap g:Nat} {o:List (Nat×Nat)} (h:w.ownsRow B 284 2 (.slice (some ⟨g,0,none⟩) n cap) n (cpC o)) {k:Nat} (hk:k<o.length):w.cell? ⟨g,k*2,none⟩=some (.int .i64 ((o.getD k (0,0)).1:Int))/\w.cell? ⟨g,k*2+1,none⟩=some (.int .i64 ((o.getD k (0,0)).2:Int)):=by
 have key:∀(o:List (Nat×Nat)) (k:Nat),k<o.length->(cpC o)[k*2]? =some (.int .i64 ((o.getD k (0,0)).1:Int))/\(cpC o)[k*2+1]? =some (.int .i64 ((o.getD k (0,0)).2:Int)):=by
  intro o;induction o with
  |nil=>intro k h;simp at h
  |cons c r ih=>
   intro k h;cases k with
   |zero=>exact⟨rfl,rfl⟩
   |succ k=>
    obtain⟨a,b⟩:=ih k (by simpa using h)
    have e1:(cpC (c::r))[(k+1)*2]? =(cpC r)[k*2]? :=by
     unfold cpC;rw[Vb0,Vbd (by show 2<=_;omega)];congr 1;show(k+1)*2-2=_;omega
    have e2:(cpC (c::r))[(k+1)*2+1]? =(cpC r)[k*2+1]? :=by
     unfold cpC;rw[Vb0,Vbd (by show 2<=_;omega)];congr 1;show(k+1)*2+1-2=_;omega
    rw[e1,e2,List.getD_cons_succ];exact⟨a,b⟩
 obtain⟨a,b⟩:=key o k hk;have h1:=h.cells (g:=g) rfl _ _ a;have h2:=h.cells (g:=g) rfl _ _ b;rw[Go.WideShapes.add_plain,Vbo] at h1 h2;exact⟨h1,h2⟩
def ptmu (v:Value) (w:World):Nat:=match v with
 |.pointer (some a)=>match w.cell? a with
  |some (.int _ n)=>(n+1).toNat
  |_=>0
 |_=>0
theorem ZcU {w:World} {a:Addr} {k:IntKind} {n:Int} (h:w.cell? a=some (.int k n)):ptmu (.pointer (some a)) w=(n+1).toNat:=by
 unfold ptmu;simp only;rw[h]
theorem Zg7 {w1:World} {cb:Nat} (hc:Bk w1 cb 226 #[.int .i64 9,.int .i64 12,.int .i64 1,.int .i64 1]) {L:List St} {m:Nat} (hL:L.length=m) (iv:Int):
  PaSt (((w1.alloc (.cells (stA L) 279)).alloc (.cells #[.slice (some ⟨w1.heap.size,0,none⟩) m m] 277)).alloc (.cells #[.int .i64 iv] 3)) w1.heap.size (w1.heap.size+1) (w1.heap.size+1+1) cb L iv/\
  Below w1.heap.size w1 (((w1.alloc (.cells (stA L) 279)).alloc (.cells #[.slice (some ⟨w1.heap.size,0,none⟩) m m] 277)).alloc (.cells #[.int .i64 iv] 3)):=by
 subst hL
 exact⟨⟨((Bk.new _ _ _).alloc _).alloc _,(Bk.newN _ _ _ (by simp)).alloc _,Bk.newN _ _ _ (by simp),((hc.alloc _).alloc _).alloc _⟩,
  (((Vae w1.heap.size w1).alloc UZz _).alloc (by simp) _).alloc (by simp;omega) _⟩
theorem Z83 {B T sb:Nat} {w wr wx:World} (h:Below B w wr) (hB:B<=wr.heap.size) (hf:Fr (λk=>k=T\/k=sb) wr wx) (h1:B<=T) (h2:B<=sb):Below B w wx:=
 h.trans (hf.toBelow' hB (λk hk hs=>by rcases hs with hs|hs<;>omega))
theorem ZkE {B n:Nat} {v:Value} {xs:List Value} {w w':World} {T bb ib cb sb:Nat} {L:List St} {i:Nat} {seen:Bool} (h:w.ownsRow B 284 2 v n xs) (ht:TrSt w T bb ib cb sb L i seen) (hf:Fr (λk=>k=T\/k=sb) w w'):w'.ownsRow B 284 2 v n xs:=
 Zl h hf (λg hg hs=>by
  rcases hs with hs|hs
  ·exact Z3 h ht.tb (by decide) (hs▸hg)
  ·exact Z3 h ht.sn (by decide) (hs▸hg))
def CpOk (n q:Nat) (l:List (Nat×Nat)):Prop:=∀c∈l,2<=c.1/\q+c.1<=n/\c.2<=4096
theorem ZcV {s:List UInt8} {q:Nat} (hq:q<=s.length):CpOk s.length q (cand s q):=λc hc=>by
 obtain⟨h1,h2,_,_,h5,_⟩:=(Z63 s q).1 c hc;have:Xs s q<=s.length-q:=Nat.min_le_right _ _;exact⟨h1,by omega,h5⟩
theorem ZiO (s:List UInt8) (i most:Nat):∀p b o,(btr s i most p b o).length<=o.length+p:=by
 intro p;induction p with
 |zero=>intro b o;exact UZz
 |succ p ih=>
  intro b o;rw[btr];split
  ·omega
  ·split
   ·have:=ih b o;omega
   ·split
    ·have:=ih (com s p i most) (o++[(com s p i most,i-p)]);rw[Vab,Vbe] at this;omega
    ·have:=ih b o;omega
theorem Zg8 (s:List UInt8) (i:Nat):(cand s i).length<=i:=by
 have:=ZiO s i (Xs s i) i 1 [];unfold cand;simpa using this
theorem Z84 {n q:Nat} {l:List (Nat×Nat)} (h:CpOk n q l) {j:Nat} (hj:j<l.length):2<=(l.getD j (0,0)).1/\q+(l.getD j (0,0)).1<=n/\(l.getD j (0,0)).2<=4096:=by
 rw[Vbn,Vao hj];exact h _ (Vaj _)
theorem ZcW {n q:Nat} {l:List (Nat×Nat)} (h:CpOk n q l) {j:Nat} (hj:j<l.length):1<=Z2P l j/\Z2P l j<=n+1:=by
 unfold Z2P;split
 ·obtain⟨a,b,_⟩:=Z84 h (j:=j-1) (by omega);omega
 ·omega
theorem Z5s {w:World} {base n size:Nat} {e:TypeId} {v:Value} {xs:List Value} (h:w.ownsRow base e size v n xs) (hn:0<n):∃g cap,v=.slice (some ⟨g,0,none⟩) n cap/\n<=cap:=by
 rcases h.2 with ⟨_,h2⟩|⟨g',bw,cur,hv,hb,hg,hc,_⟩
 ·omega
 ·exact⟨g',bw,hv,hc⟩
theorem Zlm:(Tryz.prog.info? 181).map (λi=>(i.zero,i.size,i.bytes))=some (some (.agg #[.int .i64 0,.int .i64 0,.int .u8 0]),3,24):=by kernel_rfl
theorem Z9r (s:List UInt8) (hs:s.length<=4096) (w:World):
  Calls Tryz.prog 173 #[Z2b,.string (bs s),.int .i64 4096] w λx w'=>∃ov,x=.returned (.tuple #[ov,.int .i64 0])/\w'.ownsRow w.heap.size 181 3 ov (parse s).length (pcCs (parse s))/\Below w.heap.size w w':=by
 have im:=h_ (λW=>Z38 W);have Ew:=h_ (λW=>Z82 W);have uN:=h_ (λi (hi:i<=s.length) W=>Z96 s hs i hi W);have ad:(bs s).size=s.length:=Z0 s;obtain⟨n,hn⟩:∃n,s.length=n:=⟨_,rfl⟩;have sl:=λW=>Zg5 (n+1) (by omega) W;have fI:((n+1:Nat):Int)=(n:Int)+1:=(by omega);rw[fI] at sl;have sJ:=h_ (Bk.new w 226 #[.int .i64 9,.int .i64 12,.int .i64 1,.int .i64 1]);have n7:=h_ ((Vae w.heap.size w).alloc UZz (.cells #[.int .i64 9,.int .i64 12,.int .i64 1,.int .i64 1] 226));have Hg:=h_ (QR s);have pP:=h_ (λq hq x hx=>ZiN s q hq (x:=x) hx);have B0:=h_ (λq=>ZiM s q);have uW:=h_ (λq (hq:q<s.length)=>ZbQ s (s.length-(q+1)) (by omega));have ns:=h_ (λq (hq:q<=s.length)=>ZcV hq);have sE:=h_ (λk=>ZaR s k);obtain⟨S,hS⟩:∃S,bs s=S:=⟨_,rfl⟩;have aS:=h_ (Zg6 s);have fJ:(Lk s s.length).length=s.length+1:=Zh9 s UZz;rw[hS] at ad uN Hg⊢;rw[hn] at ad hs uN Hg aS pP B0 uW ns fJ;have fH:¬(4096:Int)<(S.size:Int):=(by omega);have KK:decide ((4096:Int)<(n:Int))=false:=Vah (by omega);have Hn:=h_ hn;rw[aS.o] at sl;have C4:=h_ fJ;clear hn hS fJ;unfold Z2b at im⊢;go_enter Tryz.func173,Tryz.ntmps173;go_wp2_with fail;refine(im.o _).mono ?_;rintro x w1 ⟨rfl,a7⟩;go_wp2_with fail;refine(Ew.o _).mono ?_;rintro x w2 ⟨rfl,rfl⟩;have bG:=sl w1;have Ed:=a7.size;rw[World.size_alloc] at Ed;obtain⟨hP,ND⟩:=Zg7 (sJ.o.below a7 (by simp)) C4.o ((n:Int)-1);have cA:=(n7.o.trans (a7.mono (by simp))).trans (ND.mono (by omega));have C5:=h_ hP;have NF:=h_ cA;clear hP ND cA sJ n7 a7 im Ew sl;generalize stA (Lk s n)=ST at*;go_wp2;generalize ((w1.alloc (.cells ST 279)).alloc (.cells #[.slice (some ⟨w1.heap.size,0,none⟩) (n+1) (n+1)] 277)).alloc (.cells #[.int .i64 ((n:Int)-1)] 3)=W0 at*;clear bG;have NG:w.heap.size<=w1.heap.size:=(by omega);generalize w1.heap.size+1+1=TM at*;generalize w1.heap.size+1=bb at*;generalize w1.heap.size=T at*;go_loopw [9] (λs9 wr=>∃(k ib:Nat),k<=n/\s9=.pointer (some ⟨ib,0,none⟩)/\Hid (PaSt wr T bb ib w.heap.size (Lk s k) ((k:Int)-1))/\Hid (Below w.heap.size w wr)) (λs9 wr=>ptmu s9 wr);case atStart=>exact⟨n,TM,UZz,rfl,C5,NF⟩
 case round=>
  clear C5 NF;obtain⟨k,ib,hk,rfl,hP,hb⟩:=hrel;have ci:=hP.o.i.cell 0;have r9:=hP.o.i.lt;have C6:=hP.o.best.lt;have ny:=hP.o.tb.lt;have ir:=hP.o.c.lt;simp at ci;have nn:=h_ (ZcU ci);by_cases ab:0<k
  ·obtain⟨q,rfl⟩:∃q,k=q+1:=⟨k-1,by omega⟩;have i1:((q+1:Nat):Int)-1=(q:Int):=(by omega);rw[i1] at ci hP nn;have hq:q<n:=(by omega);have lA:=hP.o.try;rw[B0.o] at lA;have iT:=pP.o q hq;have mT:=uW.o q hq;have fh:=ns.o q (by omega);have eZ:=sE.o (n-(q+1));generalize tbl s (n-(q+1))=tb at*;have C7:q+tb.length=n:=(by omega);have hM:38*(n-(q+1))<=160000:=(by omega);have TN:=Zg8 s q;have NH:Z2v s q=Z09 (cand s q).reverse++[lit s q]:=rfl;rw[NH] at iT;have Hq:=h_ (uN.o q (by omega) (wr.alloc (.cells #[.bool false] 4)));generalize cand s q=l at*
   obtain⟨X,hX⟩:∃X,(Z09 l.reverse++[lit s q]).foldl (tryP tb) none=some X:=by
    rw[Vbr];exact Z0a _ _ _
   have HX:=h_ hX;have J2:=h_ (iT X hX);have C8:=h_ (λ(W:World) (cur:Option St) (h:TrSt W T bb ib w.heap.size wr.heap.size (Lq q cur tb) q cur.isSome) hc t h1 h2 h3=>ZcT h C7 hs mT hM hc t h1 h2 h3);have By:=hb.o.size;have aP:=h_ (hb.o.alloc By (.cells #[.bool false] 4));have yD:=h_ lA;have NI:=h_ fh;clear lA hX iT mT fh eZ C7 hM NH hP;go_wp2_with fail;refine(Hq.o).mono ?_;rintro x w2 ⟨ov,rfl,bd,a8⟩;obtain⟨A,cap,rfl,_⟩:=Zm bd;have oE:=h_ (yD.o.below a8);have gd:=h_ (Z3j bd (show w.heap.size<=_ by rw[World.size_alloc];omega));have ak:=h_ (aP.o.trans (a8.mono aP.o.size));have el:l.length<=4096:=(by omega);have h0:Hid ((Z09 ((l.take l.length).reverse)++[lit s q]).foldl (tryP tb) none=some X):=(by rw[Vbx];exact HX)
   have hA:Hid (∀k,k<l.length->∃b,A=some ⟨b,0,none⟩):=h_ (λk hk=>by
    obtain⟨g,c2,e,_⟩:=Z5s gd.o (by omega);injection e with e1 e2 e3;exact⟨g,e1⟩)
   clear yD bd a8 aP Hq ci r9 C6 ny ir HX TN;go_wp2;have FJ:w.heap.size<=wr.heap.size:=By;generalize wr.heap.size=sb at*;go_loopw [13] (λlp wx=>∃(kk:Nat) (cur:Option St),kk<=l.length/\lp=.int .i64 ((kk:Int)-1)/\Hid (TrSt wx T bb ib w.heap.size sb (Lq q cur tb) q cur.isSome)/\Hid (wx.ownsRow w.heap.size 284 2 (.slice A l.length cap) l.length (cpC l))/\Hid ((Z09 ((l.take kk).reverse)++[lit s q]).foldl (tryP tb) cur=some X)/\Hid (∀x,cur=some x->x.cost<=38*(n-(q+1))+38/\x.pcs<=38*(n-(q+1))+38)/\Hid (Below w.heap.size w wx)) (λlp _=>(intOf lp+1).toNat);case atStart=>exact⟨l.length,none,UZz,rfl,oE,gd,h0,h_ (λx hx=>by cases hx),ak⟩
   case round=>
    clear oE gd h0 ak;obtain⟨kk,cur,kE,rfl,gW,oG,sQ,sR,qy⟩:=hrel;by_cases cg:0<kk
    ·obtain⟨j,rfl⟩:∃j,kk=j+1:=⟨kk-1,by omega⟩;have i2:((j+1:Nat):Int)-1=(j:Int):=(by omega);rw[i2];have hj:j<l.length:=(by omega);obtain⟨g,rfl⟩:=hA.o j hj;obtain⟨oa,tM,C9⟩:=Z84 NI.o hj;have NJ:=Z8T hj;have ph:=ZcW NI.o hj;have fT:=sQ.o;rw[NJ] at fT;obtain⟨c1,c2⟩:=Z6I oG.o hj;obtain⟨hi,lR⟩:∃x,(l.getD j (0,0)).1=x:=⟨_,rfl⟩;obtain⟨d,hd⟩:∃x,(l.getD j (0,0)).2=x:=⟨_,rfl⟩;obtain⟨sh,wU⟩:∃x,Z2P l j=x:=⟨_,rfl⟩;rw[lR] at oa tM c1 fT;rw[hd] at C9 c2 fT;rw[wU] at ph fT;have qz:=h_ fT;have HH:(j:Int)<(l.length:Int):=(by omega);have gx:(0:Int)<=(j:Int):=(by omega);have qA:=h_ wU;have TO:=h_ hd;clear NJ sQ fT lR hd wU ab kE cg;go_upto_if 53 with fail;go_cut [14] (λjk TP=>jk=.int .i64 (sh:Int)/\wr=TP)
     case first=>
      clear gW qz sR qy c1 c2;by_cases J3:0<j
      ·have Ca:(0:Int)<(j:Int):=(by omega);have e1:(j:Int)-1=((j-1:Nat):Int):=(by omega);obtain⟨c1,c2⟩:=Z6I oG.o (k:=j-1) (by omega)
       have aM:(l.getD (j-1) (0,0)).1=sh:=by
        rw[<-qA.o];unfold Z2P;rw[Vaf J3]
       rw[aM] at c1;have cP:((j-1:Nat):Int)<(l.length:Int):=(by omega);obtain⟨j1,Cb⟩:∃x,j-1=x:=⟨_,rfl⟩;rw[Cb] at e1 c1 c2 cP;have TQ:(0:Int)<=(j1:Int):=(by omega);clear oG qA Cb aM;go_wp2;go_meet;case rel=>exact⟨rfl,rfl⟩
      ·have J4:j=0:=(by omega);subst J4;have aM:sh=1:=(by rw[<-qA.o];rfl);subst aM;clear oG qA;go_wp2;go_meet;case rel=>exact⟨rfl,rfl⟩
     case rest=>
      obtain⟨rfl,rfl⟩:=hcut;clear qA;have iB:j<=l.length:=(by omega);go_wp2;go_loopw [15] (λki wy=>∃(m:Nat) (cur:Option St),m<=hi/\ki=.int .i64 (m:Int)/\Hid (TrSt wy T bb ib w.heap.size sb (Lq q cur tb) q cur.isSome)/\Hid (wy.ownsRow w.heap.size 284 2 (.slice (some ⟨g,0,none⟩) l.length cap) l.length (cpC l))/\Hid (((down m sh d++Z09 ((l.take j).reverse))++[lit s q]).foldl (tryP tb) cur=some X)/\Hid (∀x,cur=some x->x.cost<=38*(n-(q+1))+38/\x.pcs<=38*(n-(q+1))+38)/\Hid (Below w.heap.size w wy)) (λki _=>(intOf ki).toNat);case atStart=>exact⟨hi,cur,UZz,rfl,gW,oG,qz,sR,qy⟩
      case round=>
       clear c1 c2 gW oG qz sR qy;obtain⟨m,cur,hm,rfl,gW,oG,sQ,sR,qy⟩:=hrel;by_cases fZ:sh<m
       ·have ds:=ZbO (d:=d) fZ;have fT:=sQ.o;rw[ds] at fT;have qz:Hid (((down (m-1) sh d++Z09 ((l.take j).reverse))++[lit s q]).foldl (tryP tb) (tryP tb cur ⟨m,d,0⟩)=some X):=h_ fT;have Ht:=C8.o wr cur gW.o sR.o ⟨m,d,0⟩ (by simp only;omega) (by simp only;omega) (by simp only;omega);unfold pcC at Ht;simp only at Ht;have e0:(((0:UInt8).toNat:Nat):Int)=0:=rfl;rw[e0] at Ht;have Ht:=h_ Ht;obtain⟨c1,c2⟩:=Z6I oG.o hj;rw[TO.o] at c2;have J5:(sh:Int)<(m:Int):=(by omega);have em:(m:Int)-1=((m-1:Nat):Int):=(by omega);obtain⟨m1,dH⟩:∃x,m-1=x:=⟨_,rfl⟩;rw[dH] at em qz;have J6:m1<=hi:=(by omega);have nf:=gW;clear ds sQ fT e0 dH gW sR c1;go_wp2_with fail;refine(Ht.o).mono ?_;rintro x w3 ⟨rfl,uk,NK,yE⟩;have TR:=h_ uk;have zu:=h_ NK;have dh:=h_ (ZkE oG.o nf.o yE);have IA:=h_ (Z83 qy.o qy.o.size yE NG FJ);clear uk NK yE oG nf qy Ht;go_wp2;refine⟨⟨m1,_,J6,by first|rfl|(congr 1),TR,dh,qz,zu,IA⟩,?_⟩;simp[intOf]<;>omega
       ·have fT:=sQ.o;rw[Zfd (by omega),Vbz] at fT;have qz:=h_ fT;have J5:¬(sh:Int)<(m:Int):=(by omega);clear sQ fT;go_wp2;refine⟨⟨j,cur,iB,by first|rfl|go_num,gW,oG,qz,sR,qy⟩,?_⟩;simp[intOf]<;>omega
    ·have J7:kk=0:=(by omega);subst J7;have Cc:tryP tb cur (lit s q)=some X:=sQ.o;have Ht:=C8.o wr cur gW.o sR.o (lit s q) (Vaa 1) (by show q+1<=n;omega) (Var _);have TU:q<S.size:=(by omega);have Wb:(q:Int)<(S.size:Int):=(by omega);have po:(0:Int)<=(q:Int):=(by omega);have NL:=Hg.o q (by omega) TU;have fi:pcC (lit s q)= #[.int .i64 1,.int .i64 0,.int .u8 ((s.getD q 0).toNat:Int)]:=rfl;rw[fi,<-NL,Cc,J2.o] at Ht;have Ht:=h_ Ht;have z1:((0:Nat):Int)-1= -1:=rfl;rw[z1];obtain⟨_,ci,_⟩:=gW.o.cells;clear sQ Cc fi NL oG sR Hg kE cg;go_wp2_with fail;refine(Ht.o).mono ?_;rintro x w3 ⟨rfl,uk,_,yE⟩;obtain⟨_,Wc,_⟩:=uk.cells;have wV:=Z83 qy.o qy.o.size yE NG FJ;have TV:Hid (PaSt (w3.alloc (.cells #[.int .i64 ((q:Int)-1)] 3)) T bb w3.heap.size w.heap.size (Lk s q) ((q:Int)-1)):=h_ ⟨uk.tb.alloc _,uk.best.alloc _,Bk.new _ _ _,uk.c.alloc _⟩;have TW:=h_ (wV.alloc wV.size (.cells #[.int .i64 ((q:Int)-1)] 3));have tB:Hid (ptmu (.pointer (some ⟨w3.heap.size,0,none⟩)) (w3.alloc (.cells #[.int .i64 ((q:Int)-1)] 3))=((q:Int)-1+1).toNat):=h_ (ZcU ((Bk.new w3 3 #[.int .i64 ((q:Int)-1)]).cell 0));clear uk yE wV gW qy Ht ci;go_wp2;refine⟨⟨q,w3.heap.size,by omega,rfl,TV,TW⟩,?_⟩;rw[tB.o,nn.o];omega
  ·have cg:k=0:=(by omega);subst cg;have Ce:=hP.o;have z1:((0:Nat):Int)-1= -1:=rfl;rw[z1] at ci;have wW:Lk s 0=QP s:=(by unfold Lk QP;rw[Nat.sub_zero];rfl);rw[wW] at Ce;have Wd:=h_ Ce
   have jH:(QP s).length=n+1:=by
    rw[<-wW,<-Hn.o];exact Zh9 s (Var _)
   have KO:=h_ jH;have eI:Hid ([]++Wv.Lz.follow s n 0=parse s):=h_ (by rw[Vbz,<-Hn.o];rfl);have ua:=h_ (λi (h:i<n)=>(Z7n (by rw[Hn.o];exact h):PcOk s i ((QP s).getD i st0).first));have Ej:=h_ (λf i (h:i<n)=>(Z6h (by rw[Hn.o];exact h):Wv.Lz.follow s (f+1) i=((QP s).getD i st0).first::Wv.Lz.follow s f (i+((QP s).getD i st0).first.len)));have TX:=h_ (λf=>(Z8U (by rw[Hn.o];exact UZz):Wv.Lz.follow s f n=[]));have TY:=h_ (λi (h:i<n+1)=>Z6E (QP s) i (by rw[jH];exact h));have mE:=Ce.best;rw[jH] at mE;have Cf:=h_ mE;have NM:=h_ Ce.tb;have NN:Hid (wr.ownsRow w.heap.size 181 3 (.slice none 0 0) ([]:List Pc).length (pcCs [])):=h_ Zk;clear Ce hP wW nn jH mE r9 C6 ny ir B0 pP uW ns sE uN Hg aS;go_wp2;clear ci;go_loopw [16,17] (λjW Cg wx=>∃(i f:Nat) (o:List Pc) (ov:Value),i<=n/\Cg=.int .i64 (i:Int)/\jW=ov/\Hid (n<=i+f)/\Hid (o.length<=i)/\Hid (Bk wx T 279 (stA (QP s)))/\Hid (Bk wx bb 277 #[.slice (some ⟨T,0,none⟩) (n+1) (n+1)])/\Hid (wx.ownsRow w.heap.size 181 3 ov o.length (pcCs o))/\Hid (o++Wv.Lz.follow s f i=parse s)/\Hid (Below w.heap.size w wx)) (λ_ Cg _=>(n-intOf Cg).toNat);case atStart=>exact⟨0,n,[],_,Var _,rfl,rfl,h_ (by omega),h_ UZz,NM,Cf,NN,eI,hb⟩
   case round=>
    clear NM Cf NN eI hb;obtain⟨i,f,o,ov,hi,rfl,rfl,hf,fQ,hT,mE,bd,qY,hb⟩:=hrel;obtain⟨A,cap,rfl,_⟩:=Zm bd.o;by_cases ab:i<n
    ·obtain⟨f1,rfl⟩:∃g,f=g+1:=⟨f-1,by have:=hf.o;omega⟩;have bH:=ua.o i ab;have cG:=bH.pos;rw[Hn.o] at cG;have tC:=Ej.o f1 i ab;obtain⟨_,_,g2,g3,g4⟩:=TY.o i (by omega);obtain⟨p,hp⟩:∃p,((QP s).getD i st0).first=p:=⟨_,rfl⟩;rw[hp] at cG tC g2 g3 g4;have lF:=qY.o;rw[tC] at lF;have qz:Hid ((o++[p])++Wv.Lz.follow s f1 (i+p.len)=parse s):=h_ (by rw[Vay];exact lF);have q2:=(hT.o.cell (i*5+2)).trans g2;have q3:=(hT.o.cell (i*5+3)).trans g3;have q4:=(hT.o.cell (i*5+4)).trans g4;have qb:=mE.o.cell 0;simp at qb;have dw:(i:Int)<(n:Int)+1:=(by omega);have TZ:(i:Int)<(n:Int):=(by omega);have iS:(0:Int)<=(i:Int):=(by omega);obtain⟨v',w2,hr,sS,Ch,dT,_⟩:=Z7S (P:=Tryz.prog) 172 181 _ _ 3 Tryz.underlying172 Zlm rfl (by omega) bd.o hb.o hb.o.size [.int .i64 (p.len:Int),.int .i64 (p.dist:Int),.int .u8 (p.byte.toNat:Int)] rfl (by simp[Value.oneCell']) (by unfold maxLen;have:=fQ.o;omega) (by have:=fQ.o;omega);have jY:=dT _ _ _ hT.o (by decide);have a8:=dT _ _ _ mE.o (by decide);have r2:=(jY.cell (i*5+2)).trans g2;have rb:=a8.cell 0;simp at rb;have gz:o.length+1=(o++[p]).length:=(by simp);have dI:pcCs o++[.int .i64 (p.len:Int),.int .i64 (p.dist:Int),.int .u8 (p.byte.toNat:Int)]=pcCs (o++[p]):=(by simp[pcCs,pcL]);rw[gz,dI] at sS;have J8:=h_ sS;have oE:=h_ jY;have ak:=h_ a8;have J9:=h_ Ch;have ar:=h_ hr;have cl:Hid (n<=i+p.len+f1):=h_ (by have:=hf.o;omega);have nW:Hid ((o++[p]).length<=i+p.len):=h_ (by have:=fQ.o;simp;omega);obtain⟨A2,M2,aE,rfl⟩:=Zg sS;clear bH tC g2 g3 g4 hp qY lF sS jY a8 Ch hr hf fQ dT gz dI bd;obtain⟨m,hm⟩:∃m,i+p.len=m:=⟨_,rfl⟩;rw[hm] at qz cl nW cG;have NO:(i:Int)+(p.len:Int)=(m:Int):=(by omega);have aO:m<=n:=cG.2;have yk:i<m:=(by omega);clear cG hm;go_wp2_with (at_builtin;refine Z4 (by with_reducible rfl) rfl _ _ _ rfl _ _ (by rfl) (by rfl) ar.o ?_);refine⟨⟨m,f1,o++[p],_,aO,by first|rfl|(congr 1),rfl,cl,nW,oE,ak,J8,qz,J9⟩,?_⟩;simp[intOf]<;>omega
    ·have aO:i=n:=(by omega);subst aO;have lF:=qY.o;rw[TX.o,Va3] at lF;have cV:=bd.o;rw[lF] at cV;have pw:=h_ cV;rw[lF];clear qY lF bd cV hT mE;go_wp2;go_returns;exact⟨_,rfl,pw.o,hb.o⟩
end Go.Proofs.YtchokmkfobandaaGreatDoor
namespace Wv
open Go Go.RowKit
theorem Z9s {w:World} {B B':Nat} {e e':TypeId} {sz U0 n n':Nat} {v v':Value} {xs ys:List Value} (h:w.ownsRow B e sz v n xs) (h':w.ownsRow B' e' U0 v' n' ys) (ay:e≠e') {g:Nat} (hg:v.ownBlock=some g):v'.ownBlock≠some g:=by
 rcases h.2 with ⟨rfl,_⟩|⟨g1,cap,cur,rfl,_,hh,_⟩
 ·simp[Value.ownBlock] at hg
 ·have:g1=g:=(by simpa [Value.ownBlock] using hg);subst this;exact Z3 h' (show Bk w g1 e cur from hh) (Ne.symm ay)
end Wv
namespace Go.Proofs.YtchokmkfobandaaGreatDoor
open Go.RowKit Go.Proofs Wv Wv.Vi Wv.Rc Wv.Mo Wv.Lz
theorem ZiP {w:World} {B n cap g:Nat} {o:List Pc} (h:w.ownsRow B 181 3 (.slice (some ⟨g,0,none⟩) n cap) n (pcCs o)) {k:Nat} (hk:k<o.length):w.cell? ⟨g,k*3,none⟩=some (.int .i64 (o[k].len:Int))/\w.cell? ⟨g,k*3+1,none⟩=some (.int .i64 (o[k].dist:Int))/\w.cell? ⟨g,k*3+2,none⟩=some (.int .u8 (o[k].byte.toNat:Int)):=by
 have key:∀(o:List Pc) (k:Nat) (hk:k<o.length),(pcCs o)[k*3]? =some (.int .i64 (o[k].len:Int))/\(pcCs o)[k*3+1]? =some (.int .i64 (o[k].dist:Int))/\(pcCs o)[k*3+2]? =some (.int .u8 (o[k].byte.toNat:Int)):=by
  intro o;induction o with
  |nil=>intro k h;simp at h
  |cons c r ih=>
   intro k h;cases k with
   |zero=>exact⟨rfl,rfl,rfl⟩
   |succ k=>
    obtain⟨a,b,d⟩:=ih k (by simpa using h)
    have e1:∀j,(pcCs (c::r))[(k+1)*3+j]? =(pcCs r)[k*3+j]? :=λj=>by
     unfold pcCs;rw[Vb0,Vbd (by show 3<=_;omega)];congr 1;show(k+1)*3+j-3=_;omega
    have e0:=e1 0;simp only[Vb3] at e0;rw[e0,e1,e1];exact⟨a,b,d⟩
 obtain⟨a,b,d⟩:=key o k hk;have h1:=h.cells (g:=g) rfl _ _ a;have h2:=h.cells (g:=g) rfl _ _ b;have h3:=h.cells (g:=g) rfl _ _ d;rw[Go.WideShapes.add_plain,Vbo] at h1 h2 h3;exact⟨h1,h2,h3⟩
theorem Z5t (s:List UInt8) (hs:4096<s.length) (cZ:s.length<=1000000000) (w:World):
  Calls Tryz.prog 173 #[Z2b,.string (bs s),.int .i64 4096] w λx w'=>x=.returned (.tuple #[.slice none 0 0,.int .i64 9])/\Below w.heap.size w w':=by
 have im:=h_ (λW=>Z38 W);have Ew:=h_ (λW=>Z82 W);have ad:(bs s).size=s.length:=Z0 s;have fH:(4096:Int)<((bs s).size:Int):=(by omega);have n7:=h_ ((Vae w.heap.size w).alloc UZz (.cells #[.int .i64 9,.int .i64 12,.int .i64 1,.int .i64 1] 226));generalize bs s=S at*;clear ad hs cZ;unfold Z2b at im⊢;go_enter Tryz.func173,Tryz.ntmps173;go_wp2_with fail;refine(im.o _).mono ?_;rintro x w1 ⟨rfl,a7⟩;go_wp2_with fail;refine(Ew.o _).mono ?_;rintro x w2 ⟨rfl,rfl⟩;have aW:=h_ (n7.o.trans (a7.mono (by simp)));clear a7 n7;go_wp2;go_returns;exact⟨rfl,aW.o⟩
theorem Z2f (s:List UInt8) (hs:s.length<=4096) (w:World):
  Calls Tryz.prog 129 #[.string (bs s)] w λx w'=>∃ov,x=.returned (.tuple #[ov,.int .i64 0])/\w'.ownsRow w.heap.size 181 3 ov (parse s).length (pcCs (parse s))/\Below w.heap.size w w':=by
 have Hp:=h_ (Z9r s hs w);generalize bs s=S at*;generalize parse s=R at*;unfold Z2b at Hp;go_enter Tryz.func129,Tryz.ntmps129;go_wp2_with fail;refine(Hp.o).mono ?_;rintro x w1 ⟨ov,rfl,h1,h2⟩;obtain⟨A,M,cap,rfl⟩:=Zg h1;have H1:=h_ h1;clear h1;go_wp2;go_returns;exact⟨_,rfl,H1.o,h2⟩
theorem Z49 (s:List UInt8) (hs:4096<s.length) (cZ:s.length<=1000000000) (w:World):
  Calls Tryz.prog 129 #[.string (bs s)] w λx w'=>x=.returned (.tuple #[.slice none 0 0,.int .i64 9])/\Below w.heap.size w w':=by
 have Hp:=h_ (Z5t s hs cZ w);generalize bs s=S at*;unfold Z2b at Hp;go_enter Tryz.func129,Tryz.ntmps129;go_wp2_with fail;refine(Hp.o).mono ?_;rintro x w1 ⟨rfl,h2⟩;go_wp2;go_returns;exact⟨rfl,h2⟩
theorem ZcX {s:List UInt8} {i:Nat} {t:Pc} (h:PcOk s i t) (hs:s.length<=4096):t.len<=1000000/\t.dist<=1000000/\(t.dist=0/\1<=t.len\/1<=t.dist/\2<=t.len):=by
 rcases h with ⟨h1,h2,_⟩|⟨h1,h2,h3,h4,h5,_⟩<;>omega
theorem Z9t (t:Pc) (l:List Pc) (x:Ms×En):Xo (t::l) x=Xo l (penc t x):=rfl
theorem wnew {B:Nat} {p:Pl} {eb:Nat} {dv:Value} (hp:PlB B p) (he:B<=eb) (hd:∀g,dv.ownBlock=some g->B<=g):∀k,k<B->¬Q4 p eb dv k:=λk hk hs=>by
 rcases hs with hs|hs|hs|hs|hs|hs|hs
 ·have:=hp.kg;omega
 ·have:=hp.bb;omega
 ·have:=hp.bg;omega
 ·have:=hp.lg;omega
 ·have:=hp.dg;omega
 ·omega
 ·have:=hd k hs;omega
theorem ZcY (s : List UInt8) (hs : s.length <= 4096) (ay : s ≠ []) (w : World) :
    Calls Tryz.prog 82 #[.string (bs s)] w λx w'=>x=.returned (.tuple #[.string (bs (num s.length++efin (Xo (parse s) (m0,e0)).2)),.int .i64 0])/\Below w.heap.size w w':=by
  have Hp:=h_ (Z2f s hs w);have ad:(bs s).size=s.length:=Z0 s;have cB:=Xk s;rw[Vah ay] at cB;have Hn:=h_ (λW=>Zh (s.length:Int) (by omega) (by omega) W);have rW:=kof9 s.length;rw[<-Z0] at rW;have Hs:=h_ (λW=>Z36 W);unfold setC at Hs;have He:=h_ (λW=>Z7b W);have nX:=h_ (Qd s);have ua:=h_ (λi t (h:PcOk s i t)=>ZcX h hs);obtain⟨n,hn⟩:∃n,s.length=n:=⟨_,rfl⟩;have Bm:=h_ hn;rw[hn] at ad Hn hs rW⊢;rw[Vav] at Hn;have vA:=h_ (Zf (num n) (efin (Xo (parse s) (m0,e0)).2));generalize bs s=S at*;obtain⟨l,hl⟩:∃l,parse s=l:=⟨_,rfl⟩;rw[hl] at Hp nX vA⊢;generalize bs (num n)=NS at*;clear hn hl ay;go_enter Tryz.func82,Tryz.ntmps82;go_wp2_with fail;refine(Hp.o).mono ?_;rintro x w1 ⟨ov,rfl,cI,a7⟩;obtain⟨A,cap,rfl,_⟩:=Zm cI;go_wp2_with fail;refine(Hn.o _).mono ?_;rintro x w2 ⟨rfl,a8⟩;go_wp2_with fail;refine(Hs.o _).mono ?_;rintro x w3 ⟨p,rfl,I3,rf,af⟩;go_wp2_with fail;refine(He.o _).mono ?_;rintro x w4 ⟨rfl,NP,au⟩;have s1:=a7.size;have s2:=a8.size;have s3:=af.size;have s4:=au.size;have Ja:Below w1.heap.size w1 w4:=(a8.trans (af.mono s2)).trans (au.mono (by omega));have gN:=Zl cI (Fr.of_below (S:=nob) Ja) (λ_ _ f=>f);have iD:Below w.heap.size w w4:=a7.trans (Ja.mono s1);have hP:PlB w.heap.size p:=⟨by have:=rf.kb;omega,by have:=rf.kg;omega,by have:=rf.bb;omega,by have:=rf.bg;omega,by have:=rf.lb;omega,by have:=rf.lg;omega,by have:=rf.db;omega,by have:=rf.dg;omega⟩
  have yF:WrSt ((w4.alloc (.cells (setC p) 178)).alloc (.cells #[.pointer (some ⟨w3.heap.size,0,none⟩)] 153)) p w4.heap.size (w4.heap.size+1) w3.heap.size (.slice none 0 0) (m0,e0):=
    ⟨(I3.below au).below (((Vae w4.heap.size w4).alloc UZz _).alloc (by simp) _),NP.below (((Vae w4.heap.size w4).alloc UZz _).alloc (by simp) _),(Bk.new _ _ _).alloc _,Bk.newN _ _ _ (by simp)⟩
  have yi:=(gN.alloc (.cells (setC p) 178)).alloc (.cells #[.pointer (some ⟨w3.heap.size,0,none⟩)] 153);have aB:=(iD.alloc iD.size (.cells (setC p) 178)).alloc (Vas iD.size (by simp)) (.cells #[.pointer (some ⟨w3.heap.size,0,none⟩)] 153);have qB:=h_ yF;have su:=h_ yi;have bj:=h_ aB;have HP:=h_ hP;have wR:w.heap.size<=w3.heap.size:=(by omega);unfold setC at qB su bj;clear yF yi aB hP cI gN a7 a8 af au Ja iD I3 rf NP s1 s2 s3 s4 Hp Hn Hs He
  have hA:Hid (∀k,k<l.length->∃b,A=some ⟨b,0,none⟩):=h_ (λk hk=>by
    obtain⟨g,c2,e,_⟩:=Z5s su.o (by omega);injection e with e1 e2 e3;exact⟨g,e1⟩)
  have fl:l.length<=1000000:=by
    have key:∀(i:Nat) (l:List Pc),Parses s i l->i+l.length<=s.length:=by
      intro i l h;induction h with
      |done=>simp
      |step h r ih=>have:=h.pos;simp only[Vaz];omega
    have:=key 0 l nX.o;rw[Bm.o] at this;omega
  go_wp2;generalize (w4.alloc (.cells #[.pointer (some ⟨p.kb,0,none⟩),.pointer (some ⟨p.bb,0,none⟩),.pointer (some ⟨p.lb,0,none⟩),.pointer (some ⟨p.db,0,none⟩)] 178)).alloc (.cells #[.pointer (some ⟨w3.heap.size,0,none⟩)] 153)=W5 at*;generalize w4.heap.size+1=cb at*;generalize w4.heap.size=mb at*;generalize w3.heap.size=eb at*;go_loopw [31] (λwX wx=>∃(k i:Nat) (dv:Value) (x:Ms×En),k<=l.length/\wX=.int .i64 (k:Int)/\Hid (WrSt wx p mb cb eb dv x)/\Hid (MOk x.1/\Val 0 x.2)/\Hid (Xo (l.drop k) x=Xo l (m0,e0))/\Hid (Parses s i (l.drop k))/\Hid (x.2.out.length<=135*i)/\Hid (wx.ownsRow w.heap.size 181 3 (.slice A l.length cap) l.length (pcCs l))/\Hid (Below w.heap.size w wx)/\Hid (∀g,dv.ownBlock=some g->w.heap.size<=g)) (λwX _=>(l.length-intOf wX).toNat);case atStart=>exact⟨0,0,_,(m0,e0),Var _,rfl,qB,h_ ⟨ZaU,Z4k⟩,h_ rfl,nX,h_ (Var _),su,bj,h_ (by simp[Value.ownBlock])⟩
  case round=>
    clear qB su bj nX;obtain⟨k,i,dv,x,hk,rfl,hW,mF,yG,vq,dV,bd,hb,me⟩:=hrel;by_cases ab:k<l.length
    · obtain⟨g,rfl⟩:=hA.o k ab
      obtain⟨c1,c2,c3⟩:=ZiP bd.o ab;have jL:l.drop k=l[k]::l.drop (k+1):=Va4 ab;have sT:=vq.o;have sU:=yG.o;rw[jL] at sT sU;obtain⟨t,ht⟩:∃t,l[k]=t:=⟨_,rfl⟩;rw[ht] at sT sU c1 c2 c3;have bH:PcOk s i t/\Parses s (i+t.len) (l.drop (k+1)):=by cases sT with|step h r=>exact⟨h,r⟩
      obtain⟨bH,Ci⟩:=bH;obtain⟨o1,o2,o3⟩:=ua.o i t bH;have cG:=bH.pos;rw[Bm.o] at cG;have zJ:=Z81 o1 o2 (by omega) x;have tA:=Z1i (p:=t) mF.o.1 mF.o.2;have cF:Below wr.heap.size wr (wr.alloc (.cells (pcC t) 181)):=(Vae _ _).alloc UZz _;have Hw:=Z6D (hW.o.below cF) mF.o.1 mF.o.2 t o1 o2 o3 (by have:=dV.o;omega)
      have tN := h_ (λ(w' : World) (h : Fr (Q4 p eb dv) (wr.alloc (.cells (pcC t) 181)) w') => (⟨Zl (bd.o.alloc (.cells (pcC t) 181)) h (λg hg hs => by
          have hR:=bd.o;rcases hs with hs|hs|hs|hs|hs|hs|hs
          · exact Z3 hR hW.o.ms.kn (by decide) (hs▸hg)
          · exact Z3 hR hW.o.ms.bt.st (by decide) (hs▸hg)
          · exact Z3 hR hW.o.ms.bt.nd (by decide) (hs▸hg)
          · exact Z3 hR hW.o.ms.ln.2 (by decide) (hs▸hg)
          · exact Z3 hR hW.o.ms.dn.2 (by decide) (hs▸hg)
          · exact Z3 hR hW.o.en.1 (by decide) (hs▸hg)
          · exact Z9s hR hW.o.en.2 (by decide) hg hs),
        (hb.o.alloc hb.o.size (.cells (pcC t) 181)).trans (h.toBelow' (Vas hb.o.size (by simp)) (wnew HP.o wR me.o))⟩:w'.ownsRow w.heap.size 181 3 (.slice (some ⟨g,0,none⟩) l.length cap) l.length (pcCs l)/\Below w.heap.size w w'))
      have xZ := h_ (λ(d : Value) (h : Zo (wr.alloc (.cells (pcC t) 181)) dv d) => (λg hg => by
          rcases h with h|h
          · exact me.o g (h▸hg)
          · have:=h g hg
            have:=hb.o.size;simp at*;omega:∀g,d.ownBlock=some g->w.heap.size<=g))
      have BL:Hid ((penc t x).2.out.length<=135*(i+t.len)):=h_ (by have:=dV.o;omega);have U3:Hid (Xo (l.drop (k+1)) (penc t x)=Xo l (m0,e0)):=h_ sU;have nX:=h_ Ci;have z8:=h_ tA;have dw:(k:Int)<(l.length:Int):=(by omega);have cg:(0:Int)<=(k:Int):=(by omega);have Hw:=h_ Hw;unfold pcC at Hw tN xZ;clear jL sT sU ht bH Ci o1 o2 o3 cG zJ tA cF hW mF yG vq dV bd me;obtain⟨tl,td,tb⟩:=t;simp only at c1 c2 c3 Hw tN xZ;generalize (tb.toNat:Int)=TB at*;go_wp2_with fail;refine(Hw.o).mono ?_;rintro r w6 ⟨rfl,d6,NQ,ra,NR⟩;obtain⟨zS,bQ⟩:=tN.o _ ra;have Gq:=h_ zS;have cQ:=h_ bQ;have U4:=h_ (xZ.o _ NR);have U5:=h_ NQ;clear ra NR zS bQ NQ tN xZ Hw hb;go_wp2;refine⟨⟨k+1,_,d6,_,ab,by go_num,U5,z8,U3,nX,BL,Gq,cQ,U4⟩,?_⟩;simp[intOf]<;>omega
    · have bh:k=l.length:=by omega
      subst bh
      have hx:x=Xo l (m0,e0):=by
        have:=yG.o;rw[Vcl] at this;exact this
      have xU:i<=n:=by
        have key:∀(i:Nat) (l:List Pc),Parses s i l->i<=s.length:=by
          intro i l h;cases h with
          |done=>exact UZz
          |step h r=>have:=h.pos;omega
        have:=key _ _ vq.o;rw[Bm.o] at this;exact this
      have Hf:=Z1G hW.o.en mF.o.2.low (by have:=dV.o;omega);rw[hx] at Hf;have Hf:=h_ Hf;have c4:=hW.o.cc.cell 0;simp at c4
      have tD:(bs (efin (Xo l (m0,e0)).2)).size<=1000000:=by
        rw[Z0];unfold efin;rw[<-hx,Vab];have:=dV.o;have e4:(be 4 x.2.low).length=4:=(by rw[be4];rfl);omega
      generalize bs (efin (Xo l (m0,e0)).2)=FS at*;clear hx hW mF yG vq dV bd me;go_wp2_with fail;refine(Hf.o).mono ?_;rintro r w6 ⟨rfl,bQ⟩;have cQ:=h_ (hb.o.trans (bQ.mono hb.o.size));clear bQ hb;go_wp2;go_returns;exact⟨by rw[<-vA.o];rfl,cQ.o⟩
theorem ZcZ (w:World):
  Calls Tryz.prog 82 #[.string (bs [])] w λx w'=>x=.returned (.tuple #[.string (bs (num 0)),.int .i64 0])/\Below w.heap.size w w':=by
 have Hp:=h_ (Z2f [] (Var _) w);have ad:(bs ([]:List UInt8)).size=0:=rfl;have cB:=Xk [];rw[Vam rfl] at cB;have Hn:=h_ (λW=>Zh 0 (by omega) (by omega) W);have e0:(0:Int).toNat=0:=rfl;rw[e0] at Hn;generalize bs []=S at*;generalize parse []=l at*;generalize bs (num 0)=NS at*;go_enter Tryz.func82,Tryz.ntmps82;go_wp2_with fail;refine(Hp.o).mono ?_;rintro x w1 ⟨ov,rfl,cI,a7⟩;obtain⟨A,cap,rfl,_⟩:=Zm cI;go_wp2_with fail;refine(Hn.o _).mono ?_;rintro x w2 ⟨rfl,a8⟩;have aW:=h_ (a7.trans (a8.mono a7.size));clear cI a7 a8;go_wp2;go_returns;exact⟨rfl,aW.o⟩
theorem Z6J (s:List UInt8) (hs:4096<s.length) (cZ:s.length<=1000000000) (w:World):
  Calls Tryz.prog 82 #[.string (bs s)] w λx w'=>x=.returned (.tuple #[.string (bs []),.int .i64 9])/\Below w.heap.size w w':=by
 have Hp:=h_ (Z49 s hs cZ w);have he:bs ([]:List UInt8)=⟨#[]⟩:=rfl;rw[he];generalize bs s=S at*;clear he;go_enter Tryz.func82,Tryz.ntmps82;go_wp2_with fail;refine(Hp.o).mono ?_;rintro x w1 ⟨rfl,a7⟩;go_wp2;go_returns;exact⟨rfl,a7⟩
def optV (o:Option (List UInt8)):Value:=match o with
 |some t=>.tuple #[.string (bs t),.int .i64 0]
 |none=>.tuple #[.string (bs []),.int .i64 9]
theorem Z10 (s:List UInt8) (hs:s.length<=1000000000) (w:World):
  Calls Tryz.prog 82 #[.string (bs s)] w λx w'=>x=.returned (optV (lzE s))/\Below w.heap.size w w':=by
 unfold lzE;by_cases h:4096<s.length
 ·rw[Vaf h];exact Z6J s h hs w
 ·rw[Vad h];by_cases h0:s=[]
  ·subst h0;rw[Vaf rfl,Va3];exact ZcZ w
  ·rw[Vad h0];exact ZcY s (by omega) h0 w
end Go.Proofs.YtchokmkfobandaaGreatDoor
