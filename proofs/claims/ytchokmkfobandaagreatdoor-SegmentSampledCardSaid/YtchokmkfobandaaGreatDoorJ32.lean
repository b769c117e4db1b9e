import Derived.Test.YtchokmkfobandaaGreatDoorJ29
set_option linter.unusedVariables false
set_option linter.unusedSimpArgs false
set_option maxRecDepth 100000
set_option maxHeartbeats 8000000
namespace Go.Proofs.YtchokmkfobandaaGreatDoor
open Go.RowKit Go.Proofs Wv Wv.Vi Wv.Mo Wv.Lz
def Lq (q:Nat) (cur:Option St) (tb:List St):List St:=List.replicate q st0++cur.getD st0::tb
theorem Zkw (q:Nat) (cur:Option St) (tb:List St):(Lq q cur tb).length=q+tb.length+1:=by unfold Lq;rw[Vab,Vaw,Vaz];omega
theorem Zli (q:Nat) (cur:Option St) (tb:List St):(Lq q cur tb).getD q st0=cur.getD st0:=by
 unfold Lq;rw[Vbn,Vbc (by simp),Vaw,Va7];rfl
theorem Zkx (q:Nat) (cur:Option St) (tb:List St) {k:Nat} (h:1<=k):(Lq q cur tb).getD (q+k) st0=tb.getD (k-1) st0:=by
 unfold Lq;rw[Vbn,Vbc (by simp),Vaw,Nat.add_sub_cancel_left];obtain⟨j,rfl⟩:∃j,k=j+1:=⟨k-1,by omega⟩;rw[List.getElem?_cons_succ,Vb7,Vbn]
theorem Zky (q:Nat) (cur:Option St) (tb:List St) (x:St):(Lq q cur tb).set q x=Lq q (some x) tb:=by
 unfold Lq;rw[Va8 _ _ (by simp),Vaw,Va7];rfl
theorem ZiF (q:Nat) (cur:Option St) (tb:List St) (t:Pc) (h:1<=t.len):(if(!cur.isSome||bett (xOf (Lq q cur tb) q t) ((Lq q cur tb).getD q st0))=true then(Lq q cur tb).set q (xOf (Lq q cur tb) q t) else Lq q cur tb)=Lq q (tryP tb cur t) tb:=by
 have hx:xOf (Lq q cur tb) q t=stOf tb t:=(by unfold xOf stOf;rw[Zkx q cur tb h]);rw[hx,Zli,Zky];unfold tryP;cases cur with
 |none=>rfl
 |some c=>
  simp only[Option.isSome_some,Bool.not_true,Bool.false_or,Option.getD_some];split<;>rfl
theorem Zkz {q:Nat} {cur:Option St} {tb:List St} {M:Nat} (py:∀x∈tb,x.cost<=M/\x.pcs<=M) (hc:∀x,cur=some x->x.cost<=M/\x.pcs<=M):∀x∈Lq q cur tb,x.cost<=M/\x.pcs<=M:=by
 intro x hx;unfold Lq at hx;rcases Va9.1 hx with h|h
 ·rw[List.eq_of_mem_replicate h];exact⟨Vat _,Vat _⟩
 ·rcases Vba.1 h with h|h
  ·cases cur with
   |none=>rw[h];exact⟨Vat _,Vat _⟩
   |some c=>rw[h];exact hc c rfl
  ·exact py x h
theorem ZcT {w:World} {T bb ib cb sb q n M:Nat} {cur:Option St} {tb:List St} (h:TrSt w T bb ib cb sb (Lq q cur tb) q cur.isSome) (fK:q+tb.length=n) (hn:n<=4096) (py:∀x∈tb,x.cost<=M/\x.pcs<=M) (hM:M<=160000) (hc:∀x,cur=some x->x.cost<=M+38/\x.pcs<=M+38) (t:Pc) (h1:1<=t.len) (h2:q+t.len<=n) (h3:t.dist<=4096):
  Calls Tryz.prog 213 #[.agg (pcC t),.pointer (some ⟨bb,0,none⟩),.pointer (some ⟨ib,0,none⟩),.pointer (some ⟨cb,0,none⟩),.pointer (some ⟨sb,0,none⟩)] w λx w'=>x=.returned (.tuple #[])/\TrSt w' T bb ib cb sb (Lq q (tryP tb cur t) tb) q (tryP tb cur t).isSome/\(∀x,tryP tb cur t=some x->x.cost<=M+38/\x.pcs<=M+38)/\Fr (λk=>k=T\/k=sb) w w':=by
 have hl:=Zkw q cur tb;have ZjD:(tryP tb cur t).isSome=true:=(by obtain⟨x,hx⟩:=Z07 tb cur t;rw[hx];rfl);have hm:=Zkz (q:=q) (M:=M+38) (λx hx=>by have:=py x hx;omega) hc;refine(ZfQ h (by omega) (λx hx=>by have:=hm x hx;omega) t (by omega) h3 h1 (by omega)).mono ?_;rintro x w' ⟨rfl,ht,hf⟩;rw[ZiF q cur tb t h1] at ht;rw[ZjD];exact⟨rfl,ht,ZbO py hc (Z1g h3 (by omega)),hf⟩
theorem ZiG:(Tryz.prog.info? 279).map (λi=>(i.zero,i.size,i.bytes))=some (some (.agg #[.int .i64 0,.int .i64 0,.int .i64 0,.int .i64 0,.int .u8 0]),5,40):=by kernel_rfl
theorem Z9q (n:Nat):madeCells #[.int .i64 0,.int .i64 0,.int .i64 0,.int .i64 0,.int .u8 0] (n*5)=stA (List.replicate n st0):=by
 apply Array.ext_getElem?;intro i;unfold madeCells;rcases Nat.lt_or_ge i (n*5) with h|h
 ·have hq:i/5<(List.replicate n st0).length:=(by rw[Vaw];omega);obtain⟨a,b,c,d,e⟩:=Z6B (List.replicate n st0) (i/5) hq
  have hg:(List.replicate n st0).getD (i/5) st0=st0:=by
   rw[Vbn,Van hq,List.getElem_replicate];rfl
  rw[hg] at a b c d e;have hi:i=i/5*5+i % 5:=(by omega);rw[Array.getElem?_map,Array.getElem?_range];rw[Vaf h];rcases(show i % 5=0\/i % 5=1\/i % 5=2\/i % 5=3\/i % 5=4 by omega) with r|r|r|r|r
  all_goals
   rw[r] at hi;simp only[Vch,Array.size,List.size_toArray,Vaz,Vcc,Nat.reduceAdd,r]
  ·rw[hi,Vb3,a];rfl
  ·rw[hi,b];rfl
  ·rw[hi,c];rfl
  ·rw[hi,d];rfl
  ·rw[hi,e];rfl
 ·have h1:(stA (List.replicate n st0)).size<=i:=by
   unfold stA;simp only[List.size_toArray,List.length_flatMap,List.map_replicate,List.sum_replicate_nat];have:(stc st0).length=5:=rfl;rw[this];exact h
  rw[Array.getElem?_eq_none h1,Array.getElem?_map,Array.getElem?_range,Vad (by omega)];rfl
theorem Zg0 (n:Nat) (hn:n<=5000) (w:World):(Instr.makeSlice 277 (.int .i64 (n:Int)) (.int .i64 (n:Int))).run Tryz.prog w=.ok (.slice (some ⟨w.heap.size,0,none⟩) n n) (w.alloc (.cells (stA (List.replicate n st0)) 279)):=by
 obtain⟨i,hi,hz,hs,dj⟩:=info_parts ZiG;have hr:=run_make (P:=Tryz.prog) w 277 279 i _ Tryz.underlying277 hi hz .i64 .i64 (n:Int) (n:Int) (by omega) (by omega) (by rw[dj];omega) (by omega);rw[hr,Vav,hs,<-Z9q];rfl
theorem Z82 (w:World):Calls Tryz.prog 212 #[.int .i64 4096] w λx w'=>x=.returned (.bool true)/\w=w':=by
 go_enter Tryz.func212,Tryz.ntmps212;go_wp2;go_returns;exact⟨rfl,rfl⟩
theorem Z31 (w:World):Calls Tryz.prog 211 #[Z25] w λx w'=>x=.returned (.bool true)/\Below w.heap.size w w':=by
 have hk:=h_ (Bk.newN (w.alloc (.cells #[.int .i64 9,.int .i64 12,.int .i64 1,.int .i64 1] 226)) 3 #[.int .i64 9,.int .i64 12,.int .i64 1,.int .i64 1] (n:=w.heap.size+1) (by simp));have hb:=h_ (((Vae w.heap.size w).alloc UZz (.cells #[.int .i64 9,.int .i64 12,.int .i64 1,.int .i64 1] 226)).alloc (by simp) (.cells #[.int .i64 9,.int .i64 12,.int .i64 1,.int .i64 1] 3));unfold Z25;go_enter Tryz.func211,Tryz.ntmps211;go_wp2;generalize (w.alloc (.cells #[.int .i64 9,.int .i64 12,.int .i64 1,.int .i64 1] 226)).alloc (.cells #[.int .i64 9,.int .i64 12,.int .i64 1,.int .i64 1] 3)=W0 at*;go_loopw [15] (λkx wr=>∃k:Nat,k<=4/\kx=.int .i64 (k:Int)/\wr=W0) (λkx _=>(4-intOf kx).toNat);case atStart=>exact⟨0,by omega,rfl,rfl⟩
 case round=>
  obtain⟨k,KY,rfl,rfl⟩:=hrel;have c0:=hk.o.cell 0;have c1:=hk.o.cell 1;have c2:=hk.o.cell 2;have c3:=hk.o.cell 3;simp at c0 c1 c2 c3;rcases(show k=0\/k=1\/k=2\/k=3\/k=4 by omega) with rfl|rfl|rfl|rfl|rfl
  ·go_wp2;refine⟨⟨1,by omega,rfl,by first|rfl|trivial⟩,?_⟩;simp[intOf]
  ·go_wp2;refine⟨⟨2,by omega,rfl,by first|rfl|trivial⟩,?_⟩;simp[intOf]
  ·go_wp2;refine⟨⟨3,by omega,rfl,by first|rfl|trivial⟩,?_⟩;simp[intOf]
  ·go_wp2;refine⟨⟨4,by omega,rfl,by first|rfl|trivial⟩,?_⟩;simp[intOf]
  ·go_wp2;go_returns;exact⟨rfl,hb.o⟩
def pcL (t:Pc):List Value:=[.int .i64 (t.len:Int),.int .i64 (t.dist:Int),.int .u8 (t.byte.toNat:Int)]
def pcCs (l:List Pc):List Value:=l.flatMap pcL
structure PaSt (w:World) (T bb ib cb:Nat) (L:List St) (iv:Int):Prop where
 tb:Bk w T 279 (stA L)
 best:Bk w bb 277 #[.slice (some ⟨T,0,none⟩) L.length L.length]
 i:Bk w ib 3 #[.int .i64 iv]
 c:Bk w cb 226 #[.int .i64 9,.int .i64 12,.int .i64 1,.int .i64 1]
theorem PaSt.below {w w':World} {T bb ib cb:Nat} {L:List St} {iv:Int} (h:PaSt w T bb ib cb L iv) (hb:Below w.heap.size w w'):PaSt w' T bb ib cb L iv:=
 ⟨h.tb.below hb h.tb.lt,h.best.below hb h.best.lt,h.i.below hb h.i.lt,h.c.below hb h.c.lt⟩
theorem PaSt.try {w:World} {T bb ib cb:Nat} {L:List St} {i:Nat} (h:PaSt w T bb ib cb L (i:Int)):TrSt (w.alloc (.cells #[.bool false] 4)) T bb ib cb w.heap.size L i false:=
 ⟨h.tb.alloc _,h.best.alloc _,h.i.alloc _,h.c.alloc _,Bk.new _ _ _⟩
def Lk (s:List UInt8) (k:Nat):List St:=List.replicate k st0++tbl s (s.length-k)
theorem ZiH (s:List UInt8) (q:Nat):Lk s (q+1)=Lq q none (tbl s (s.length-(q+1))):=by
 unfold Lk Lq;rw[List.replicate_succ',Vay];rfl
theorem Zg1 (s:List UInt8):List.replicate (s.length+1) st0=Lk s s.length:=by
 unfold Lk;rw[Va7,List.replicate_succ'];rfl
theorem ZiI (s:List UInt8) (q:Nat) (hq:q<s.length) {x:St} (hx:(Z2o s q).foldl (tryP (tbl s (s.length-(q+1)))) none=some x):Lq q (some x) (tbl s (s.length-(q+1)))=Lk s q:=by
 unfold Lk Lq;have e:s.length-q=(s.length-(q+1))+1:=(by omega);rw[e];show _=_++(Z0T s (s.length-1-(s.length-(q+1))) _::_);rw[show s.length-1-(s.length-(q+1))=q by omega];unfold Z0T;rw[hx]
theorem Zh5 (s:List UInt8) {k:Nat} (h:k<=s.length):(Lk s k).length=s.length+1:=by
 unfold Lk;rw[Vab,Vaw,ZaQ];omega
theorem Z6F {w:World} {B n cap g:Nat} {o:List (Nat×Nat)} (h:w.ownsRow B 284 2 (.slice (some ⟨g,0,none⟩) n cap) n (cpC o)) {k:Nat} (hk:k<o.length):w.cell? ⟨g,k*2,none⟩=some (.int .i64 ((o.getD k (0,0)).1:Int))/\w.cell? ⟨g,k*2+1,none⟩=some (.int .i64 ((o.getD k (0,0)).2:Int)):=by
 have key:∀(o:List (Nat×Nat)) (k:Nat),k<o.length->(cpC o)[k*2]? =some (.int .i64 ((o.getD k (0,0)).1:Int))/\(cpC o)[k*2+1]? =some (.int .i64 ((o.getD k (0,0)).2:Int)):=by
  intro o;induction o with
  |nil=>intro k h;simp at h
  |cons c r ih=>
   intro k h;cases k with
   |zero=>exact⟨rfl,rfl⟩
   |succ k=>
    obtain⟨a,b⟩:=ih k (by simpa using h)
    have e1:(cpC (c::r))[(k+1)*2]? =(cpC r)[k*2]? :=by
     unfold cpC;rw[Vb0,Vbc (by show 2<=_;omega)];congr 1;show(k+1)*2-2=_;omega
    have e2:(cpC (c::r))[(k+1)*2+1]? =(cpC r)[k*2+1]? :=by
     unfold cpC;rw[Vb0,Vbc (by show 2<=_;omega)];congr 1;show(k+1)*2+1-2=_;omega
    rw[e1,e2,List.getD_cons_succ];exact⟨a,b⟩
 obtain⟨a,b⟩:=key o k hk;have h1:=h.cells (g:=g) rfl _ _ a;have h2:=h.cells (g:=g) rfl _ _ b;rw[Go.WideShapes.add_plain,Vbo] at h1 h2;exact⟨h1,h2⟩
def ptmu (v:Value) (w:World):Nat:=match v with
 |.pointer (some a)=>match w.cell? a with
  |some (.int _ n)=>(n+1).toNat
  |_=>0
 |_=>0
theorem ZcU {w:World} {a:Addr} {k:IntKind} {n:Int} (h:w.cell? a=some (.int k n)):ptmu (.pointer (some a)) w=(n+1).toNat:=by
 unfold ptmu;simp only;rw[h]
theorem Zg2 {w1:World} {cb:Nat} (hc:Bk w1 cb 226 #[.int .i64 9,.int .i64 12,.int .i64 1,.int .i64 1]) {L:List St} {m:Nat} (hL:L.length=m) (iv:Int):
  PaSt (((w1.alloc (.cells (stA L) 279)).alloc (.cells #[.slice (some ⟨w1.heap.size,0,none⟩) m m] 277)).alloc (.cells #[.int .i64 iv] 3)) w1.heap.size (w1.heap.size+1) (w1.heap.size+1+1) cb L iv/\
  Below w1.heap.size w1 (((w1.alloc (.cells (stA L) 279)).alloc (.cells #[.slice (some ⟨w1.heap.size,0,none⟩) m m] 277)).alloc (.cells #[.int .i64 iv] 3)):=by
 subst hL
 exact⟨⟨((Bk.new _ _ _).alloc _).alloc _,(Bk.newN _ _ _ (by simp)).alloc _,Bk.newN _ _ _ (by simp),((hc.alloc _).alloc _).alloc _⟩,
  (((Vae w1.heap.size w1).alloc UZz _).alloc (by simp) _).alloc (by simp;omega) _⟩
theorem Z83 {B T sb:Nat} {w wr wx:World} (h:Below B w wr) (hB:B<=wr.heap.size) (hf:Fr (λk=>k=T\/k=sb) wr wx) (h1:B<=T) (h2:B<=sb):Below B w wx:=
 h.trans (hf.toBelow' hB (λk hk hs=>by rcases hs with hs|hs<;>omega))
theorem ZkA {B n:Nat} {v:Value} {xs:List Value} {w w':World} {T bb ib cb sb:Nat} {L:List St} {i:Nat} {seen:Bool} (h:w.ownsRow B 284 2 v n xs) (ht:TrSt w T bb ib cb sb L i seen) (hf:Fr (λk=>k=T\/k=sb) w w'):w'.ownsRow B 284 2 v n xs:=
 Zn h hf (λg hg hs=>by
  rcases hs with hs|hs
  ·exact Z2 h ht.tb (by decide) (hs▸hg)
  ·exact Z2 h ht.sn (by decide) (hs▸hg))
def CpOk (n q:Nat) (l:List (Nat×Nat)):Prop:=∀c∈l,2<=c.1/\q+c.1<=n/\c.2<=4096
theorem ZcV {s:List UInt8} {q:Nat} (hq:q<=s.length):CpOk s.length q (cand s q):=λc hc=>by
 obtain⟨h1,h2,_,_,h5,_⟩:=(Z5Z s q).1 c hc;have:Xt s q<=s.length-q:=Nat.min_le_right _ _;exact⟨h1,by omega,h5⟩
theorem ZiJ (s:List UInt8) (i most:Nat):∀p b o,(btr s i most p b o).length<=o.length+p:=by
 intro p;induction p with
 |zero=>intro b o;exact UZz
 |succ p ih=>
  intro b o;rw[btr];split
  ·omega
  ·split
   ·have:=ih b o;omega
   ·split
    ·have:=ih (com s p i most) (o++[(com s p i most,i-p)]);rw[Vab,Vbd] at this;omega
    ·have:=ih b o;omega
theorem Zg3 (s:List UInt8) (i:Nat):(cand s i).length<=i:=by
 have:=ZiJ s i (Xt s i) i 1 [];unfold cand;simpa using this
theorem Z84 {n q:Nat} {l:List (Nat×Nat)} (h:CpOk n q l) {j:Nat} (hj:j<l.length):2<=(l.getD j (0,0)).1/\q+(l.getD j (0,0)).1<=n/\(l.getD j (0,0)).2<=4096:=by
 rw[Vbn,Van hj];exact h _ (Vak _)
theorem ZcW {n q:Nat} {l:List (Nat×Nat)} (h:CpOk n q l) {j:Nat} (hj:j<l.length):1<=Z2I l j/\Z2I l j<=n+1:=by
 unfold Z2I;split
 ·obtain⟨a,b,_⟩:=Z84 h (j:=j-1) (by omega);omega
 ·omega
theorem Z5m {w:World} {base n size:Nat} {e:TypeId} {v:Value} {xs:List Value} (h:w.ownsRow base e size v n xs) (hn:0<n):∃g cap,v=.slice (some ⟨g,0,none⟩) n cap/\n<=cap:=by
 rcases h.2 with ⟨_,h2⟩|⟨g',bp,cur,hv,hb,hg,hc,_⟩
 ·omega
 ·exact⟨g',bp,hv,hc⟩
theorem Zlj:(Tryz.prog.info? 181).map (λi=>(i.zero,i.size,i.bytes))=some (some (.agg #[.int .i64 0,.int .i64 0,.int .u8 0]),3,24):=by kernel_rfl
theorem Z9r (s:List UInt8) (hs:s.length<=4096) (w:World):
  Calls Tryz.prog 173 #[Z25,.string (bs s),.int .i64 4096] w λx w'=>∃ov,x=.returned (.tuple #[ov,.int .i64 0])/\w'.ownsRow w.heap.size 181 3 ov (parse s).length (pcCs (parse s))/\Below w.heap.size w w':=by
 have iq:=h_ (λW=>Z31 W);have Ew:=h_ (λW=>Z82 W);have uN:=h_ (λi (hi:i<=s.length) W=>Z96 s hs i hi W);have ad:(bs s).size=s.length:=Z0 s;obtain⟨n,hn⟩:∃n,s.length=n:=⟨_,rfl⟩;have si:=λW=>Zg0 (n+1) (by omega) W;have fR:((n+1:Nat):Int)=(n:Int)+1:=(by omega);rw[fR] at si;have sH:=h_ (Bk.new w 226 #[.int .i64 9,.int .i64 12,.int .i64 1,.int .i64 1]);have mX:=h_ ((Vae w.heap.size w).alloc UZz (.cells #[.int .i64 9,.int .i64 12,.int .i64 1,.int .i64 1] 226));have Hg:=h_ (QP s);have pL:=h_ (λq hq x hx=>ZiI s q hq (x:=x) hx);have AN:=h_ (λq=>ZiH s q);have uW:=h_ (λq (hq:q<s.length)=>ZbP s (s.length-(q+1)) (by omega));have nj:=h_ (λq (hq:q<=s.length)=>ZcV hq);have sC:=h_ (λk=>ZaQ s k);obtain⟨S,hS⟩:∃S,bs s=S:=⟨_,rfl⟩;have aT:=h_ (Zg1 s);have fI:(Lk s s.length).length=s.length+1:=Zh5 s UZz;rw[hS] at ad uN Hg⊢;rw[hn] at ad hs uN Hg aT pL AN uW nj fI;have fH:¬(4096:Int)<(S.size:Int):=(by omega);have TY:decide ((4096:Int)<(n:Int))=false:=Vai (by omega);have Hn:=h_ hn;rw[aT.o] at si;have BR:=h_ fI;clear hn hS fI;unfold Z25 at iq⊢;go_enter Tryz.func173,Tryz.ntmps173;go_wp2_with fail;refine(iq.o _).mono ?_;rintro x w1 ⟨rfl,a7⟩;go_wp2_with fail;refine(Ew.o _).mono ?_;rintro x w2 ⟨rfl,rfl⟩;have bG:=si w1;have Ed:=a7.size;rw[World.size_alloc] at Ed;obtain⟨hP,NI⟩:=Zg2 (sH.o.below a7 (by simp)) BR.o ((n:Int)-1);have cR:=(mX.o.trans (a7.mono (by simp))).trans (NI.mono (by omega));have BU:=h_ hP;have NJ:=h_ cR;clear hP NI cR sH mX a7 iq Ew si;generalize stA (Lk s n)=ST at*;go_wp2;generalize ((w1.alloc (.cells ST 279)).alloc (.cells #[.slice (some ⟨w1.heap.size,0,none⟩) (n+1) (n+1)] 277)).alloc (.cells #[.int .i64 ((n:Int)-1)] 3)=W0 at*;clear bG;have NK:w.heap.size<=w1.heap.size:=(by omega);generalize w1.heap.size+1+1=TZ at*;generalize w1.heap.size+1=bb at*;generalize w1.heap.size=T at*;go_loopw [9] (λs9 wr=>∃(k ib:Nat),k<=n/\s9=.pointer (some ⟨ib,0,none⟩)/\Hid (PaSt wr T bb ib w.heap.size (Lk s k) ((k:Int)-1))/\Hid (Below w.heap.size w wr)) (λs9 wr=>ptmu s9 wr);case atStart=>exact⟨n,TZ,UZz,rfl,BU,NJ⟩
 case round=>
  clear BU NJ;obtain⟨k,ib,hk,rfl,hP,hb⟩:=hrel;have ci:=hP.o.i.cell 0;have qY:=hP.o.i.lt;have BV:=hP.o.best.lt;have rX:=hP.o.tb.lt;have iu:=hP.o.c.lt;simp at ci;have nh:=h_ (ZcU ci);by_cases ab:0<k
  ·obtain⟨q,rfl⟩:∃q,k=q+1:=⟨k-1,by omega⟩;have i1:((q+1:Nat):Int)-1=(q:Int):=(by omega);rw[i1] at ci hP nh;have hq:q<n:=(by omega);have lB:=hP.o.try;rw[AN.o] at lB;have j0:=pL.o q hq;have lQ:=uW.o q hq;have fg:=nj.o q (by omega);have fK:=sC.o (n-(q+1));generalize tbl s (n-(q+1))=tb at*;have BW:q+tb.length=n:=(by omega);have hM:38*(n-(q+1))<=160000:=(by omega);have U0:=Zg3 s q;have NL:Z2o s q=Z06 (cand s q).reverse++[lit s q]:=rfl;rw[NL] at j0;have Hq:=h_ (uN.o q (by omega) (wr.alloc (.cells #[.bool false] 4)));generalize cand s q=l at*
   obtain⟨X,hX⟩:∃X,(Z06 l.reverse++[lit s q]).foldl (tryP tb) none=some X:=by
    rw[Vbq];exact Z07 _ _ _
   have HX:=h_ hX;have J1:=h_ (j0 X hX);have BX:=h_ (λ(W:World) (cur:Option St) (h:TrSt W T bb ib w.heap.size wr.heap.size (Lq q cur tb) q cur.isSome) hc t h1 h2 h3=>ZcT h BW hs lQ hM hc t h1 h2 h3);have Ei:=hb.o.size;have aL:=h_ (hb.o.alloc Ei (.cells #[.bool false] 4));have yz:=h_ lB;have NM:=h_ fg;clear lB hX j0 lQ fg fK BW hM NL hP;go_wp2_with fail;refine(Hq.o).mono ?_;rintro x w2 ⟨ov,rfl,aX,a8⟩;obtain⟨A,cap,rfl,_⟩:=Zl aX;have ui:=h_ (yz.o.below a8);have gg:=h_ (Z3b aX (show w.heap.size<=_ by rw[World.size_alloc];omega));have an:=h_ (aL.o.trans (a8.mono aL.o.size));have eu:l.length<=4096:=(by omega);have h0:Hid ((Z06 ((l.take l.length).reverse)++[lit s q]).foldl (tryP tb) none=some X):=(by rw[Vbx];exact HX)
   have hA:Hid (∀k,k<l.length->∃b,A=some ⟨b,0,none⟩):=h_ (λk hk=>by
    obtain⟨g,c2,e,_⟩:=Z5m gg.o (by omega);injection e with e1 e2 e3;exact⟨g,e1⟩)
   clear yz aX a8 aL Hq ci qY BV rX iu HX U0;go_wp2;have FJ:w.heap.size<=wr.heap.size:=Ei;generalize wr.heap.size=sb at*;go_loopw [13] (λnF wx=>∃(kk:Nat) (cur:Option St),kk<=l.length/\nF=.int .i64 ((kk:Int)-1)/\Hid (TrSt wx T bb ib w.heap.size sb (Lq q cur tb) q cur.isSome)/\Hid (wx.ownsRow w.heap.size 284 2 (.slice A l.length cap) l.length (cpC l))/\Hid ((Z06 ((l.take kk).reverse)++[lit s q]).foldl (tryP tb) cur=some X)/\Hid (∀x,cur=some x->x.cost<=38*(n-(q+1))+38/\x.pcs<=38*(n-(q+1))+38)/\Hid (Below w.heap.size w wx)) (λnF _=>(intOf nF+1).toNat);case atStart=>exact⟨l.length,none,UZz,rfl,ui,gg,h0,h_ (λx hx=>by cases hx),an⟩
   case round=>
    clear ui gg h0 an;obtain⟨kk,cur,kI,rfl,gW,ox,sP,sQ,qu⟩:=hrel;by_cases cj:0<kk
    ·obtain⟨j,rfl⟩:∃j,kk=j+1:=⟨kk-1,by omega⟩;have i2:((j+1:Nat):Int)-1=(j:Int):=(by omega);rw[i2];have hj:j<l.length:=(by omega);obtain⟨g,rfl⟩:=hA.o j hj;obtain⟨nY,tM,BY⟩:=Z84 NM.o hj;have NN:=Z8S hj;have tI:=ZcW NM.o hj;have fU:=sP.o;rw[NN] at fU;obtain⟨c1,c2⟩:=Z6F ox.o hj;obtain⟨hi,lR⟩:∃x,(l.getD j (0,0)).1=x:=⟨_,rfl⟩;obtain⟨d,hd⟩:∃x,(l.getD j (0,0)).2=x:=⟨_,rfl⟩;obtain⟨sh,wV⟩:∃x,Z2I l j=x:=⟨_,rfl⟩;rw[lR] at nY tM c1 fU;rw[hd] at BY c2 fU;rw[wV] at tI fU;have qv:=h_ fU;have ME:(j:Int)<(l.length:Int):=(by omega);have gI:(0:Int)<=(j:Int):=(by omega);have qw:=h_ wV;have U3:=h_ hd;clear NN sP fU lR hd wV ab kI cj;go_upto_if 53 with fail;go_cut [14] (λgm U4=>gm=.int .i64 (sh:Int)/\wr=U4)
     case first=>
      clear gW qv sQ qu c1 c2;by_cases J2:0<j
      ·have BZ:(0:Int)<(j:Int):=(by omega);have e1:(j:Int)-1=((j-1:Nat):Int):=(by omega);obtain⟨c1,c2⟩:=Z6F ox.o (k:=j-1) (by omega)
       have aM:(l.getD (j-1) (0,0)).1=sh:=by
        rw[<-qw.o];unfold Z2I;rw[Vaf J2]
       rw[aM] at c1;have cN:((j-1:Nat):Int)<(l.length:Int):=(by omega);obtain⟨j1,C0⟩:∃x,j-1=x:=⟨_,rfl⟩;rw[C0] at e1 c1 c2 cN;have U5:(0:Int)<=(j1:Int):=(by omega);clear ox qw C0 aM;go_wp2;go_meet;case rel=>exact⟨rfl,rfl⟩
      ·have J3:j=0:=(by omega);subst J3;have aM:sh=1:=(by rw[<-qw.o];rfl);subst aM;clear ox qw;go_wp2;go_meet;case rel=>exact⟨rfl,rfl⟩
     case rest=>
      obtain⟨rfl,rfl⟩:=hcut;clear qw;have iB:j<=l.length:=(by omega);go_wp2;go_loopw [15] (λkx wy=>∃(m:Nat) (cur:Option St),m<=hi/\kx=.int .i64 (m:Int)/\Hid (TrSt wy T bb ib w.heap.size sb (Lq q cur tb) q cur.isSome)/\Hid (wy.ownsRow w.heap.size 284 2 (.slice (some ⟨g,0,none⟩) l.length cap) l.length (cpC l))/\Hid (((down m sh d++Z06 ((l.take j).reverse))++[lit s q]).foldl (tryP tb) cur=some X)/\Hid (∀x,cur=some x->x.cost<=38*(n-(q+1))+38/\x.pcs<=38*(n-(q+1))+38)/\Hid (Below w.heap.size w wy)) (λkx _=>(intOf kx).toNat);case atStart=>exact⟨hi,cur,UZz,rfl,gW,ox,qv,sQ,qu⟩
      case round=>
       clear c1 c2 gW ox qv sQ qu;obtain⟨m,cur,hm,rfl,gW,ox,sP,sQ,qu⟩:=hrel;by_cases ga:sh<m
       ·have ds:=ZbN (d:=d) ga;have fU:=sP.o;rw[ds] at fU;have qv:Hid (((down (m-1) sh d++Z06 ((l.take j).reverse))++[lit s q]).foldl (tryP tb) (tryP tb cur ⟨m,d,0⟩)=some X):=h_ fU;have Ht:=BX.o wr cur gW.o sQ.o ⟨m,d,0⟩ (by simp only;omega) (by simp only;omega) (by simp only;omega);unfold pcC at Ht;simp only at Ht;have e0:(((0:UInt8).toNat:Nat):Int)=0:=rfl;rw[e0] at Ht;have Ht:=h_ Ht;obtain⟨c1,c2⟩:=Z6F ox.o hj;rw[U3.o] at c2;have J4:(sh:Int)<(m:Int):=(by omega);have em:(m:Int)-1=((m-1:Nat):Int):=(by omega);obtain⟨m1,dC⟩:∃x,m-1=x:=⟨_,rfl⟩;rw[dC] at em qv;have J5:m1<=hi:=(by omega);have mZ:=gW;clear ds sP fU e0 dC gW sQ c1;go_wp2_with fail;refine(Ht.o).mono ?_;rintro x w3 ⟨rfl,uj,NO,yA⟩;have U6:=h_ uj;have zk:=h_ NO;have dd:=h_ (ZkA ox.o mZ.o yA);have IA:=h_ (Z83 qu.o qu.o.size yA NK FJ);clear uj NO yA ox mZ qu Ht;go_wp2;refine⟨⟨m1,_,J5,by first|rfl|(congr 1),U6,dd,qv,zk,IA⟩,?_⟩;simp[intOf]<;>omega
       ·have fU:=sP.o;rw[Zf8 (by omega),Vbz] at fU;have qv:=h_ fU;have J4:¬(sh:Int)<(m:Int):=(by omega);clear sP fU;go_wp2;refine⟨⟨j,cur,iB,by first|rfl|go_num,gW,ox,qv,sQ,qu⟩,?_⟩;simp[intOf]<;>omega
    ·have J6:kk=0:=(by omega);subst J6;have C3:tryP tb cur (lit s q)=some X:=sP.o;have Ht:=BX.o wr cur gW.o sQ.o (lit s q) (Vaa 1) (by show q+1<=n;omega) (Vat _);have U7:q<S.size:=(by omega);have WA:(q:Int)<(S.size:Int):=(by omega);have zo:(0:Int)<=(q:Int):=(by omega);have NP:=Hg.o q (by omega) U7;have fh:pcC (lit s q)= #[.int .i64 1,.int .i64 0,.int .u8 ((s.getD q 0).toNat:Int)]:=rfl;rw[fh,<-NP,C3,J1.o] at Ht;have Ht:=h_ Ht;have z1:((0:Nat):Int)-1= -1:=rfl;rw[z1];obtain⟨_,ci,_⟩:=gW.o.cells;clear sP C3 fh NP ox sQ Hg kI cj;go_wp2_with fail;refine(Ht.o).mono ?_;rintro x w3 ⟨rfl,uj,_,yA⟩;obtain⟨_,WB,_⟩:=uj.cells;have wW:=Z83 qu.o qu.o.size yA NK FJ;have U8:Hid (PaSt (w3.alloc (.cells #[.int .i64 ((q:Int)-1)] 3)) T bb w3.heap.size w.heap.size (Lk s q) ((q:Int)-1)):=h_ ⟨uj.tb.alloc _,uj.best.alloc _,Bk.new _ _ _,uj.c.alloc _⟩;have U9:=h_ (wW.alloc wW.size (.cells #[.int .i64 ((q:Int)-1)] 3));have tA:Hid (ptmu (.pointer (some ⟨w3.heap.size,0,none⟩)) (w3.alloc (.cells #[.int .i64 ((q:Int)-1)] 3))=((q:Int)-1+1).toNat):=h_ (ZcU ((Bk.new w3 3 #[.int .i64 ((q:Int)-1)]).cell 0));clear uj yA wW gW qu Ht ci;go_wp2;refine⟨⟨q,w3.heap.size,by omega,rfl,U8,U9⟩,?_⟩;rw[tA.o,nh.o];omega
  ·have cj:k=0:=(by omega);subst cj;have C4:=hP.o;have z1:((0:Nat):Int)-1= -1:=rfl;rw[z1] at ci;have wX:Lk s 0=QN s:=(by unfold Lk QN;rw[Nat.sub_zero];rfl);rw[wX] at C4;have WC:=h_ C4
   have jN:(QN s).length=n+1:=by
    rw[<-wX,<-Hn.o];exact Zh5 s (Vat _)
   have KS:=h_ jN;have eF:Hid ([]++Wv.Lz.follow s n 0=parse s):=h_ (by rw[Vbz,<-Hn.o];rfl);have u7:=h_ (λi (h:i<n)=>(Z7n (by rw[Hn.o];exact h):PcOk s i ((QN s).getD i st0).first));have Ek:=h_ (λf i (h:i<n)=>(Z6d (by rw[Hn.o];exact h):Wv.Lz.follow s (f+1) i=((QN s).getD i st0).first::Wv.Lz.follow s f (i+((QN s).getD i st0).first.len)));have Ua:=h_ (λf=>(Z8T (by rw[Hn.o];exact UZz):Wv.Lz.follow s f n=[]));have Ub:=h_ (λi (h:i<n+1)=>Z6B (QN s) i (by rw[jN];exact h));have mA:=C4.best;rw[jN] at mA;have C5:=h_ mA;have NQ:=h_ C4.tb;have NR:Hid (wr.ownsRow w.heap.size 181 3 (.slice none 0 0) ([]:List Pc).length (pcCs [])):=h_ Zk;clear C4 hP wX nh jN mA qY BV rX iu AN pL uW nj sC uN Hg aT;go_wp2;clear ci;go_loopw [16,17] (λki C6 wx=>∃(i f:Nat) (o:List Pc) (ov:Value),i<=n/\C6=.int .i64 (i:Int)/\ki=ov/\Hid (n<=i+f)/\Hid (o.length<=i)/\Hid (Bk wx T 279 (stA (QN s)))/\Hid (Bk wx bb 277 #[.slice (some ⟨T,0,none⟩) (n+1) (n+1)])/\Hid (wx.ownsRow w.heap.size 181 3 ov o.length (pcCs o))/\Hid (o++Wv.Lz.follow s f i=parse s)/\Hid (Below w.heap.size w wx)) (λ_ C6 _=>(n-intOf C6).toNat);case atStart=>exact⟨0,n,[],_,Vat _,rfl,rfl,h_ (by omega),h_ UZz,NQ,C5,NR,eF,hb⟩
   case round=>
    clear NQ C5 NR eF hb;obtain⟨i,f,o,ov,hi,rfl,rfl,hf,fS,hT,mA,aX,qU,hb⟩:=hrel;obtain⟨A,cap,rfl,_⟩:=Zl aX.o;by_cases ab:i<n
    ·obtain⟨f1,rfl⟩:∃g,f=g+1:=⟨f-1,by have:=hf.o;omega⟩;have bH:=u7.o i ab;have bU:=bH.pos;rw[Hn.o] at bU;have tB:=Ek.o f1 i ab;obtain⟨_,_,g2,g3,g4⟩:=Ub.o i (by omega);obtain⟨p,hp⟩:∃p,((QN s).getD i st0).first=p:=⟨_,rfl⟩;rw[hp] at bU tB g2 g3 g4;have lG:=qU.o;rw[tB] at lG;have qv:Hid ((o++[p])++Wv.Lz.follow s f1 (i+p.len)=parse s):=h_ (by rw[Vay];exact lG);have q2:=(hT.o.cell (i*5+2)).trans g2;have q3:=(hT.o.cell (i*5+3)).trans g3;have q4:=(hT.o.cell (i*5+4)).trans g4;have qb:=mA.o.cell 0;simp at qb;have dp:(i:Int)<(n:Int)+1:=(by omega);have Uc:(i:Int)<(n:Int):=(by omega);have iZ:(0:Int)<=(i:Int):=(by omega);obtain⟨v',w2,hr,sR,C7,dO,_⟩:=Z7S (P:=Tryz.prog) 172 181 _ _ 3 Tryz.underlying172 Zlj rfl (by omega) aX.o hb.o hb.o.size [.int .i64 (p.len:Int),.int .i64 (p.dist:Int),.int .u8 (p.byte.toNat:Int)] rfl (by simp[Value.oneCell']) (by unfold maxLen;have:=fS.o;omega) (by have:=fS.o;omega);have mW:=dO _ _ _ hT.o (by decide);have a8:=dO _ _ _ mA.o (by decide);have r2:=(mW.cell (i*5+2)).trans g2;have rb:=a8.cell 0;simp at rb;have gy:o.length+1=(o++[p]).length:=(by simp);have dD:pcCs o++[.int .i64 (p.len:Int),.int .i64 (p.dist:Int),.int .u8 (p.byte.toNat:Int)]=pcCs (o++[p]):=(by simp[pcCs,pcL]);rw[gy,dD] at sR;have J7:=h_ sR;have ui:=h_ mW;have an:=h_ a8;have J8:=h_ C7;have aq:=h_ hr;have cl:Hid (n<=i+p.len+f1):=h_ (by have:=hf.o;omega);have nQ:Hid ((o++[p]).length<=i+p.len):=h_ (by have:=fS.o;simp;omega);obtain⟨A2,M2,aE,rfl⟩:=Zd sR;clear bH tB g2 g3 g4 hp qU lG sR mW a8 C7 hr hf fS dO gy dD aX;obtain⟨m,hm⟩:∃m,i+p.len=m:=⟨_,rfl⟩;rw[hm] at qv cl nQ bU;have NT:(i:Int)+(p.len:Int)=(m:Int):=(by omega);have aU:m<=n:=bU.2;have yf:i<m:=(by omega);clear bU hm;go_wp2_with (at_builtin;refine Z3 (by with_reducible rfl) rfl _ _ _ rfl _ _ (by rfl) (by rfl) aq.o ?_);refine⟨⟨m,f1,o++[p],_,aU,by first|rfl|(congr 1),rfl,cl,nQ,ui,an,J7,qv,J8⟩,?_⟩;simp[intOf]<;>omega
    ·have aU:i=n:=(by omega);subst aU;have lG:=qU.o;rw[Ua.o,Va3] at lG;have cT:=aX.o;rw[lG] at cT;have ph:=h_ cT;rw[lG];clear qU lG aX cT hT mA;go_wp2;go_returns;exact⟨_,rfl,ph.o,hb.o⟩
end Go.Proofs.YtchokmkfobandaaGreatDoor
namespace Wv
open Go Go.RowKit
theorem Z9s {w:World} {B B':Nat} {e e':TypeId} {sz Ud n n':Nat} {v v':Value} {xs ys:List Value} (h:w.ownsRow B e sz v n xs) (h':w.ownsRow B' e' Ud v' n' ys) (az:e≠e') {g:Nat} (hg:v.ownBlock=some g):v'.ownBlock≠some g:=by
 rcases h.2 with ⟨rfl,_⟩|⟨g1,cap,cur,rfl,_,hh,_⟩
 ·simp[Value.ownBlock] at hg
 ·have:g1=g:=(by simpa [Value.ownBlock] using hg);subst this;exact Z2 h' (show Bk w g1 e cur from hh) (Ne.symm az)
end Wv
namespace Go.Proofs.YtchokmkfobandaaGreatDoor
open Go.RowKit Go.Proofs Wv Wv.Vi Wv.Rc Wv.Mo Wv.Lz
theorem ZiK {w:World} {B n cap g:Nat} {o:List Pc} (h:w.ownsRow B 181 3 (.slice (some ⟨g,0,none⟩) n cap) n (pcCs o)) {k:Nat} (hk:k<o.length):w.cell? ⟨g,k*3,none⟩=some (.int .i64 (o[k].len:Int))/\w.cell? ⟨g,k*3+1,none⟩=some (.int .i64 (o[k].dist:Int))/\w.cell? ⟨g,k*3+2,none⟩=some (.int .u8 (o[k].byte.toNat:Int)):=by
 have key:∀(o:List Pc) (k:Nat) (hk:k<o.length),(pcCs o)[k*3]? =some (.int .i64 (o[k].len:Int))/\(pcCs o)[k*3+1]? =some (.int .i64 (o[k].dist:Int))/\(pcCs o)[k*3+2]? =some (.int .u8 (o[k].byte.toNat:Int)):=by
  intro o;induction o with
  |nil=>intro k h;simp at h
  |cons c r ih=>
   intro k h;cases k with
   |zero=>exact⟨rfl,rfl,rfl⟩
   |succ k=>
    obtain⟨a,b,d⟩:=ih k (by simpa using h)
    have e1:∀j,(pcCs (c::r))[(k+1)*3+j]? =(pcCs r)[k*3+j]? :=λj=>by
     unfold pcCs;rw[Vb0,Vbc (by show 3<=_;omega)];congr 1;show(k+1)*3+j-3=_;omega
    have e0:=e1 0;simp only[Vb3] at e0;rw[e0,e1,e1];exact⟨a,b,d⟩
 obtain⟨a,b,d⟩:=key o k hk;have h1:=h.cells (g:=g) rfl _ _ a;have h2:=h.cells (g:=g) rfl _ _ b;have h3:=h.cells (g:=g) rfl _ _ d;rw[Go.WideShapes.add_plain,Vbo] at h1 h2 h3;exact⟨h1,h2,h3⟩
theorem Z5n (s:List UInt8) (hs:4096<s.length) (cV:s.length<=1000000000) (w:World):
  Calls Tryz.prog 173 #[Z25,.string (bs s),.int .i64 4096] w λx w'=>x=.returned (.tuple #[.slice none 0 0,.int .i64 9])/\Below w.heap.size w w':=by
 have iq:=h_ (λW=>Z31 W);have Ew:=h_ (λW=>Z82 W);have ad:(bs s).size=s.length:=Z0 s;have fH:(4096:Int)<((bs s).size:Int):=(by omega);have mX:=h_ ((Vae w.heap.size w).alloc UZz (.cells #[.int .i64 9,.int .i64 12,.int .i64 1,.int .i64 1] 226));generalize bs s=S at*;clear ad hs cV;unfold Z25 at iq⊢;go_enter Tryz.func173,Tryz.ntmps173;go_wp2_with fail;refine(iq.o _).mono ?_;rintro x w1 ⟨rfl,a7⟩;go_wp2_with fail;refine(Ew.o _).mono ?_;rintro x w2 ⟨rfl,rfl⟩;have aS:=h_ (mX.o.trans (a7.mono (by simp)));clear a7 mX;go_wp2;go_returns;exact⟨rfl,aS.o⟩
theorem Z29 (s:List UInt8) (hs:s.length<=4096) (w:World):
  Calls Tryz.prog 129 #[.string (bs s)] w λx w'=>∃ov,x=.returned (.tuple #[ov,.int .i64 0])/\w'.ownsRow w.heap.size 181 3 ov (parse s).length (pcCs (parse s))/\Below w.heap.size w w':=by
 have Hp:=h_ (Z9r s hs w);generalize bs s=S at*;generalize parse s=R at*;unfold Z25 at Hp;go_enter Tryz.func129,Tryz.ntmps129;go_wp2_with fail;refine(Hp.o).mono ?_;rintro x w1 ⟨ov,rfl,h1,h2⟩;obtain⟨A,M,cap,rfl⟩:=Zd h1;have H1:=h_ h1;clear h1;go_wp2;go_returns;exact⟨_,rfl,H1.o,h2⟩
theorem Z42 (s:List UInt8) (hs:4096<s.length) (cV:s.length<=1000000000) (w:World):
  Calls Tryz.prog 129 #[.string (bs s)] w λx w'=>x=.returned (.tuple #[.slice none 0 0,.int .i64 9])/\Below w.heap.size w w':=by
 have Hp:=h_ (Z5n s hs cV w);generalize bs s=S at*;unfold Z25 at Hp;go_enter Tryz.func129,Tryz.ntmps129;go_wp2_with fail;refine(Hp.o).mono ?_;rintro x w1 ⟨rfl,h2⟩;go_wp2;go_returns;exact⟨rfl,h2⟩
theorem ZcX {s:List UInt8} {i:Nat} {t:Pc} (h:PcOk s i t) (hs:s.length<=4096):t.len<=1000000/\t.dist<=1000000/\(t.dist=0/\1<=t.len\/1<=t.dist/\2<=t.len):=by
 rcases h with ⟨h1,h2,_⟩|⟨h1,h2,h3,h4,h5,_⟩<;>omega
theorem Z9t (t:Pc) (l:List Pc) (x:Ms×En):Xp (t::l) x=Xp l (penc t x):=rfl
theorem wnew {B:Nat} {p:Pl} {eb:Nat} {dv:Value} (hp:PlB B p) (he:B<=eb) (hd:∀g,dv.ownBlock=some g->B<=g):∀k,k<B->¬XZ p eb dv k:=λk hk hs=>by
 rcases hs with hs|hs|hs|hs|hs|hs|hs
 ·have:=hp.kg;omega
 ·have:=hp.bb;omega
 ·have:=hp.bg;omega
 ·have:=hp.lg;omega
 ·have:=hp.dg;omega
 ·omega
 ·have:=hd k hs;omega
theorem ZcY (s : List UInt8) (hs : s.length <= 4096) (az : s ≠ []) (w : World) :
    Calls Tryz.prog 82 #[.string (bs s)] w λx w'=>x=.returned (.tuple #[.string (bs (num s.length++efin (Xp (parse s) (m0,e0)).2)),.int .i64 0])/\Below w.heap.size w w':=by
  have Hp:=h_ (Z29 s hs w);have ad:(bs s).size=s.length:=Z0 s;have cB:=Xl s;rw[Vai az] at cB;have Hn:=h_ (λW=>Zh (s.length:Int) (by omega) (by omega) W);have rV:=kof9 s.length;rw[<-Z0] at rV;have Hs:=h_ (λW=>Z2Z W);unfold setC at Hs;have He:=h_ (λW=>Z7b W);have nR:=h_ (Qb s);have u7:=h_ (λi t (h:PcOk s i t)=>ZcX h hs);obtain⟨n,hn⟩:∃n,s.length=n:=⟨_,rfl⟩;have Bd:=h_ hn;rw[hn] at ad Hn hs rV⊢;rw[Vav] at Hn;have vC:=h_ (Zg (num n) (efin (Xp (parse s) (m0,e0)).2));generalize bs s=S at*;obtain⟨l,hl⟩:∃l,parse s=l:=⟨_,rfl⟩;rw[hl] at Hp nR vC⊢;generalize bs (num n)=NS at*;clear hn hl az;go_enter Tryz.func82,Tryz.ntmps82;go_wp2_with fail;refine(Hp.o).mono ?_;rintro x w1 ⟨ov,rfl,cF,a7⟩;obtain⟨A,cap,rfl,_⟩:=Zl cF;go_wp2_with fail;refine(Hn.o _).mono ?_;rintro x w2 ⟨rfl,a8⟩;go_wp2_with fail;refine(Hs.o _).mono ?_;rintro x w3 ⟨p,rfl,I3,r7,af⟩;go_wp2_with fail;refine(He.o _).mono ?_;rintro x w4 ⟨rfl,NU,ax⟩;have s1:=a7.size;have s2:=a8.size;have s3:=af.size;have s4:=ax.size;have J9:Below w1.heap.size w1 w4:=(a8.trans (af.mono s2)).trans (ax.mono (by omega));have gO:=Zn cF (Fr.of_below (S:=nob) J9) (λ_ _ f=>f);have iD:Below w.heap.size w w4:=a7.trans (J9.mono s1);have hP:PlB w.heap.size p:=⟨by have:=r7.kb;omega,by have:=r7.kg;omega,by have:=r7.bb;omega,by have:=r7.bg;omega,by have:=r7.lb;omega,by have:=r7.lg;omega,by have:=r7.db;omega,by have:=r7.dg;omega⟩
  have yB:WrSt ((w4.alloc (.cells (setC p) 178)).alloc (.cells #[.pointer (some ⟨w3.heap.size,0,none⟩)] 153)) p w4.heap.size (w4.heap.size+1) w3.heap.size (.slice none 0 0) (m0,e0):=
    ⟨(I3.below ax).below (((Vae w4.heap.size w4).alloc UZz _).alloc (by simp) _),NU.below (((Vae w4.heap.size w4).alloc UZz _).alloc (by simp) _),(Bk.new _ _ _).alloc _,Bk.newN _ _ _ (by simp)⟩
  have yd:=(gO.alloc (.cells (setC p) 178)).alloc (.cells #[.pointer (some ⟨w3.heap.size,0,none⟩)] 153);have aH:=(iD.alloc iD.size (.cells (setC p) 178)).alloc (Vaq iD.size (by simp)) (.cells #[.pointer (some ⟨w3.heap.size,0,none⟩)] 153);have qx:=h_ yB;have sq:=h_ yd;have bE:=h_ aH;have HP:=h_ hP;have uh:w.heap.size<=w3.heap.size:=(by omega);unfold setC at qx sq bE;clear yB yd aH hP cF gO a7 a8 af ax J9 iD I3 r7 NU s1 s2 s3 s4 Hp Hn Hs He
  have hA:Hid (∀k,k<l.length->∃b,A=some ⟨b,0,none⟩):=h_ (λk hk=>by
    obtain⟨g,c2,e,_⟩:=Z5m sq.o (by omega);injection e with e1 e2 e3;exact⟨g,e1⟩)
  have ig:l.length<=1000000:=by
    have key:∀(i:Nat) (l:List Pc),Parses s i l->i+l.length<=s.length:=by
      intro i l h;induction h with
      |done=>simp
      |step h r ih=>have:=h.pos;simp only[Vaz];omega
    have:=key 0 l nR.o;rw[Bd.o] at this;omega
  go_wp2;generalize (w4.alloc (.cells #[.pointer (some ⟨p.kb,0,none⟩),.pointer (some ⟨p.bb,0,none⟩),.pointer (some ⟨p.lb,0,none⟩),.pointer (some ⟨p.db,0,none⟩)] 178)).alloc (.cells #[.pointer (some ⟨w3.heap.size,0,none⟩)] 153)=W5 at*;generalize w4.heap.size+1=cb at*;generalize w4.heap.size=mb at*;generalize w3.heap.size=eb at*;go_loopw [31] (λwY wx=>∃(k i:Nat) (dv:Value) (x:Ms×En),k<=l.length/\wY=.int .i64 (k:Int)/\Hid (WrSt wx p mb cb eb dv x)/\Hid (MOk x.1/\Val 0 x.2)/\Hid (Xp (l.drop k) x=Xp l (m0,e0))/\Hid (Parses s i (l.drop k))/\Hid (x.2.out.length<=135*i)/\Hid (wx.ownsRow w.heap.size 181 3 (.slice A l.length cap) l.length (pcCs l))/\Hid (Below w.heap.size w wx)/\Hid (∀g,dv.ownBlock=some g->w.heap.size<=g)) (λwY _=>(l.length-intOf wY).toNat);case atStart=>exact⟨0,0,_,(m0,e0),Vat _,rfl,qx,h_ ⟨ZaT,Z4f⟩,h_ rfl,nR,h_ (Vat _),sq,bE,h_ (by simp[Value.ownBlock])⟩
  case round=>
    clear qx sq bE nR;obtain⟨k,i,dv,x,hk,rfl,hW,mB,Ex,vr,dR,aX,hb,lZ⟩:=hrel;by_cases ab:k<l.length
    · obtain⟨g,rfl⟩:=hA.o k ab
      obtain⟨c1,c2,c3⟩:=ZiK aX.o ab;have jS:l.drop k=l[k]::l.drop (k+1):=Va4 ab;have sS:=vr.o;have sT:=Ex.o;rw[jS] at sS sT;obtain⟨t,ht⟩:∃t,l[k]=t:=⟨_,rfl⟩;rw[ht] at sS sT c1 c2 c3;have bH:PcOk s i t/\Parses s (i+t.len) (l.drop (k+1)):=by cases sS with|step h r=>exact⟨h,r⟩
      obtain⟨bH,C8⟩:=bH;obtain⟨o1,o2,o3⟩:=u7.o i t bH;have bU:=bH.pos;rw[Bd.o] at bU;have zD:=Z81 o1 o2 (by omega) x;have tz:=Z1d (p:=t) mB.o.1 mB.o.2;have cD:Below wr.heap.size wr (wr.alloc (.cells (pcC t) 181)):=(Vae _ _).alloc UZz _;have Hw:=Z6A (hW.o.below cD) mB.o.1 mB.o.2 t o1 o2 o3 (by have:=dR.o;omega)
      have xV := h_ (λ(w' : World) (h : Fr (XZ p eb dv) (wr.alloc (.cells (pcC t) 181)) w') => (⟨Zn (aX.o.alloc (.cells (pcC t) 181)) h (λg hg hs => by
          have hR:=aX.o;rcases hs with hs|hs|hs|hs|hs|hs|hs
          · exact Z2 hR hW.o.ms.kn (by decide) (hs▸hg)
          · exact Z2 hR hW.o.ms.bt.st (by decide) (hs▸hg)
          · exact Z2 hR hW.o.ms.bt.nd (by decide) (hs▸hg)
          · exact Z2 hR hW.o.ms.ln.2 (by decide) (hs▸hg)
          · exact Z2 hR hW.o.ms.dn.2 (by decide) (hs▸hg)
          · exact Z2 hR hW.o.en.1 (by decide) (hs▸hg)
          · exact Z9s hR hW.o.en.2 (by decide) hg hs),
        (hb.o.alloc hb.o.size (.cells (pcC t) 181)).trans (h.toBelow' (Vaq hb.o.size (by simp)) (wnew HP.o uh lZ.o))⟩:w'.ownsRow w.heap.size 181 3 (.slice (some ⟨g,0,none⟩) l.length cap) l.length (pcCs l)/\Below w.heap.size w w'))
      have xT := h_ (λ(d : Value) (h : Zo (wr.alloc (.cells (pcC t) 181)) dv d) => (λg hg => by
          rcases h with h|h
          · exact lZ.o g (h▸hg)
          · have:=h g hg
            have:=hb.o.size;simp at*;omega:∀g,d.ownBlock=some g->w.heap.size<=g))
      have Bz:Hid ((penc t x).2.out.length<=135*(i+t.len)):=h_ (by have:=dR.o;omega);have Ue:Hid (Xp (l.drop (k+1)) (penc t x)=Xp l (m0,e0)):=h_ sT;have nR:=h_ C8;have yS:=h_ tz;have dp:(k:Int)<(l.length:Int):=(by omega);have cj:(0:Int)<=(k:Int):=(by omega);have Hw:=h_ Hw;unfold pcC at Hw xV xT;clear jS sS sT ht bH C8 o1 o2 o3 bU zD tz cD hW mB Ex vr dR aX lZ;obtain⟨tl,td,tb⟩:=t;simp only at c1 c2 c3 Hw xV xT;generalize (tb.toNat:Int)=TB at*;go_wp2_with fail;refine(Hw.o).mono ?_;rintro r w6 ⟨rfl,d6,NW,qZ,NX⟩;obtain⟨zM,bY⟩:=xV.o _ qZ;have Gq:=h_ zM;have dA:=h_ bY;have Uf:=h_ (xT.o _ NX);have Ug:=h_ NW;clear qZ NX zM bY NW xV xT Hw hb;go_wp2;refine⟨⟨k+1,_,d6,_,ab,by go_num,Ug,yS,Ue,nR,Bz,Gq,dA,Uf⟩,?_⟩;simp[intOf]<;>omega
    · have bK:k=l.length:=by omega
      subst bK
      have hx:x=Xp l (m0,e0):=by
        have:=Ex.o;rw[Vcm] at this;exact this
      have xO:i<=n:=by
        have key:∀(i:Nat) (l:List Pc),Parses s i l->i<=s.length:=by
          intro i l h;cases h with
          |done=>exact UZz
          |step h r=>have:=h.pos;omega
        have:=key _ _ vr.o;rw[Bd.o] at this;exact this
      have Hf:=Z1A hW.o.en mB.o.2.low (by have:=dR.o;omega);rw[hx] at Hf;have Hf:=h_ Hf;have c4:=hW.o.cc.cell 0;simp at c4
      have tC:(bs (efin (Xp l (m0,e0)).2)).size<=1000000:=by
        rw[Z0];unfold efin;rw[<-hx,Vab];have:=dR.o;have e4:(be 4 x.2.low).length=4:=(by rw[be4];rfl);omega
      generalize bs (efin (Xp l (m0,e0)).2)=FS at*;clear hx hW mB Ex vr dR aX lZ;go_wp2_with fail;refine(Hf.o).mono ?_;rintro r w6 ⟨rfl,bY⟩;have dA:=h_ (hb.o.trans (bY.mono hb.o.size));clear bY hb;go_wp2;go_returns;exact⟨by rw[<-vC.o];rfl,dA.o⟩
theorem ZcZ (w:World):
  Calls Tryz.prog 82 #[.string (bs [])] w λx w'=>x=.returned (.tuple #[.string (bs (num 0)),.int .i64 0])/\Below w.heap.size w w':=by
 have Hp:=h_ (Z29 [] (Vat _) w);have ad:(bs ([]:List UInt8)).size=0:=rfl;have cB:=Xl [];rw[Vao rfl] at cB;have Hn:=h_ (λW=>Zh 0 (by omega) (by omega) W);have e0:(0:Int).toNat=0:=rfl;rw[e0] at Hn;generalize bs []=S at*;generalize parse []=l at*;generalize bs (num 0)=NS at*;go_enter Tryz.func82,Tryz.ntmps82;go_wp2_with fail;refine(Hp.o).mono ?_;rintro x w1 ⟨ov,rfl,cF,a7⟩;obtain⟨A,cap,rfl,_⟩:=Zl cF;go_wp2_with fail;refine(Hn.o _).mono ?_;rintro x w2 ⟨rfl,a8⟩;have aS:=h_ (a7.trans (a8.mono a7.size));clear cF a7 a8;go_wp2;go_returns;exact⟨rfl,aS.o⟩
theorem Z6G (s:List UInt8) (hs:4096<s.length) (cV:s.length<=1000000000) (w:World):
  Calls Tryz.prog 82 #[.string (bs s)] w λx w'=>x=.returned (.tuple #[.string (bs []),.int .i64 9])/\Below w.heap.size w w':=by
 have Hp:=h_ (Z42 s hs cV w);have he:bs ([]:List UInt8)=⟨#[]⟩:=rfl;rw[he];generalize bs s=S at*;clear he;go_enter Tryz.func82,Tryz.ntmps82;go_wp2_with fail;refine(Hp.o).mono ?_;rintro x w1 ⟨rfl,a7⟩;go_wp2;go_returns;exact⟨rfl,a7⟩
def optV (o:Option (List UInt8)):Value:=match o with
 |some t=>.tuple #[.string (bs t),.int .i64 0]
 |none=>.tuple #[.string (bs []),.int .i64 9]
theorem Z0V (s:List UInt8) (hs:s.length<=1000000000) (w:World):
  Calls Tryz.prog 82 #[.string (bs s)] w λx w'=>x=.returned (optV (lzE s))/\Below w.heap.size w w':=by
 unfold lzE;by_cases h:4096<s.length
 ·rw[Vaf h];exact Z6G s h hs w
 ·rw[Vad h];by_cases h0:s=[]
  ·subst h0;rw[Vaf rfl,Va3];exact ZcZ w
  ·rw[Vad h0];exact ZcY s (by omega) h0 w
end Go.Proofs.YtchokmkfobandaaGreatDoor
