import Derived.Test.YtnjkjoklnephcaaGreatDoorJ46
set_option linter.all false
set_option maxRecDepth 100000
set_option maxHeartbeats 0
open Go.Proofs.Tryz (prog underlying3)
namespace Go.Proofs.Y
open Wv Go.RowKit
theorem ZbS:prog.underlying 40=some (.struct (prog.fieldsOf 40)):=dw
theorem Zjp:prog.stoodInHeld 40=false:=dw
theorem Zjq:∃f0 f1,(prog.fieldsOf 40).toList=[f0,f1]/\f0.name≠ "_" /\f1.name≠ "_" /\f0.type=3/\f1.type=3/\f0.offset=0/\f1.offset=1:=
 ⟨(prog.fieldsOf 40)[0]!,(prog.fieldsOf 40)[1]!,dw,of_decide_eq_true dw,of_decide_eq_true dw,dw,dw,dw,dw⟩
theorem q_ (x y:Int) (W:aq):(binOp .neq 40 (.agg #[x,y]) (.agg #[x,y])).run prog W=.ok (.bool false) W:=by rw[run_neq_struct,run_equalIn_agg _ _ _ _ _ ZbS Zjp];obtain⟨f0,f1,h,k,n1,t0,t1,g,I⟩:=Zjq;exact P7
theorem Ui (op:BinOp) (a b:Operand) (g k:Array aI) (W:aq):(eqGuard op 40 a b (.agg g) (.agg k)).run prog W=.ok () W:=run_eqGuard_agg _ _ _ _ _ _ _ dw
theorem TO {w:aq} {h:Hd} {AQ AG AS BQ BG BS:bN} {a7 kg ks jq jg js:Nat} (c9:gZ w h AQ AG AS) (hb:gZ w h BQ BG BS) (q4:h.quiet.length<=9223372036854775807) (d8:h.gaps.length<=9223372036854775807) (f3:h.strs.length<=9223372036854775807):
  Calls prog 21 #[.agg (di h AQ a7 AG kg AS ks),.agg (di h BQ jq BG jg BS js)] w (bM w true):=by
 have b4:=(bf w w).alloc aU (.cells (di h AQ a7 AG kg AS ks) 42);have a6:=b4.alloc b4.size (.cells (di h BQ jq BG jg BS js) 42);have k2:=(Bk.new w 42 (di h AQ a7 AG kg AS ks)).alloc (.cells (di h BQ jq BG jg BS js) 42);have k3:=Bk.new (w.alloc (.cells (di h AQ a7 AG kg AS ks) 42)) 42 (di h BQ jq BG jg BS js);simp only[World.size_alloc] at k3;obtain⟨W,c8⟩:=ay ((w.alloc (.cells (di h AQ a7 AG kg AS ks) 42)).alloc (.cells (di h BQ jq BG jg BS js) 42));rw[c8] at a6 k2 k3;have c5:=J a6;have a8:=c9.below a6;have aa:=hb.below a6;obtain⟨c4,b1,b2,d2,d3,b5⟩:=fA (UF a8.g aa.g h.gaps kg jg rfl d8) (λV (x:Below W W V)=>a8.q.below x) (λV (x:Below W W V)=>aa.q.below x) (λV (x:Below W W V)=>a8.s.below x) (λV (x:Below W W V)=>aa.s.below x) (λV (x:Below W W V)=>Zg (k2.below x k2.lt));obtain⟨b0,b8,c3⟩:=bD (λV (x:Below W W V)=>Zg (k3.below x k3.lt)) k2.lt k3.lt;obtain⟨y,z,B,D,E,F,G,I,M⟩:=Zg k2;obtain⟨Q,R,S,a0,a1,a2,a3,a4,a5⟩:=Zg k3;have l2:=k2.lt;have u:=k3.lt;have f2:=λa b V=>q_ a b V;have e9:=λop a b e7 e8 V=>Ui op a b e7 e8 V;obtain⟨f,t,lv,sp,gaps,quiet,off,sn,strs⟩:=h;simp only at*;clear c9 hb b4 a6 k2 k3 a8 aa;go_in;go_wp21;refine aP c4.o λw1 c6=>?_;have p:=J c6;clear y z B D E F G I M Q R S a0 a1 a2 a3 a4 a5 l2 u c6 c4 c8;obtain⟨y,z,B,D,E,F,G,I,M⟩:=b5.o _ p.o;obtain⟨Q,R,S,a0,a1,a2,a3,a4,a5⟩:=b0.o _ p.o;have l2:=eg b8.o p.o.size;have u:=eg c3.o p.o.size;go_wp2;go_loopw [5] (λb6 wr=>∃k:Nat,k<=quiet/\b6=k/\Hid (Below W W wr)) (λb6 _=>(quiet.length-intOf b6).toNat);exact⟨0,cf _,rfl,p⟩;clear y z B D E F G I M Q R S a0 a1 a2 a3 a4 a5 l2 u p;obtain⟨k,d9,rfl,l⟩:=hrel;obtain⟨y,z,B,D,E,F,G,I,M⟩:=b5.o _ l.o;obtain⟨Q,R,S,a0,a1,a2,a3,a4,a5⟩:=b0.o _ l.o;have l2:=eg b8.o l.o.size;have u:=eg c3.o l.o.size;by_cases ab:k<quiet
 .obtain⟨d4,e5,rfl,e3,c0⟩:=Q8 (b1.o _ l.o) k ab;obtain⟨d5,e6,rfl,e4,d0⟩:=Q8 (b2.o _ l.o) k ab;have d6:(0:Int)<=k:=O;have d7:(k:Int)<quiet:=O;have b9:=J (λq=>l.o.trans ((Xc wr q).mono l.o.size));generalize quiet[k]=q at*;clear l;go_wp2;go_quiet (fail)
  cases q<;>(
   go_wp2;refine⟨⟨k+1,ab,ci,J (b9.o _)⟩,?_⟩;simp[intOf]<;>omega)
 have b3:k=quiet:=O;subst b3;go_wp2;go_loopw [6] (λb7 wr=>∃k:Nat,k<=strs/\b7=k/\Hid (Below W W wr)) (λb7 _=>(strs.length-intOf b7).toNat);exact⟨0,cf _,rfl,l⟩;clear y z B D E F G I M Q R S a0 a1 a2 a3 a4 a5 l2 u l;obtain⟨k,d9,rfl,l⟩:=hrel;obtain⟨y,z,B,D,E,F,G,I,M⟩:=b5.o _ l.o;obtain⟨Q,R,S,a0,a1,a2,a3,a4,a5⟩:=b0.o _ l.o;have l2:=eg b8.o l.o.size;have u:=eg c3.o l.o.size;by_cases ab:k<strs;.obtain⟨d4,e5,rfl,e3,c0,c1⟩:=ZV (d2.o _ l.o) k ab;obtain⟨d5,e6,rfl,e4,d0,c7⟩:=ZV (d3.o _ l.o) k ab;have d6:(0:Int)<=k:=O;have d7:(k:Int)<strs:=O;have b9:=J (λq=>l.o.trans ((Xc wr q).mono l.o.size));obtain⟨⟨a,b⟩,zU⟩:=ay strs[k];rw[zU] at c0 c1 d0 c7;simp only at c0 c1 d0 c7;clear l zU;go_wp2;go_quiet (fail);go_wp2;refine⟨⟨k+1,ab,ci,J (b9.o _)⟩,?_⟩;simp[intOf]<;>omega
 have b3:k=strs:=O;subst b3;go_wp2;go_returns;exact⟨rfl,c5.o.trans (l.o.mono c5.o.size)⟩
end Go.Proofs.Y
namespace Wv
open Go.Proofs.Y
variable{data:ax}{n:Int}{st:List (Int×Int)}
abbrev lU (s:ax) (n:Int):ca:=⟨s,n,11,0,[]⟩
theorem ZoX {h:Hd} (k:fN st=true) (g:iR st data=some h) (h1:1<=n):
  (n<=(nK st (lU data n)).2.calls/\(nK st (lU data n)).1=(none,11))\/((nK st (lU data n)).2.calls<n/\(nK st (lU data n)).1=(some h,0)):=by rw[ZkS (D:=lU data n) k g rfl rfl (.inl ⟨(aY:(11:Nat)≠0),(aY:(11:Nat)≠2)⟩)];grind
theorem ZoW {h:Hd} {i:Nat} {l:List dO} (k:gV st h=true) (hi:i<st) (h0:h.lv=0) (g:eM st data h i=(l,0)) (h1:1<=n):
  (n<=(iN st (lU data n) h i).2.calls/\(iN st (lU data n) h i).1=([],11))\/((iN st (lU data n) h i).2.calls<n/\(iN st (lU data n) h i).1=(l,0)):=by rw[T_ (D:=lU data n) k hi h0 g (.inl ⟨(aY:(11:Nat)≠0),(aY:(11:Nat)≠2)⟩)];have q:=(HJ (lU data n) (h.off,(h.sn:Int))).2.2.2;have t:=(HJ (kC (lU data n) (h.off,(h.sn:Int))) (h.strs.getD i (0,0))).2.2.2;have kc:(lU data n).calls=0:=rfl;have u:(lU data n).fail=n:=rfl;by_cases p:h.quiet.getD i false=true;exact aO;rw[aD p];by_cases c1:h.sn≠0/\(lU data n).calls+1=(lU data n).fail;rw[aQ c1];exact .inl ⟨by simp only[D8];omega,rfl⟩;rw[aD c1];by_cases c2:(h.strs.getD i (0,0)).2≠0/\(kC (lU data n) (h.off,(h.sn:Int))).calls+1=(lU data n).fail;rw[aQ c2];exact .inl ⟨by simp only[D8];omega,rfl⟩;grind
end Wv
namespace Go.Proofs.Y
open Wv Go.RowKit
variable{data:ax}{i:Nat}{st:List (Int×Int)}
theorem T3 {D:ca} {h:Hd} {v:aT} :(um st D h i v).2.calls<=D.calls+1/\(um st D h i v).2.parts<=D.parts.length+1:=by have k:=zl D (h.strs.getD i (0,0));unfold um;split;exact⟨k.2.2.2.2.2.1,k.2.2.2.2.1⟩;exact⟨k.2.2.2.2.2.1,k.2.2.2.2.1⟩
theorem ZcY {D:ca} {h:Hd} {i:Int} :(iN st D h i).2.calls<=D.calls+2/\(iN st D h i).2.parts<=D.parts.length+2:=by obtain⟨_,g,l,_⟩:=Zqh (st:=st) (D:=D) (h:=h);unfold iN;split;exact Ao;split;exact Ao;split;exact Ao;split;exact Ao;split;split;exact Ao;have k:=T3 (st:=st) (D:=(gE st D h).2) (h:=h) (i:=i.toNat) (v:=jU (gE st D h).1.1 i.toNat);exact⟨O,O⟩;have k:=T3 (st:=st) (D:=D) (h:=h) (i:=i.toNat) (v:=⟨#[]⟩);exact⟨O,O⟩
theorem ZoR {h:Hd} {l:List dO} (p:gV st h=true) (hi:i<st) (g:eM st data h i=(l,0)) (m:Nat):
  (iN st (fK (data.take m)) h i).1=([],12)\/(iN st (fK (data.take m)) h i).1=(l,0):=by obtain⟨_,_,e⟩:=HC (D:=fK (data.take m)) ⟨Int.le_refl _,rfl⟩ p hi;rw[e];rcases ZlP st data m h i with k|k;exact .inl k;exact .inr (k.trans g)
theorem ZoS {h:Hd} {v:a'} (g:gV st h=true) (q:hP st data h=some v) {D:ca} {m:Nat} (l:qn D) (p:D.s=data.take m):
  (gE st D h).1=([],12)\/(gE st D h).1=(v,0):=by obtain⟨_,_,e⟩:=Mr l g;rw[e,p];rcases VP st data m h with k|k;rw[k];exact .inl rfl;rw[k,q];exact .inr rfl
end Go.Proofs.Y
namespace Wv
open Go Go.RowKit Go.Deep Go.ChangeShapes Go.WideShapes
section
variable {H:Type} {enc:TypeId×aI->H} {P:Program} {w:aq} {base:Nat} {spare:Nat->Bool} {held:Bool}
theorem Zqd {n:Int} (h:(Lit.int .u16 n).wf=true):0<=n/\n<65536:=by simp[Lit.wf,IntKind.min,IntKind.max,IntKind.signed,IntKind.bits] at h;omega
end
end Wv
namespace Go.Proofs.Y
open Wv Go.RowKit
variable{AG AQ AS BG BQ BS:bN}{i:Nat}
abbrev zH:Hd:=⟨0,0,0,0,[],[],0,0,[]⟩
theorem Ga {w w':aq} {D:ca} (h:wX w D w'):Below w w w'/\w'.cell? (w,3)=D.calls/\w<w'.heap.size:=by obtain⟨hb,v,g⟩:=h;exact⟨hb,g.bk.cell 3,g.bk.lt⟩
section
variable {w:aq} {A:bN} {st:List (Int×Int)} {data:ax} {h:Hd} {m:Int}
theorem Zmt (E:fN st=true) (B:iR st data=some h) (h1:1<=m) (u:data.length<=1000000000) (y:At w A (pv st)) (n cap:Nat) (z:n=st) (q:n<=9223372036854775807):
  cK 15 #[(A,n,cap),sL w] (w.alloc (rc (lU data m))) λx w'=>∃g e k AQ l AG kg AS ks,x=.returned (.tuple #[.agg (di g AQ l AG kg AS ks),.int .i64 e])/\gZ w' g AQ AG AS/\(Below w w w'/\w'.cell? (w,3)=some (.int .i64 k)/\w.heap.size<w'.heap.size)/\(m<=k/\e=11/\g=zH\/k<m/\e=0/\g=h):=by refine(GJ (D:=lU data m) rfl rfl u y n cap z q).mono ?_;rintro x w' ⟨p,g⟩;rcases ZoX E B h1 with ⟨k1,k2⟩|⟨k1,k2⟩;rw[k2] at g;exact⟨zH,11,_,none,0,none,0,none,0,g,⟨At.nil _ _,At.nil _ _,At.nil _ _⟩,Ga p,.inl ⟨k1,rfl,rfl⟩⟩;rw[k2] at g;obtain⟨AQ,l,AG,kg,AS,ks,g,t⟩:=g;exact⟨h,0,_,AQ,l,AG,kg,AS,ks,g,t,Ga p,.inr ⟨k1,rfl,rfl⟩⟩
theorem y' (g:gV st h=true):fN st=true/\h.quiet=st.length/\h.strs=st.length:=by unfold gV at g;grind
theorem Mi (l:gV st h=true) (hi:i<st) (g:gZ w h AQ AG AS):∀b o,AQ=some ⟨b,o,none⟩\/AS=some ⟨b,o,none⟩->b≠w.heap.size:=λb o e=>by obtain⟨_,f1,t⟩:=y' l;rcases e with e|e;obtain⟨k,p,e',lt,_⟩:=Q8 g.q i O;exact EK;obtain⟨k,p,e',lt,_⟩:=ZV g.s i O;exact EK
theorem Zqz (t:gV st h=true) (hi:i<st) (h0:h.lv=0) (S:h.sp=0) {l:List dO} (M:eM st data h i=(l,0)) (h1:1<=m) (G:data.length<=1000000000) (I:At w A (pv st)) (R:gl w) (n cap:Nat) (Q:n=st) (F:n<=9223372036854775807) (E kg ks:Nat) (z:gZ w h AQ AG AS):
  cK 19 #[(A,n,cap),sL w,.agg (di h AQ E AG kg AS ks),i] (w.alloc (rc (lU data m))) λx w'=>∃q e k A1 k1,x=.returned (.tuple #[.slice A1 q.length k1,.int .i64 e])/\At w' A1 (cv q)/\(Below w w w'/\w'.cell? (w,3)=some (.int .i64 k)/\w.heap.size<w'.heap.size)/\(m<=k/\e=11/\q=[]\/k<m/\e=0/\q=l):=by obtain⟨_,f1,a0⟩:=y' t;refine(MA (D:=lU data m) rfl rfl G I R n cap Q F h h0 S E kg ks z O O (Mi t hi z) i).mono ?_;rintro x w' ⟨B,A1,k1,p,g⟩;rcases ZoW t hi h0 M h1 with ⟨u,y⟩|⟨u,y⟩;rw[y] at p g;exact⟨[],11,_,A1,k1,p,g,Ga B,.inl ⟨u,rfl,rfl⟩⟩;rw[y] at p g;exact⟨l,0,_,A1,k1,p,g,Ga B,.inr ⟨u,rfl,rfl⟩⟩
abbrev MW (w:aq):aq->ca->(Nat->Prop)->Prop:=λW D T=>∃v,oa W w w D v/\w.heap.size<=W.heap.size/\D.s.length<=1099511627776/\-1<=D.calls/\T=uw w v/\Below w w W
theorem ZoK (p:gV st h=true) (hi:i<st) (h0:h.lv=0) (a3:h.sp=0) {l:List dO} (a0:eM st data h i=(l,0)) (m:Nat) (a5:data.length<=1000000000) (S:At w A (pv st)) (a2:gl w) (n cap:Nat) (a1:n=st) (I:n<=9223372036854775807) (B kg ks:Nat) (z:gZ w h AQ AG AS):
  cK 19 #[(A,n,cap),sL w,.agg (di h AQ B AG kg AS ks),i] (w.alloc (rc (fK (data.take m)))) λx w'=>∃q e D T A1 k1,x=.returned (.tuple #[.slice A1 q.length k1,.int .i64 e])/\Below w w w'/\At w' A1 (cv q)/\(MW w w' D T/\∀b o,A1=some ⟨b,o,none⟩->¬T b)/\(qn D/\D.s=data.take m/\D.calls<=500/\D.parts.length<=500)/\(e=12/\q=[]\/e=0/\q=l):=by obtain⟨_,f1,a4⟩:=y' p;have y:(data.take m).length<=1000000000:=vO;refine(Ro (DG w) (Gb w (D:=fK (data.take m)) rfl rfl y) (show(fK (data.take m)).calls<=500 from(aY:(0:Int)<=500)) (cf _) y S a2 n cap a1 I h h0 a3 B kg ks (z.below ((bf _ _).alloc aU _)) (λb o e k=> ?_) O O i).mono ?_;rcases k with k|k;exact Mi p hi z b o e k;cases k;rintro x w' ⟨v,hx,Y,T,⟨A1,k1,rfl,g,R⟩,hy,t,dp,hT,ab⟩;obtain⟨E,F,_⟩:=HC (D:=fK (data.take m)) ⟨Int.le_refl _,rfl⟩ p hi;obtain⟨c1,c2⟩:=ZcY (st:=st) (D:=fK (data.take m)) (h:=h) (i:=i);have M:(iN st (fK (data.take m)) h i).2.calls<=2:=c1;have Q:(iN st (fK (data.take m)) h i).2.parts.length<=2:=c2;have u:Below w w w':=(by obtain⟨_,_,_,_,_,_,k⟩:=t;exact k);have G:∀b o,A1=some ⟨b,o,none⟩->¬T b:=λb o e k=>(by have:=R b o e;have:=ab b k;omega);rcases ZoR p hi a0 m with j|j;rw[j] at hx g;exact⟨[],12,_,T,A1,k1,hx,u,g,⟨t,G⟩,⟨E,F,O,O⟩,.inl ⟨rfl,rfl⟩⟩;rw[j] at hx g;exact⟨l,0,_,T,A1,k1,hx,u,g,⟨t,G⟩,⟨E,F,O,O⟩,.inr ⟨rfl,rfl⟩⟩
theorem Zqi (l:gV st h=true) {v:a'} (R:hP st data h=some v) {m:Nat} {D:ca} {W:aq} {T:Nat->Prop} (E:MW w W D T) (B:qn D/\D.s=data.take m/\D.calls<=500/\D.parts.length<=500) (a2:data.length<=1000000000) (I:At w A (pv st)) (Q:gl w) (n cap:Nat) (M:n=st) (y:n<=9223372036854775807) (AQ AG AS:bN) (q kg ks:Nat) {L:bN} {t:List aI} (F:At W L t) (G:∀b o,L=some ⟨b,o,none⟩->¬T b):
  cK 17 #[(A,n,cap),sL w,.agg (di h AQ q AG kg AS ks)] W λx w'=>∃g e A1 k1,x=.returned (.tuple #[.slice A1 g k1,.int .i64 e])/\Below w w w'/\At w' L t/\(e=12/\g=0\/e=0/\g=v.length):=by obtain⟨z,k,S,a0⟩:=B;obtain⟨_,f1,a1⟩:=y' l;refine(Q9 (DG w) E O O (by rw[k,ek];omega) I Q n cap M y h AQ q AG kg AS ks O O).mono ?_;rintro x w' ⟨u,hx,⟨A1,k1,rfl,_⟩,hr⟩;have hb:=(HD hr).1;have p:=hr.at_ F G;rcases ZoS l R z k with j|j;rw[j] at hx;exact⟨0,12,A1,k1,hx,hb,p,.inl ⟨rfl,rfl⟩⟩;rw[j] at hx;exact⟨_,0,A1,k1,hx,hb,p,.inr ⟨rfl,rfl⟩⟩
theorem ZpR {g l:List dO} (e:g=l) {X Y:bN} (h1:At w X (cv g)) (p:At w Y (cv l)) (k1 k2:Nat) (k:l.length<=9223372036854775807):cK 20 #[(X,g.length,k1),(Y,l.length,k2)] w (bM w true):=by subst e;have:=TK h1 p g k1 g k2 rfl rfl k k;rw[dd (show g=g from rfl)] at this;exact this
theorem ZpS {g:Hd} (e:g=zH) (jq jg js:Nat) (h1:gZ w g BQ BG BS):cK 21 #[.agg (di g BQ jq BG jg BS js),.agg il] w (bM w true):=by subst e;exact TO (h:=zH) (BQ:=none) (BG:=none) (BS:=none) (jq:=0) (jg:=0) (js:=0) h1 ⟨At.nil _ _,At.nil _ _,At.nil _ _⟩ aY aY aY
theorem ZpQ {g:Hd} (e:g=h) (jq jg js p kg ks:Nat) (h1:gZ w g BQ BG BS) (l:gZ w h AQ AG AS) (q4:h.quiet.length<=9223372036854775807) (k:h.gaps.length<=9223372036854775807) (q:h.strs.length<=9223372036854775807):cK 21 #[.agg (di g BQ jq BG jg BS js),.agg (di h AQ p AG kg AS ks)] w (bM w true):=by subst e;exact TO h1 l q4 k q
end
