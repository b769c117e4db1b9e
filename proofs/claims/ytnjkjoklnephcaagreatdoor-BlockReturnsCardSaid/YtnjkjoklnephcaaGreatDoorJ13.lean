import Derived.Test.YtnjkjoklnephcaaGreatDoorJ10
set_option linter.all false
set_option maxRecDepth 100000
set_option maxHeartbeats 0
open Go.Proofs.Tryz (prog underlying123 underlying23 underlying312 underlying332 underlying9)
section
variable{P Q:Prop}
theorem yO(h:P:=by simp[bQ]):P:=h
theorem qF(h:P:=by rw[Z0];omega):P:=h
theorem Fm(h:P:=by rw[dc];exact F):P:=h
theorem im(h:P:=by rw[<-I.o];exact ab):P:=h
theorem FA(h:P:=by rw[<-E.o];exact ab):P:=h
theorem Fy(h:P:=by rw[<-I.o];exact aW):P:=h
theorem Fz(h:P:=by rw[<-E.o];exact aW):P:=h
theorem E8(h:P:=by obtain⟨A,cap,q,M⟩:=Zi h;exact⟨A,cap,q,M⟩):P:=h
theorem RB(h:P:=by obtain⟨u,hu,rfl⟩:=iV.1 q;have:=h2 u hu;omega):P:=h
theorem Jg(h:P:=by clear aa;go_wp2;go_returns;rw[F.o];exact Qv 2 D.o):P:=h
theorem Rh(h:P:=by have:=u.o;rw[bT];unfold bD at this⊢;rw[jv];exact this):P:=h
theorem Pj(h:P:=by clear M F;go_in;go_wp21;refine(H.o).mono ?_;rintro x w1 ⟨v,rfl,hi,hb⟩;go_wp2;go_returns;exact⟨v,rfl,hi,hb⟩):P:=h
theorem O2(h:P:=by go_in;go_wp21;refine aO k.o λw1 z=>?_;go_wp21;refine aO (g.o _ z) λw2 aa=>?_;have hb:=z.trans (aa.mono z.size);go_wp2;go_returns;exact F.o _ hb):P:=h
theorem Ol(h:P:=by have an:=Z9Y a0;unfold Instr.lookup;simp only[Sem.run_bind,Sem.run_pure,run_underlying ht,Result.andThen_ok,MapKept.run_getObj_map h,LV hk,MapKept.run_findKey hk an];rfl):P:=h
theorem Ns(h:P:=by
 go_wp2_with (
  at_builtin;refine wpList_append_own_at _ rfl (.tmp 41) (.tmp 46) _ rfl w1 315 i0 (.agg #[(0:Int),(0:Int)]) 2 16 underlying312 hi z t B rfl (by omega) (.slice A4 X a1) X (pv X) (by rfl) (d3.o.alloc _) ⟨wr,0,none⟩ 1 1 [iv (q:Int),iv 1] (by rfl) rfl (Zaf _ _ _ _) (by simp[Value.oneCell',iv]) S a0 (cp D (by simp)) ?_;intro v' w2 p g _ I;have u:=J p;have l:=J g;clear p g I);have Q:=(F.o.alloc (.cells #[q,(1:Int)] 315)).grown l.o (λe=>Q7 d3.o F.o e.symm);have b4:Below w1 w1 w2:=(y.o.alloc D (.cells #[q,(1:Int)] 315)).grown l.o (cp D (by simp)) (λj a4=>(d3.o.lt j a4).1);have G:=(Ha.o.below M.o).below b4;have R:w2.ownsRow w1 315 2 v' (X++[((q:Int),(1:Int))]) (pv (X++[((q:Int),(1:Int))])):=by have:=u.o;rw[bT,QN];exact this
 go_wp2;go_roundw;case rel=>exact⟨k+1,by omega,by go_num,by rw[b9.o,E.o];exact R,Q,G,b4⟩
 simp[intOf]<;>omega):P:=h
end
namespace Go.Proofs.Y
open Wv Go.RowKit
variable{A:bS}{l:List Int}{w:au}
theorem Z2h (M:At w A (bQ l)) (n cap:Nat) (F:n=l) (a1:n<=9223372036854775807) (hb:lm l≠0):
  Calls prog 262 #[(A,n,cap),.func (.func 265) #[] #[]] w λx w'=>vL w x w' ([],lm l):=Np
theorem Z2W {l:List Nat} (d4:At w A (bQ (l.map Int.ofNat))) (n cap:Nat) (d5:n=l) (e5:l.length<=4096) (d6:∀v∈l,v<4096):
  Calls prog 262 #[(A,n,cap),.func (.func 265) #[] #[]] w λx w'=>vL w x w' (Yb r0 l,0):=by obtain⟨Ha,Q,B⟩:=bF d4 d5 d6;have f3:n<=4096:=O;have f2:¬(4096:Int)<n:=O;obtain⟨e6,f8,c7⟩:=bF (T_ w) (λ(v:Nat) (h:v<4096)=>show v∈r0 from List.mem_range.2 h) (show r0.length=4096 from rp);clear d4 d5 d6 e5;go_in;go_wp2;go_loop [7,19] (λ_ i=>∃k:Nat,k<=n/\i=k) (λ_ i=>(n-intOf i).toNat);exact CA;obtain⟨k,f7,rfl⟩:=hrel;by_cases ab:k<n;exact NZ;have e3:k=n:=O;subst e3;go_wp21;refine aO e6.o λw1 ⟨c5,c3⟩=>?_;have e1:=c3.size;have c9:=Y4 (P:=prog) 123 3 _ _ underlying123 Y1 rfl (k:Int) k rfl O O w1;rw[<-Kx] at c9;have d3:=Ha.o.below c3;have f5:=c5.lt;have c8:=c5.alloc (.cells (nc (List.replicate k 0)) 3);have aa:=c3.alloc e1 (.cells (nc (List.replicate k 0)) 3);have d7:=d3.alloc (.cells (nc (List.replicate k 0)) 3);have d2:=Bk.new w1 3 (nc (List.replicate k 0));have M:=J (show w.heap.size<w1/\w≠w1.heap.size from⟨O,O⟩);clear c5 c3 d3;go_wp2;go_loopw [8,10,11,12,13,36] (λe8 _ _ _ _ i wr=>∃j:Nat,j<=k/\i=j/\e8=.slice (some (w,0)) 4096 4096/\Bk wr w 3 (nc (wI r0 (l.take j)))/\Bk wr w1 3 (nc (Yb r0 (l.take j)++List.replicate (k-j) 0))/\At wr A (bQ (l.map Int.ofNat))/\Below w w wr) (λ_ _ _ _ _ i _=>(k-intOf i).toNat);exact⟨0,O,rfl,rfl,c8,d2,d7,aa⟩;clear c8 d2 d7 aa c9;obtain⟨j,f6,rfl,rfl,F,g,I,E⟩:=hrel;have a7:∀m∈l.take j,m<4096:=λm c6=>B.o m (Aj c6);by_cases e4:j<k;have a8:j<l:=(by rw[<-Q.o];exact e4);obtain⟨v,q⟩:=ay (l.getD j 0);have a5:v<4096:=Px;obtain⟨g0,g4,S,y,b0⟩:=I.get j (v:Int) O';subst S;obtain⟨D,a3⟩:=Z62 (l.take j) v r0;rw[<-q,<-SQ l j a8,q] at D a3;have G:=Xu (l.take j) r0;rw[eC,Nat.min_eq_left O] at G;have a1:(wI r0 (l.take j)).length=4096:=(Znu (l.take j) r0 (λm c6=>by rw[c7.o];exact a7 m c6)).trans c7.o;have a9:True:=trivial;obtain⟨R,t⟩:=ay (wI r0 (l.take j));obtain⟨b9,z⟩:=ay (Yb r0 (l.take j));rw[t] at D a3 F a1;rw[z] at D g G;have b7:=J (Z7L F a1 v a5);obtain⟨c4,d8⟩:=ay (R.getD v 0);rw[d8] at D b7;clear d8;obtain⟨b6,b8,f9⟩:=bF D a3 F;have a6:=Wt b9 k c4 O;rw[G] at a6;have e2:=J a6;have a4:=g.put j (.int .i64 ((c4:Nat):Int));rw[vg,e2.o] at a4;have b5:(b9++List.replicate (k-j) 0).length=k:=Cu;obtain⟨d9,f4⟩:∃d9:Int,wr.cell? (w1,j)=d9:=⟨_,by rw[g.cell,Xm _ _ O]⟩;have e9:=g.frozen j;have b1:=F.off (p:=⟨w1,j,none⟩) (M.o.2) (.int .i64 ((c4:Nat):Int));have b4:=E.setCell (p:=⟨w1,j,none⟩) (IJ M.o.1) (.int .i64 ((c4:Nat):Int));obtain⟨b2,a0,a2⟩:=bF (Ws b1 a1 v (by exact a5)) a4 b4;exact N7;have e7:j=k:=O;subst e7;have u:l.take j=l:=dU (by rw[<-Q.o];exact aW);rw[u,fv,List.replicate_zero,fu] at g;have b3:=J g.at_;have G:=J (Xu l r0);exact NW
theorem RL (h:∀n∈l,0<=n/\n<4096):(l.map Int.toNat).map Int.ofNat=l:=by rw[qy];refine(List.map_congr_left λn g=> ?_).trans (List.map_id l);exact Int.toNat_of_nonneg (h n g).1
theorem Zbl (p:At w A (bQ l)) (n cap:Nat) (F:n=l) (t:n<=9223372036854775807):
  dt 262 #[(A,n,cap),.func (.func 263) #[] #[]] w λx w'=>vL w x w' (front l):=by by_cases g:lm l=0;obtain⟨h1,h2⟩:=GK g;have e:=RL h2;have k:front l=(Yn r0 (l.map Int.toNat),0):=(by unfold front;rw[aP g]);rw[k];exact Z5a (by rw[e];exact p) n cap Fm (by rw[dc];exact h1) (λv q=>RB);have k:front l=([],lm l):=(by unfold front;rw[az g]);rw[k];exact Z41 p n cap F t g
theorem Z6E (p:At w A (bQ l)) (n cap:Nat) (F:n=l) (t:n<=9223372036854775807):
  dt 262 #[(A,n,cap),.func (.func 265) #[] #[]] w λx w'=>vL w x w' (ZW l):=by by_cases g:lm l=0;obtain⟨h1,h2⟩:=GK g;have e:=RL h2;have k:ZW l=(Yb r0 (l.map Int.toNat),0):=(by unfold ZW;rw[aP g]);rw[k];exact Z2W (by rw[e];exact p) n cap Fm (by rw[dc];exact h1) (λv q=>RB);have k:ZW l=([],lm l):=(by unfold ZW;rw[az g]);rw[k];exact Z2h p n cap F t g
theorem ZbW (M:At w A (bQ l)) (n cap:Nat) (F:n=l) (g:n<=9223372036854775807):
  Calls prog 234 #[(A,n,cap)] w λx w'=>vL w x w' (front l):=by have H:=J (Zbl M n cap F g);generalize front l=r at*;exact Pj
theorem Z7f (M:At w A (bQ l)) (n cap:Nat) (F:n=l) (g:n<=9223372036854775807):
  Calls prog 235 #[(A,n,cap)] w λx w'=>vL w x w' (ZW l):=by have H:=J (Z6E M n cap F g);generalize ZW l=r at*;exact Pj
def bD (l:bd):List aJ:=l.map sv
theorem YD (l:bd) (i:Nat) (h:i<l):(bD l)[i]? =some (.string l[i]):=by simp[bD,sv,fD h]
theorem ZeD (s:aS) (g:s.size<=9223372036854775807) (w:au):
  Calls prog 231 #[s] w λx w'=>x=.returned (decide (128<s.size))/\w=w':=by have h:=J (show decide ((128:Int)<s.size)=decide (128<s.size) from by rw[lO,fE,fE];omega);go_in;go_wp2;go_ret;exact⟨Z4 h.o,rfl⟩
def Zqx (w:au) (L:Bool) (x:Ending) (w':au):Prop:=((∃k:Nat,k<=4096/\L=true/\x=.returned k)\/(L=false/\x=.returned (-1:Int)))/\w=w'
def zn (l:bd):Bool:=decide (∃s∈l,128<s.size)
theorem Wq {l:bd} (D:At w A (bD l)) (B:∀s∈l,s.size<=9223372036854775807) (n cap:Nat) (E:n=l) (a3:n<=4096):
  Calls prog 230 #[(A,n,cap),.func (.func 231) #[] #[]] w λx w'=>x=.returned (zn l)/\w=w':=by
 have H:Hid (Calls prog 260 #[(A,n,cap),.func (.func 231) #[] #[]] w λx w'=>Zqx w (zn l) x w'):=J (by
  obtain⟨Ha,I,Q⟩:=bF D E B;clear D E B;go_in;go_wp2;go_loop [5,8] (λ_ i=>∃k:Nat,k<=n/\i=k/\Hid (∀s∈l.take k,¬128<s.size)) (λ_ i=>(n-intOf i).toNat);exact⟨0,O,rfl,J (by simp)⟩;obtain⟨k,a0,rfl,G⟩:=hrel;by_cases ab:k<n
  .have F:k<l:=im;obtain⟨s,q⟩:=ay l[k];obtain⟨a1,a4,S,a2,a5⟩:=Ha.o.get k (.string s) (by rw[YD l k F,q]);subst S;have g:=ZeD s (Q.o s (q▸dr _)) w;by_cases p:128<s.size;.rw[cT p] at g;have g:=J g;have t:zn l=true:=cT ⟨s,q▸dr _,p⟩;have y:=J t;clear t p q;go_wp21;refine cq g.o ?_;go_wp2;go_ret;exact⟨.inl ⟨k,O,y.o,rfl⟩,rfl⟩
   rw[cG p] at g;have g:=J g;have z:Hid (∀u∈l.take (k+1),¬128<u.size):=J (by intro u M;rw[dD F,q] at M;rcases kY.1 M with h|h;exact G.o u h;rw[js] at h;rw[h];exact p);clear p q;go_wp21;refine cq g.o ?_;exact Pz
  have t:zn l=false:=cG (by rintro⟨s,h1,R⟩;refine G.o s ?_ R;rwa [dU (by rw[<-I.o];omega)]);have y:=J t;clear t;go_wp2;go_ret;exact⟨.inr ⟨y.o,rfl⟩,rfl⟩);clear D B E;generalize zn l=L at*;go_in;go_wp21;refine(H.o).mono ?_;rintro x w1 ⟨⟨k,a0,rfl,rfl⟩|⟨rfl,rfl⟩,rfl⟩;exact An;exact An
end Go.Proofs.Y
namespace Wv
open Go Go.RowKit
variable{b:Nat}{l:bd}{s:aS}{w w':au}
def uw:Nat->bd->List MapEntry
 |_,[]=>[]
 |k,a::t=>⟨.string a,.int .i64 (k:Int),k⟩::uw (k+1) t
def wG (l:bd):Array MapEntry:=(uw 0 l).toArray
theorem ZdX (l:bd) (s:aS):∀k,uw k (l++[s])=uw k l++[⟨.string s,.int .i64 ((k+l.length:Nat):Int),k+l.length⟩]:=by
 induction l with
 |nil=>intro k;rfl
 |cons a t ih=>intro k;rw[ju,uw,ih,uw,f',show k+1+t.length=k+(t.length+1) from by exact O];rfl
theorem ZdY (l:bd) (s:aS):wG (l++[s])=(wG l).push ⟨.string s,.int .i64 (l.length:Int),l.length⟩:=by unfold wG;rw[ZdX];grind
theorem TY (s:aS) (l:bd):∀k i,(s∈l->Instr.findNow .string (.string s) (uw k l) i=some (some (i+ix l s,.int .i64 ((k+ix l s:Nat):Int))))/\(s∉l->Instr.findNow .string (.string s) (uw k l) i=some none):=by
 induction l with
 |nil=>intro k i;exact⟨λh=>absurd h (Cm),λ_=>rfl⟩
 |cons a t ih=>
  intro k i;obtain⟨r,g,q⟩:=MapKept.sameNow_of_keys (d:=.string) (a:=.string s) (b:=.string a) trivial trivial;cases r with
  |true=>have h1:Value.string s=Value.string a:=q.1 rfl;injection h1 with h1;subst h1;have p:ix (s::t) s=0:=(by simp[ix]);exact⟨λ_=>by rw[uw,Instr.findNow,g,p];rfl,λh=>absurd fm h⟩
  |false=>have h1:a≠s:=λe=>aI;have p:ix (a::t) s=ix t s+1:=(by rw[ix,az h1]);refine⟨λh=> ?_,λh=> ?_⟩;rw[uw,Instr.findNow,g,p];grind;rw[uw,Instr.findNow,g];grind
theorem Z9Y (h:s∈l):Instr.findNow .string (.string s) (wG l).toList 0=some (some (ix l s,.int .i64 (ix l s:Nat))):=by have:=(TY s l 0 0).1 h;simpa [wG] using this
theorem u_ (h:s∉l):Instr.findNow .string (.string s) (wG l).toList 0=some none:=by have:=(TY s l 0 0).2 h;simpa [wG] using this
def kE (w:au) (b:Nat) (l:bd):Prop:=w.heap[b]? =some (.map (wG l) l)
theorem kE.lt (h:kE w b l):b<w:=(Array.getElem?_eq_some_iff.1 h).1
theorem kE.fr {S:Nat->Prop} (h:kE w b l) (g:Fr S w w') (hb:¬S b):kE w' b l:=(g.block b h.lt hb).trans h
theorem kE.alloc (h:kE w b l) (o:Obj):kE (w.alloc o) b l:=(Below.heap_alloc w o b h.lt).trans h
theorem kE.grown {row:Option Nat} (h:kE w b l) (k:w.grownBy w' row) (g:some b≠row):kE w' b l:=(k.block b h.lt g).trans h
def vi (w:au) (b:Nat) (l:bd):au:= { w with heap:=w.heap.setIfInBounds b (.map (wG l) l) }
theorem Zgb {l':bd} (h:kE w b l):kE (vi w b l') b l':=by have:=h.lt;simp[kE,vi,this]
theorem UW {S:Nat->Prop} {a:au} (h:Fr S a w) (hb:S b\/a<=b):Fr S a (vi w b l):=
 ⟨h.os,h.tape,h.output,by simpa [vi] using h.size,λk g p=>by refine Eq.trans ?_ (h.block k g p);have:b≠k:=aI;simp[vi,this]⟩
theorem LV {P:Program} {k:TypeId} (g:P.underlying k=some .string) (e:Bool) (s:aS) (W:au):(Instr.checkKey e 10000 k (.string s)).run P W=.ok () W:=
 MapKept.run_checkKey (w:=W) g (show MapKept.IsKey .string (.string s) from trivial) e 9999
theorem ZmT {P:Program} {t k e:TypeId} (u:P.underlying t=some (.map k e)) (g:P.underlying k=some .string) (h:kE w b l) (s:aS) (q:s∉l):
  (Instr.mapUpdate t (.map (some b)) (.string s) (l.length:Int)).run P w=.ok () (vi w b (l++[s])):=by have p:=λo=>MapKept.run_setObj_map (P:=P) o h;have an:=u_ q;unfold Instr.mapUpdate;simp only[Sem.run_bind,run_underlying u,Result.andThen_ok,MapKept.run_getObj_map h,LV g,MapKept.run_findKey g an,p];unfold vi;rw[ZdY];simp
theorem ZpB {P:Program} {t k e:TypeId} (ht:P.underlying t=some (.map k e)) (hk:P.underlying k=some .string) (h:kE w b l) (s:aS) (a0:s∈l):
  (Instr.lookup t (.map (some b)) (.string s) true).run P w=.ok (.tuple #[((ix l s:Nat):Int),true]) w:=Ol
theorem ZpA {P:Program} {t k e:TypeId} (q:P.underlying t=some (.map k e)) (g:P.underlying k=some .string) (h:kE w b l) (s:aS) (p:s∉l) (u:(zeroValue e).run P w=.ok (0:Int) w):
  (Instr.lookup t (.map (some b)) (.string s) true).run P w=.ok (.tuple #[(0:Int),false]) w:=by have an:=u_ p;unfold Instr.lookup;simp only[Sem.run_bind,Sem.run_pure,run_underlying q,Result.andThen_ok,MapKept.run_getObj_map h,LV g,MapKept.run_findKey g an,u];rfl
theorem ZmS {P:Program} {t k e:TypeId} (ht:P.underlying t=some (.map k e)) (hk:P.underlying k=some .string) (h:kE w b l) (s:aS) (a0:s∈l):
  (Instr.lookup t (.map (some b)) (.string s) false).run P w=.ok (.int .i64 (ix l s:Nat)) w:=Ol
end Wv
namespace Go.Proofs.Y
open Wv Go.RowKit
variable{A:bS}{base e:Nat}{l:bd}{v:aJ}{w:au}
theorem YR:(prog.info? 9).map (λi=>(i.zero,i.size,i.bytes))=some (some (.string ByteArray.empty),1,16):=dE
theorem Zhl (w:au):(zeroValue 3).run prog w=.ok (0:Int) w:=dE
theorem ZdB (l:bd) (k:Nat) (h:k<l):(l[k]∈da (l.take k)->da (l.take (k+1))=da (l.take k))/\(l[k]∉da (l.take k)->da (l.take (k+1))=da (l.take k)++[l[k]]):=by rw[dD h,JA];exact⟨λh=>by rw[aP h],λh=>by rw[az h]⟩
def wW (w:au) (v:aJ) (l:bd):Prop:=∃A cap,v=.slice A l cap/\At w A (bD l)
theorem wW.nil (w:au):wW w (.slice none 0 0) []:=⟨none,0,rfl,At.nil _ _⟩
theorem Wx (h:w.ownsRow base e 1 v l (bD l)):wW w v l:=E8
def IdxR (w:au) (l:bd) (x:Ending) (w':au):Prop:=
 ∃v b,x=.returned (.tuple #[v,.map (some b)])/\w.heap.size<=b/\w'.ownsRow w 9 1 v (da l) (bD (da l))/\kE w' b (da l)/\Below w w w'
theorem Q7 {size n b:Nat} {xs:List aJ} (h:w.ownsRow base e size v n xs) (k:kE w b l):v.ownBlock≠some b:=by rcases h.2 with ⟨rfl,_⟩|⟨q,cap,p,rfl,_,g,_⟩;exact CB;intro t;have:q=b:=(by simpa [Value.ownBlock] using t);subst this;unfold kE at k;rw[k] at g;cases g
theorem T9 (a0:At w A (bD l)) (n cap:Nat) (a9:n=l) (f2:n<=4096):
  Calls prog 261 #[(A,n,cap)] w λx w'=>IdxR w l x w':=by
 have f3:= @run_makeMap prog;have Ha:=J a0;have I:=J a9;obtain⟨i0,hi,B,z,E⟩:=info_parts YR;have d7:=J (And.intro hi (And.intro B (And.intro z E)));have d5:Below w w (w.alloc (.map #[] 0)):=(bi _ _).alloc aW _;have d6:kE (w.alloc (.map #[] 0)) w.heap.size []:=heap_alloc_new w _;have b4:=a0.alloc (.map #[] 0);clear a0 a9 hi B z E;go_in;go_wp2;go_loopw [4,7,8,9,13] (λe4 _ _ _ i wr=>∃k:Nat,k<=n/\i=k/\wr.ownsRow w 9 1 e4 (da (l.take k)) (bD (da (l.take k)))/\kE wr w (da (l.take k))/\At wr A (bD l)/\Below w w wr) (λ_ _ _ _ i _=>(n-intOf i).toNat);exact⟨0,O,rfl,Zm,d6,b4,d5⟩;obtain⟨k,e9,rfl,q,p,a3,F⟩:=hrel;by_cases ab:k<n
 .have a2:k<l:=im;obtain⟨s,b0⟩:=ay l[k];obtain⟨e6,f4,c6,e7,f5⟩:=a3.get k (.string s) (by rw[YD l k a2,b0]);subst c6;obtain⟨Q,R⟩:=ZdB l k a2;rw[b0] at Q R;have a7:=Yy (l.take k);rw[eC] at a7;obtain⟨D,c7⟩:=ay (da (l.take k));rw[c7] at Q R q p a7;by_cases y:s∈D;.have d3:=ZpB (P:=prog) underlying332 underlying9 p s y;obtain⟨Hd,t,G⟩:=bF (Q y) q p;go_wp2;go_roundw;exact⟨k+1,O,ck,by rw[Hd.o];exact t.o,by rw[Hd.o];exact G.o,a3,F⟩;simp[intOf]<;>omega
  have d3:=ZpA (P:=prog) underlying332 underlying9 p s y (Zhl wr);have d4:=ZmT (P:=prog) underlying332 underlying9 p s y;obtain⟨A4,b2,d8,e8⟩:=Zi q;have e2:=Q7 q p;subst d8;have a5:(vi wr w (D++[s])).ownsRow w 9 1 (.slice A4 D b2) D (bD D):=Z6 q (UW (S:=λj=>j=w.heap.size) (Fr.refl _ wr) (.inl rfl)) (λg c9 e=>e2 (by rw[c9,e]));have b3:=Zgb (l':=D++[s]) p;have an:Below w w (vi wr w (D++[s])):=F.trans ((UW (S:=λj=>j=w.heap.size) (Fr.refl _ wr) (.inl rfl)).toBelow' F.size (λj a8 e=>O));have d9:=R y;have c4:D+1<=maxLen:=gn;have c5:(D.length+1)*16<=140737488355328:=O;obtain⟨W,c8⟩:=ay (vi wr w (D++[s]));rw[c8] at d4 a5 b3 an;obtain⟨Hd,t,G,b9⟩:=dm d9 a5 b3 an;have M:=an.size;have e5:=J p.lt;obtain⟨hi,B,z,E⟩:=d7.o
  go_wp2_with (
   at_builtin;refine wpList_append_own_at _ rfl (.tmp 29) (.tmp 31) _ rfl w 9 i0 (.string ByteArray.empty) 1 16 underlying23 hi B z E rfl O (.slice A4 D b2) D (bD D) (by rfl) (t.o.alloc _) ⟨W,0,none⟩ 1 1 [.string s] (by rfl) rfl (Qo _ _ _) t' c4 c5 (cp M (by simp)) ?_;intro e3 w1 a4 a6 _ b8;have u:=J a4;have b1:=J a6;clear a4 a6 b8);have c3:=(G.o.alloc (.cells #[s] 9)).grown b1.o (λe=>Q7 (t.o) G.o e.symm);have a1:Below w w w1:=(b9.o.alloc M (.cells #[s] 9)).grown b1.o (cp M (by simp)) (λj a8=>(t.o.lt j a8).1);have b5:=Ha.o.below a1;have e1:w1.ownsRow w 9 1 e3 (D++[s]) (bD (D++[s])):=Rh;go_wp2;go_roundw;exact⟨k+1,O,ck,by rw[Hd.o];exact e1,by rw[Hd.o];exact c3,b5,a1⟩;simp[intOf]<;>omega
 have b7:k=n:=O;subst b7;have b6:l.take k=l:=dU Fy;rw[b6] at q p;go_wp2;go_returns;exact⟨_,_,rfl,aW,q,p,F⟩
def DRes (w:au) (l:bd) (x:Ending) (w':au):Prop:=∃v,x=.returned v/\wW w' v l/\Below w w w'
theorem Z40 (g:At w A (bD l)) (n cap:Nat) (k:n=l) (q:n<=4096):
  Calls prog 232 #[(A,n,cap)] w λx w'=>DRes w (da l) x w':=by have H:=J (T9 g n cap k q);clear g k;go_in;go_wp21;refine(H.o).mono ?_;rintro x w1 ⟨v,b,rfl,hb,t,y,p⟩;have u:=Wx t;go_wp2;go_ret;exact⟨v,rfl,u,p⟩
end Go.Proofs.Y
namespace Wv
open Go Go.RowKit
variable{base cap g n size:Nat}{w:au}{xs:List aJ}
theorem Zjm {e:TypeId} (h:w.ownsRow base e size (.slice (some (g,0)) n cap) n xs) (i:Nat) (u:aJ):
  (w.setCell (g,i) u).ownsRow base e size (.slice (some (g,0)) n cap) n (xs.set i u):=by refine⟨by rw[og];exact h.1,?_⟩;rcases h.2 with ⟨y,_⟩|⟨I,F,l,B,hb,z,D,E,q,p⟩;cases y;injection B with k G t;injection k with k;injection k with k;subst k;subst t;refine .inr ⟨g,cap,l.setIfInBounds i u,rfl,hb,?_,D,E,by rw[Array.size_setIfInBounds];exact q,?_⟩;simp[World.setCell,Array.getElem?_modify,z];rw[<-p,Array.toList_setIfInBounds,List.take_set]
theorem Zf3 {e:TypeId} (h:w.ownsRow base e size (.slice (some (g,0)) n cap) n xs) (i:Nat) (u:aJ) (p:xs[i]? =some u):
  w.cell? (g,i)=some u/\w.frozen? (g,i)=false:=by have h1:=h.cells (g:=g) rfl i u p;have:(⟨g,0,none⟩:Addr).add i=⟨g,i,none⟩:=(by unfold Addr.add;split<;>simp_all);rw[this] at h1;refine⟨h1,?_⟩;rcases h.2 with ⟨l,_⟩|⟨y,t,k,q,hb,R,_⟩;cases l;exact Oy
theorem Zf5 {e:TypeId} {v:aJ} (h:w.ownsRow base e size v n xs) (z:0<n):∃g cap,v=.slice (some ⟨g,0,none⟩) n cap/\n<=cap:=by rcases h.2 with ⟨_,u⟩|⟨p,k,l,t,hb,y,q,_⟩;exact O;exact⟨p,k,t,q⟩
theorem Zaf (w:au) (t:TypeId) (a b:aJ):∀(j:Nat) (u:aJ),[a,b][j]? =some u->(w.alloc (.cells #[a,b] t)).cell? ((⟨w,0,none⟩:Addr).add j)=some u:=by intro j u h;rw[Go.WideShapes.add_plain,jW];have:=(Bk.new w t #[a,b]).cell j;rw[this];simpa using h
theorem Zni (l:List (Int×Int)) (x:Int×Int) (c:Int):(pv (l++[x])).set (l.length*2+1) (iv c)=pv (l++[(x.1,c)]):=by rw[QN,QN,nz _ _ (by rw[Q8];omega),Q8,show l.length*2+1-l.length*2=1 from by exact O];rfl
theorem XM {a b:aS} :(a.toList==b.toList)=decide (a=b):=by rw[lO,beq_iff_eq,fE,ByteArray.toList_eq,ByteArray.toList_eq];exact ZnW
end Wv
namespace Go.Proofs.Y
open Wv Go.RowKit
variable{A:bS}{a s t:ax}{e most n:Nat}{l:bd}{w w':au}
theorem Zl6:(prog.info? 315).map (λi=>(i.zero,i.size,i.bytes))=some (some (.agg #[(0:Int),(0:Int)]),2,16):=dE
theorem Zg5 (d l:bd) (k:Nat) (h:k<l):
  (0<k->l[k-1]? =some l[k]->jq d (l.take (k+1))=xQ (jq d (l.take k)))/\((k=0\/l[k-1]? ≠some l[k])->jq d (l.take (k+1))=jq d (l.take k)++[(ix d l[k],1)]):=by
 have g:0<k->(l.take k).getLast? =l[k-1]? :=by intro h0;rw[List.getLast?_eq_getElem?,eC,Nat.min_eq_left O,List.getElem?_take_of_lt O]
 rw[dD h,Q9];refine⟨λh0 q=> ?_,λp=> ?_⟩;rw[g h0,aP q];rcases qB k with h0|h0;subst h0;rw[az (by simp)];rw[g h0,az (p.resolve_left O)]
theorem Zg4 (d l:bd) (k:Nat) (h:k<l):∃xs c,jq d (l.take (k+1))=xs++[(ix d l[k],c)]/\1<=c:=by rw[dD h];exact Zg3 d (l.take k) l[k]
def PRes (w:au) (r:List (Int×Int)) (x:Ending) (w':au):Prop:=∃A cap,x=.returned (.slice A r cap)/\At w' A (pv r)/\Below w w w'
theorem ZjW (e3:At w A (bD l)) (n cap:Nat) (e4:n=l) (i3:n<=4096):
  Calls prog 233 #[(A,n,cap)] w λx w'=>PRes w (Yq (jq (da l) l)) x w':=by
 obtain⟨H,Ha,I⟩:=bF (T9 e3 n cap e4 i3) e3 e4;obtain⟨i0,hi,z,t,B⟩:=info_parts Zl6;have i7:=J (And.intro hi (And.intro z (And.intro t B)));obtain⟨a3,e8⟩:=ay (da l);have g6:=J (λs (a8:s∈l)=>show s∈a3 from e8▸(X4 l s).2 a8);have g4:=J e8;clear e3 e4 hi z t B e8;go_in;go_wp21;refine(H.o).mono ?_;rintro x w1 ⟨v,b,rfl,hb,j9,e1,b2⟩;rw[g4.o] at e1;have h7:=Ha.o.below b2;go_wp2;go_loopw [5,6,7,15] (λj0 _ _ i wr=>∃k:Nat,k<=n/\i=k/\wr.ownsRow w1 315 2 j0 (Yq (jq a3 (l.take k))) (pv (Yq (jq a3 (l.take k))))/\kE wr b a3/\At wr A (bD l)/\Below w1 w1 wr) (λ_ _ _ i _=>(n-intOf i).toNat);exact⟨0,O,rfl,Zm,e1,h7,bi _ _⟩;have j2:=J e1.lt;obtain⟨k,j8,rfl,a2,b1,b6,a9⟩:=hrel;by_cases ab:k<n
 .have f5:k<l:=im;obtain⟨s,a8⟩:=ay l[k];have f3:=g6.o s (a8▸dr _);obtain⟨f7,g3,h8,j3,k1⟩:=b6.get k (.string s) (by rw[YD l k f5,a8]);subst h8;obtain⟨c6,c7⟩:=Zg5 a3 l k f5;rw[a8] at c6 c7;have b0:=YC a3 (l.take k);rw[eC] at b0;by_cases c5:0<k/\l[k-1]? =some s
  .obtain⟨h0,c8⟩:=c5;have g5:=b6.get (k-1) (.string s) (by rw[bD,jV,c8];rfl);obtain⟨d7,e7,a5,_,b5⟩:=g5;injection a5 with a5;injection a5 with a5 f2;subst a5;subst f2;obtain⟨xs,c,b3,j4⟩:=Zg4 a3 l (k-1) O;rw[show k-1+1=k from by exact O] at b3;obtain⟨q,b8⟩:=ay (ix a3 (l[k-1]'O));rw[b8] at b3;have d9:=c6 h0 c8;rw[b3,J8] at d9;rw[b3] at a2 b0;have f9:Yq (xs++[(q,c)])=Yq xs++[((q:Int),(c:Int))]:=(by simp[Yq]);have a6:Yq (xs++[(q,c+1)])=Yq xs++[((q:Int),(c:Int)+1)]:=(by simp[Yq]);rw[f9] at a2;have e2:=Zni (Yq xs) ((q:Int),(c:Int)) ((c:Int)+1);obtain⟨X,a7⟩:=ay (Yq xs);have d4:X=xs.length:=(by rw[<-a7];simp[Yq]);rw[a7] at a2 e2 a6;rw[bT,pi] at a2;obtain⟨g,f6,i6,j1⟩:=Zf5 a2 O;subst i6;have h2:=Zf3 a2 (X.length*2+1) (iv (c:Int)) (by have:=(zi (X++[((q:Int),(c:Int))]) X (by simp)).2;simpa using this);obtain⟨q1,q2⟩:=h2;have d6:=Zjm a2 (X.length*2+1) (iv ((c:Int)+1));rw[e2] at d6;have j7:c<=4096:=by have:=(Ga a3 (l.take k) (q,c) (by rw[b3];simp)).2.2;rw[eC] at this;simp only at this;omega
   have d5:=a9.setCell (p:=⟨g,X.length*2+1,none⟩) ((a2.lt g rfl).1) (iv ((c:Int)+1));have j6:xs+1<=k:=by rw[bT,pi] at b0;omega
   have g1:X.length<=4096:=O;have i1:((X.length:Int)+1)-1=(X.length:Int):=O;have b7:kE (wr.setCell ⟨g,X.length*2+1,none⟩ (iv ((c:Int)+1))) b a3:=(Below.heap_setCell wr ⟨g,X.length*2+1,none⟩ _ b (by intro e;exact Q7 a2 b1 (by show some g=some b;rw[e]))).trans b1;have f4:At (wr.setCell ⟨g,X.length*2+1,none⟩ (iv ((c:Int)+1))) (some ⟨f7,g3,none⟩) (bD l):=(Ha.o.below b2).below d5;have h9:(s.toList==s.toList)=true:=(by simp);have d8:(0:Int)<k:=O;have e5:(k:Int)-1=((k-1:Nat):Int):=O;obtain⟨e6,c3⟩:=ay (k-1);rw[c3] at e5 b5;have g7:(e6:Int)<n:=O;have k0:w1<=g:=(a2.lt g rfl).1;unfold iv at q1;obtain⟨i9,E,g8,d2,d1,c9⟩:=fF d9 a6 d6 b7 f4 d5;clear c6 c7 a8 b3 d9 f9 a6 e2 a7 d4 a2 d6 b7 f4 d5 b8 b1 b6 b0 c3 f3 c8 a9;go_wp2;go_roundw;refine⟨k+1,O,ck,?_,d2.o,d1.o,c9.o⟩;rw[i9.o,E.o,bT,pi];exact g8.o;simp[intOf]<;>omega
  have f8:k=0\/l[k-1]? ≠some s:=by rcases qB k with h0|h0;exact .inl h0;exact .inr (λh=>c5 ⟨h0,h⟩)
  have c4:=c7 f8;have i2:=ZmS (P:=prog) underlying332 underlying9 b1 s f3;obtain⟨q,b8⟩:=ay (ix a3 s);rw[b8] at c4 i2;obtain⟨R,g0⟩:=ay (jq a3 (l.take k));rw[g0] at c4 a2 b0;have a6:Yq (R++[(q,1)])=Yq R++[((q:Int),1)]:=(by simp[Yq]);obtain⟨X,a7⟩:=ay (Yq R);have d4:X=R.length:=(by rw[<-a7];simp[Yq]);rw[a7] at a2 a6;obtain⟨A4,a1,i8,h5⟩:=Zi a2;subst i8;have S:X+1<=maxLen:=gn;have a0:(X.length+1)*16<=140737488355328:=O;have D:=a9.size;have h6:(k=0)\/(0<k/\∃e9:aS,(e9.toList==s.toList)=false/\wr.cell? (f7,g3+(k-1))=e9):=by rcases qB k with h0|h0;exact .inl h0;right;have g2:k-1<l.length:=O;obtain⟨d7,e7,a5,_,b5⟩:=b6.get (k-1) (.string (l[k-1])) (YD l (k-1) g2);injection a5 with a5;injection a5 with a5 f2;subst a5;subst f2;refine⟨h0,l[k-1],?_,b5⟩;rw[XM,uN];intro e;refine c5 ⟨h0,?_⟩;rw[fD g2,e]
  obtain⟨b9,E,d3,F,y,M⟩:=fF c4 a6 a2 b1 a9 b2;clear c6 c7 a8 c4 a6 a7 a2 b1 b6 b0 b8 g0 h5 c5 f8 a9 d4 f3 b2;obtain⟨hi,z,t,B⟩:=i7.o;rcases h6 with d8|⟨d8,e9,j5,b5⟩;have g9:¬(0:Int)<k:=O;clear d8;exact Ns;have g9:(0:Int)<k:=O;have e5:(k:Int)-1=((k-1:Nat):Int):=O;obtain⟨e6,c3⟩:=ay (k-1);rw[c3] at e5 b5;have g7:(e6:Int)<n:=O;exact Ns
 have h4:k=n:=O;subst h4;have h1:l.take k=l:=dU Fy;rw[h1] at a2;obtain⟨A2,f6,i4,h3⟩:=Zi a2;subst i4;have i5:=J h3;go_wp2;go_ret;rw[g4.o];exact⟨A2,f6,rfl,i5.o,b2.trans (a9.mono b2.size)⟩
def pd (w:au) (r:bd×Nat) (x:Ending) (w':au):Prop:=∃v,x=.returned (.tuple #[v,r.2])/\wW w' v r.1/\Below w w w'
theorem Qv (e:Nat) (hb:Below w w w'):pd w ([],e) (.returned (.tuple #[.slice none 0 0,e])) w':=⟨_,rfl,wW.nil _,hb⟩
theorem Z8r (d:bd) (l:List (Int×Int)) (k:Nat) (h:k<l) (g:bd):
  ZL d (l.drop k) g=if l[k].1<0\/(d.length:Int)<=l[k].1\/l[k].2<1 then([],2) else if 4096-(g.length:Int)<l[k].2 then([],9)
   else ZL d (l.drop (k+1)) (g++List.replicate l[k].2.toNat (d.getD l[k].1.toNat default)):=by rw[kw h,ZL]
theorem Zbq {B:bS} {d:bd} {l:List (Int×Int)} (d2:At w A (bD d)) (d5:At w B (pv l)) (n cap m e9:Nat) (d4:n=d) (d3:m=l) (h7:n<=9223372036854775807) (j0:m<=9223372036854775807):
  Calls prog 236 #[(A,n,cap),(B,m,e9)] w λx w'=>pd w (ZL d l []) x w':=by
 obtain⟨Ha,e2,b8,E⟩:=dm d2 d5 d4 d3;obtain⟨i0,hi,a1,a0,a2⟩:=info_parts YR;have g5:=J (And.intro hi (And.intro a1 (And.intro a0 a2)));clear d2 d5 d4 d3 hi a1 a0 a2;go_in;go_wp2;go_loopw [6,8,11] (λb7 _ i wr=>∃(k:Nat) (g:bd),k<=m/\i=k/\g.length<=4096/\wr.ownsRow w 9 1 b7 g (bD g)/\Hid (ZL d (l.drop k) g=ZL d l [])/\Below w w wr) (λ_ _ i _=>(m-intOf i).toNat);exact⟨0,[],O,rfl,by simp,Zm,J rfl,bi _ _⟩;obtain⟨k,g,i6,rfl,i5,y,z,p⟩:=hrel;obtain⟨A4,g3,g6,a3⟩:=Zi y;subst g6;by_cases ab:k<m
 .have c3:k<l:=FA;have t:=Z8r d l k c3 g;have G:=zi l k c3;obtain⟨⟨i,c⟩,nJ⟩:=ay l[k];rw[nJ] at t G;simp only at t G;have Q:=e2.o.below p;obtain⟨f3,g7,d1,h6,a6⟩:=Q.get (k*2) (iv i) G.1;obtain⟨f4,g8,a5,_,R⟩:=Q.get (k*2+1) (iv c) G.2;rw[d1] at a5;injection a5 with a5;injection a5 with h5 h3;subst h5;subst h3;subst d1;unfold iv at a6 R;have e7:=J y;have e1:=J p;have d6:wr.cell? ⟨f3,g7+k*2+1,none⟩=c:=R;have D:=J (p.alloc p.size (.cells #[i,c] 315));by_cases M:i<0\/(d.length:Int)<=i\/c<1;rw[aP M] at t;have F:Hid (ZL d l []=([],2)):=J (by rw[<-z.o,t]);have aa:i<0\/(n:Int)<=i\/c<1:=(by rw[b8.o];exact M);clear M t nJ G Q a3 y p R;by_cases b1:i<0;exact Jg;by_cases f2:(n:Int)<=i;exact Jg;have b3:c<1:=O;exact Jg;rw[az M] at t;have b1:¬i<0:=O;have f2:¬(n:Int)<=i:=(by rw[b8.o];omega);have b3:¬c<1:=O;by_cases c9:4096-(g.length:Int)<c;.rw[aP c9] at t;have F:Hid (ZL d l []=([],9)):=J (by rw[<-z.o,t]);clear M t nJ G Q a3 y p R;go_wp2;go_returns;rw[F.o];exact Qv 9 D.o
  rw[az c9] at t;obtain⟨i,rfl⟩:=Int.eq_ofNat_of_zero_le (show 0<=i by omega);obtain⟨c,rfl⟩:=Int.eq_ofNat_of_zero_le (show 0<=c by omega);rw[ek,ek] at t;have hid:i<d:=O;have h8:(i:Int)<n:=O;obtain⟨s,b4⟩:=ay (d.getD i default);have h0:(bD d)[i]? =some (.string s):=by rw[YD d i hid,<-b4];simp[List.getD,hid]
  rw[b4] at t;have e6:Hid (ZL d (l.drop (k+1)) (g++List.replicate c s)=ZL d l []):=J (by rw[<-t];exact z.o);have i9:g.length+c<=4096:=O;clear M t nJ G Q a3 y p R z b4;have I:=Bk.new wr 315 #[i,c];have c6:=e7.o.alloc (.cells #[i,c] 315);go_wp2;go_loopw [6,38] (λb7 j b6=>∃q:Nat,q<=c/\j=q/\b6.ownsRow w 9 1 b7 (g++List.replicate q s) (bD (g++List.replicate q s))/\Bk b6 wr 315 #[i,c]/\Below w w b6) (λ_ j _=>(c-intOf j).toNat);exact⟨0,O,rfl,by simpa using c6,I,D.o⟩;have i4:=J e1.o.size;clear I c6;obtain⟨q,i7,rfl,y,I,p⟩:=hrel;by_cases i3:q<c
  .have c4:=Ha.o.below p;obtain⟨i1,i8,g1,i2,g9⟩:=c4.get i (.string s) h0;subst g1;have d8:=I.cell 0;simp at d8;obtain⟨L,a4⟩:=ay (g++List.replicate q s);have e4:L=g.length+q:=(by rw[<-a4];simp);have d9:g++List.replicate (q+1) s=L++[s]:=(by rw[List.replicate_succ',<-ey,a4]);rw[a4] at y;obtain⟨A5,f7,g4,_⟩:=Zi y;subst g4;have f8:L+1<=maxLen:=gn;have f9:(L.length+1)*16<=140737488355328:=O;have a8:=p.size;obtain⟨e3,S,b9,a9,h9⟩:=ia d9 y I p a6;clear a4 d9 y I c4 p e4 a6 d6;obtain⟨hi,a1,a0,a2⟩:=g5.o
   go_wp2_with (
    at_builtin;refine wpList_append_own_at _ rfl (.tmp 40) (.tmp 46) _ rfl w 9 i0 (.string ByteArray.empty) 1 16 underlying23 hi a1 a0 a2 rfl O (.slice A5 L f7) L (bD L) (by rfl) (S.o.alloc _) ⟨_,0,none⟩ 1 1 [.string s] (by rfl) rfl (Qo _ _ _) t' f8 f9 (cp a8 (by simp)) ?_;intro h4 d7 c5 c7 _ f6;have u:=J c5;have b5:=J c7;clear c5 c7 f6);have e5:=(b9.o.alloc (.cells #[s] 9)).grown b5.o (λe=>Z1 S.o b9.o aZ e.symm);have e8:Below w w d7:=(a9.o.alloc a8 (.cells #[s] 9)).grown b5.o (cp a8 (by simp)) (λj g2=>(S.o.lt j g2).1);have h2:d7.ownsRow w 9 1 h4 (L++[s]) (bD (L++[s])):=Rh;clear u b5 g9 d8;go_wp2;go_roundw;exact⟨q+1,O,ck,by rw[e3.o];exact h2,e5,e8⟩;simp[intOf]<;>omega
  have b0:q=c:=O;subst b0;have S:=J y;have a9:=J p;clear y I p a6 d6;go_wp2;go_roundw;exact⟨k+1,g++List.replicate q s,O,ck,Cu,S.o,e6,a9.o⟩;simp[intOf]<;>omega
 have h1:k=m:=O;subst h1;have c8:l.drop k=[]:=List.drop_of_length_le Fz;have a7:=z.o;rw[c8,ZL] at a7;have f5:=J a7;have g0:=J (Wx y);clear c8 a7 y a3;go_wp2;go_returns;rw[<-f5.o];exact⟨.slice A4 g g3,rfl,g0.o,p⟩
def gj (w:au) (r:ax×Nat) (x:Ending) (w':au):Prop:=x=.returned (.tuple #[bs r.1,r.2])/\Below w w w'
theorem C7 (e:Nat) (hb:Below w w w'):gj w ([],e) (.returned (.tuple #[bs [],e])) w':=⟨rfl,hb⟩
theorem ZdR (c:Int) (k:c≠0) (g:c≠1) (A:bS) (n cap:Nat):
  Calls prog 195 #[c,(A,n,cap)] w λx w'=>gj w ([],1) x w':=by have h0:(c !=0)=true:=(by rw[kx];exact k);have h1:(c !=1)=true:=(by rw[kx];exact g);have hb:=J (bi w w);go_in;go_wp2;go_returns;exact C7 1 hb.o
theorem Z8n (c:Nat) (y:c<=1) (q:At w A (bD l)) (g:∀s∈l,s.size<=9223372036854775807) (n cap:Nat) (t:n=l) (F:n<=9223372036854775807) (k:4096<l.length\/∃s∈l,128<s.size):
  Calls prog 195 #[c,(A,n,cap)] w λx w'=>gj w ([],9) x w':=by
 have hb:=J (bi w w);have B:c=0\/c=1:=O;by_cases u:4096<n
 .have E:(4096:Int)<n:=O;clear u k q g t y;rcases B with rfl|rfl
  all_goals
   go_in;go_wp2;go_returns;exact C7 9 hb.o
 have E:¬(4096:Int)<n:=O;have p:=Wq q g n cap t O;have z:zn l=true:=cT (k.resolve_left O);rw[z] at p;have D:=J p;clear u k q g t y p z;rcases B with rfl|rfl
 all_goals
  go_in;go_wp21;refine cq D.o ?_;go_wp2;go_returns;exact C7 9 hb.o
theorem V7 (s:aS) (h:s.size<=128):(text s).length<=137:=by unfold text;have:=rH s.size;rw[bT,Z2];omega
theorem ZiI (D:bd) (h:∀s∈D,s.size<=128):(D.flatMap text).length<=137*D.length:=by
 induction D with
 |nil=>simp
 |cons s D ih=>have h1:=V7 s (h s fm);have k:=ih (λu g=>h u (gN _ g));rw[sS,bT,f'];omega
theorem Ze8 (D:bd) (k:Nat) (h:k<D):(D.take (k+1)).flatMap text=(D.take k).flatMap text++text D[k]:=by rw[dD h,yI];simp
theorem Qj (l:List Nat) (h:∀v∈l,v<4611686018427387904):(jj l).length<=13+134*l.length:=by unfold jj;rw[bT];have h1:=rH l;split;exact fp;have g:=Us l (t0,e0) h;rw[show(e0.out.length)=0 from rfl] at g;unfold ji;rw[bT,Yd];omega
def X0 (c:Nat) (D:bd) (k:Nat):ax:=bj c++bj D.length++(D.take k).flatMap text
theorem JN (c:Nat) (D:bd) (k:Nat) (h:∀s∈D,s.size<=128) (t:D.length<=4096):(X0 c D k).length<=600000:=by unfold X0;have h1:=rH c;have l:=rH D;have p:=ZiI (D.take k) (λs g=>h s (Aj g));have q:(D.take k).length<=4096:=vW;rw[bT,bT];omega
theorem Z8B (c:Nat) (D:bd) (k:Nat) (h:k<D):X0 c D (k+1)=X0 c D k++text D[k]:=by unfold X0;rw[Ze8 D k h,ey,ey,ey]
def tB (R:List (Nat×Nat)):List Int:=R.map λx=>(x.1:Int)
def tk (R:List (Nat×Nat)):List Int:=R.map λx=>(x.2:Int)-1
theorem J9 (R:List (Nat×Nat)):(Yq R)=R.length:=by simp[Yq]
theorem Zd1 (R:List (Nat×Nat)) (k:Nat) (h:k<R):(Yq R)[k]'(by rw[J9];exact h)=((R[k].1:Int),(R[k].2:Int)):=by simp[Yq]
theorem Zj2 (R:List (Nat×Nat)) (k:Nat) (h:k<R):tB (R.take (k+1))=tB (R.take k)++[(R[k].1:Int)]:=by unfold tB;rw[dD h,jv];rfl
theorem Zi9 (R:List (Nat×Nat)) (k:Nat) (h:k<R):tk (R.take (k+1))=tk (R.take k)++[(R[k].2:Int)-1]:=by unfold tk;rw[dD h,jv];rfl
theorem A8 (l:List Int) (x:Int):bQ (l++[x])=bQ l++[.int .i64 x]:=by simp[bQ,iv]
theorem Hp (l:List Int):(bQ l)=l.length:=yO
structure Gath (wb w:World) (B:Nat) (v1 v2:Value) (I C:List Int):Prop where
 two:pf wb B 3 v1 (bQ I) v2 (bQ C) w
theorem Z8m (c:Nat) (y4:c<=1) (c8:At w A (bD l)) (c9:∀s∈l,s.size<=128) (n cap:Nat) (M:n=l.length) (I:n<=4096):
  Calls prog 195 #[c,.slice A n cap] w λx w'=>gj w (gB c l,0) x w':=by
 have g7:=Wq c8 (λs Q=>by have:=c9 s Q;omega) n cap M I;have q7:zn l=false:=cG (by rintro⟨s,h1,h2⟩;have:=c9 s h1;omega);rw[q7] at g7;obtain⟨l0,Hd,Ha,b7⟩:=dm g7 (Z40 c8 n cap M I) c8 M;obtain⟨D,c7⟩:=ay (da l);have r1:=Yy l;have i1:=KB c9;rw[c7] at r1 i1;have m5:D.length<=4096:=O;have t:=λw=>Zj (c:Int) O O w;have S:=λw=>Zj (D.length:Int) O O w;simp only[ek] at t S;have k1:=rH c;have k2:=rH D;rw[<-Z0] at k1 k2;have k9:bs (bj c)++bs (bj D)=bs (X0 c D 0):=(by rw[Z8];unfold X0;simp);rw[c7] at Hd;obtain⟨u1,h9,j6⟩:=bF c7 i1 k9;generalize bs (bj c)=s1 at*;generalize bs (bj D.length)=s2 at*;have t:=J t;have S:=J S;have VK:¬(4096:Int)<n:=O;have y8:(((c:Int) !=0)&&((c:Int) !=1))=false:=by have:c=0\/c=1:=O;rcases this with rfl|rfl<;>rfl
 have s0:((c:Int) !=0)=false\/(((c:Int) !=0)=true/\((c:Int) !=1)=false):=by have:c=0\/c=1:=O;rcases this with rfl|rfl;exact .inl rfl;exact .inr ⟨rfl,rfl⟩
 clear c8 M g7 q7 c7 i1 k9 c9 r1 y8;go_in;go_upto_region 1 with fail;go_cut [23] (λi0 wx=>i0=.bool false/\w=wx)
 case first=>
  rcases s0 with g5|⟨g5,g1⟩;.go_wp2;go_meet;case rel=>exact⟨rfl,rfl⟩
  go_wp2;go_meet;case rel=>exact⟨rfl,rfl⟩
 obtain⟨rfl,rfl⟩:=hcut;clear s0;go_wp21;refine cq l0.o ?_;go_wp21;refine(Hd.o).mono ?_;rintro x w1 ⟨v6,rfl,⟨t7,o2,rfl,k5⟩,a9⟩;go_wp21;refine aO (t.o _) λw2 aa=>?_;go_wp21;refine aO (S.o _) λw3 m7=>?_;have i8:=aa.trans (m7.mono aa.size);have s5:=k5.below i8;have q0:=a9.trans (i8.mono a9.size);clear a9 aa m7 i8 k5;go_wp2;rw[j6.o];go_loopw [7,9,41] (λout _ i wr=>∃k:Nat,k<=D/\i=k/\out=.string (bs (X0 c D k))/\At wr t7 (bD D)/\Below w.heap.size w wr) (λ_ _ i _=>(D.length-intOf i).toNat);exact⟨0,O,rfl,rfl,s5,q0⟩;clear s5 q0 l0 Hd t S j6;obtain⟨k,hk,rfl,rfl,c4,a5⟩:=hrel;have g6:=JN c D k h9.o m5;rw[<-Z0] at g6;by_cases ab:k<D;.obtain⟨s,Q⟩:=ay D[k];have s7:=h9.o s (Q▸dr _);obtain⟨bA,oA,y3,bJ,ph⟩:=c4.get k (.string s) (by rw[YD D k ab,Q]);subst y3;have y:=λw=>X6 s O w;have y1:=V7 s s7;rw[<-Z0] at y1;have q9:bs (X0 c D k)++bs (text s)=bs (X0 c D (k+1)):=(by rw[Z8,Z8B c D k ab,Q]);have f8:=J c4;generalize bs (X0 c D k)=S1 at*;generalize bs (text s)=S2 at*;have z3:=J q9;have y:=J y;clear q9 Q c4 s7;go_wp21;refine aO (y.o _) λi6 F=>?_;have y0:=f8.o.below F;have c3:=a5.trans (F.mono a5.size);clear F;go_wp2;go_roundw;exact⟨k+1,O,ck,by rw[z3.o],y0,c3⟩;simp[intOf]<;>omega
 have h4:k=D:=O;subst h4;have r2:=Ha.o.below a5;have b8:=ZjW r2 n cap b7.o I;obtain⟨R,g8⟩:=ay (jq (da l) l);have i3:=YC (da l) l;have ON:=Ga (da l) l;rw[g8] at b8 i3 ON;have a0:=J g8;have l7:=J ON;have e9:R.length<=4096:=(by rw[<-b7.o] at i3;omega);have b8:=J b8;clear g8 ON i3;have l1:=J a5;clear c4 r2 a5 ab;go_wp21;refine(b8.o).mono ?_;rintro x i6 ⟨AR,o3,rfl,k6,F⟩;have c3:=l1.o.trans (F.mono l1.o.size);clear F;simp only[J9];have f8:=J k6;have p9:=J c3;clear k6 c3;go_wp2;go_loopw [10,11,13,53] (λi4 i5 _ i wr=>∃k:Nat,k<=R/\i=k/\pf i6 i6.heap.size 3 i4 (bQ (tB (R.take k))) i5 (bQ (tk (R.take k))) wr) (λ_ _ _ i _=>(R.length-intOf i).toNat);exact⟨0,O,rfl,⟨Zm,Zm,CB,bi _ _,aW⟩⟩;obtain⟨q,y5,rfl,u⟩:=hrel;by_cases a2:q<R
 .have B:=Zj2 R q a2;have z:=Zi9 R q a2;obtain⟨⟨p,g⟩,hrq⟩:=ay R[q];have h8:=l7.o R[q] (dr _);have G:=zi (Yq R) q (by rw[J9];exact a2);rw[Zd1 R q a2] at G;rw[hrq] at B z h8 G;simp only at B z h8 G;have v1:(bQ (tB (R.take q))).length<=4096:=(by rw[Hp];unfold tB;rw[dc,eC];omega);have h5:(bQ (tk (R.take q))).length<=4096:=(by rw[Hp];unfold tk;rw[dc,eC];omega);have i7:=f8.o.below u.bel;obtain⟨x6,z4,q6,FR,z6⟩:=i7.get (q*2) _ G.1;obtain⟨x7,z5,d1,_,h7⟩:=i7.get (q*2+1) _ G.2;rw[q6] at d1;injection d1 with d1;injection d1 with zD z7;subst zD;subst z7;subst q6;unfold iv at z6 h7;have sR:wr.cell? ⟨x6,z4+q*2+1,none⟩=g:=h7;have y6:g<=4096:=(by have:=b7.o;omega);have i2:IntKind.i64.wrap ((g:Int)-1)=(g:Int)-1:=lP;obtain⟨X,h0⟩:=ay (bQ (tB (R.take q)));obtain⟨Y,h3⟩:=ay (bQ (tk (R.take q)));rw[h0] at u v1;rw[h3] at u h5;have u2:Hid (bQ (tB (R.take (q+1)))=X++[.int .i64 (p:Int)]):=J (by rw[B,A8,h0]);have u0:Hid (bQ (tk (R.take (q+1)))=Y++[.int .i64 ((g:Int)-1)]):=J (by rw[z,A8,h3]);have g9:=u.alloc (.cells #[p,g] 315);have b9:=Bk.new wr 315 #[p,g];obtain⟨t1,r4,r5⟩:=Wc (P:=prog) 123 3 _ 8 underlying123 Y1 rfl g9 p ((g:Int)-1:Int) (by rfl) (by rfl) gn O gn O _ _ _ b9 aZ;obtain⟨r6,r7,r8⟩:=Wc (P:=prog) 123 3 _ 8 underlying123 Y1 rfl g9.swap ((g:Int)-1:Int) p (by rfl) (by rfl) gn O gn O _ _ _ b9 aZ;simp only[World.size_alloc] at t1 r4 r5 r6 r7 r8;clear B z G hrq i7 h0 h3 u g9 h8 h7;obtain⟨v2,j5,v3,l2,j7,j8,s8,d7,e4⟩:=t1;obtain⟨yr,yt,zy⟩:=bF j7 j8 s8;have m8:j5.cell? (wr,0)=p:=d7.cell 0;have m9:j5.cell? (wr,1)=g:=d7.cell 1;have o4:l2.cell? (wr,0)=p:=e4.cell 0;have o6:l2.cell? (wr,1)=g:=e4.cell 1;clear j7 j8 s8 d7 e4;obtain⟨v4,j1,v7,l3,j9,k0,s9,d8,NO⟩:=r4;obtain⟨yu,yw,zz⟩:=bF j9 k0 s9;have n2:j1.cell? (wr,0)=p:=d8.cell 0;have n3:j1.cell? (wr,1)=g:=d8.cell 1;have o7:l3.cell? (wr,0)=p:=NO.cell 0;have o8:l3.cell? (wr,1)=g:=NO.cell 1;clear j9 k0 s9 d8 NO;obtain⟨v8,j2,v9,l5,k3,k4,j0,d9,e5⟩:=r5;obtain⟨yy,yz,zA⟩:=bF k3 k4 j0;have n4:j2.cell? (wr,0)=p:=d9.cell 0;have n5:j2.cell? (wr,1)=g:=d9.cell 1;have o9:l5.cell? (wr,0)=p:=e5.cell 0;have p0:l5.cell? (wr,1)=g:=e5.cell 1;clear k3 k4 j0 d9 e5;obtain⟨w0,b0,w9,b1,l8,l9,a6,e1,e6⟩:=r6;obtain⟨u3,u4,f5⟩:=bF l8 l9 a6;have n6:b0.cell? (wr,0)=p:=e1.cell 0;have n7:b0.cell? (wr,1)=g:=e1.cell 1;have p1:b1.cell? (wr,0)=p:=e6.cell 0;have p2:b1.cell? (wr,1)=g:=e6.cell 1;clear l8 l9 a6 e1 e6;obtain⟨x2,b2,x3,b3,m1,m2,a7,e2,e7⟩:=r7;obtain⟨u5,u6,f6⟩:=bF m1 m2 a7;have n8:b2.cell? (wr,0)=p:=e2.cell 0;have n9:b2.cell? (wr,1)=g:=e2.cell 1;have p3:b3.cell? (wr,0)=p:=e7.cell 0;have p4:b3.cell? (wr,1)=g:=e7.cell 1;clear m1 m2 a7 e2 e7;obtain⟨x4,b4,x5,b5,m3,m4,a8,e3,e8⟩:=r8;obtain⟨u7,u8,f7⟩:=bF m3 m4 a8;have o0:b4.cell? (wr,0)=p:=e3.cell 0;have o1:b4.cell? (wr,1)=g:=e3.cell 1;have p5:b5.cell? (wr,0)=p:=e8.cell 0;have p6:b5.cell? (wr,1)=g:=e8.cell 1;clear m3 m4 a8 e3 e8;have z8:(wr.alloc (.cells #[p,g] 315)).cell? (wr,0)=p:=b9.cell 0;have z9:(wr.alloc (.cells #[p,g] 315)).cell? (wr,1)=g:=b9.cell 1;have n0:=World.new_ne _ _ z8;have n1:=World.new_ne _ _ z9;go_upto_region 16 with fail
  go_region_held3 (λW=>W.cell? (wr,0)=p/\W.cell? (wr,1)=g) (first|go_keep)
   ((first|refine g' yr.o ?_|refine g' yt.o ?_|refine g' yu.o ?_|refine g' yw.o ?_|refine g' yy.o ?_|refine g' yz.o ?_|refine g' u3.o ?_|refine g' u4.o ?_|refine g' u5.o ?_|refine g' u6.o ?_|refine g' u7.o ?_|refine g' u8.o ?_))
  all_goals
   go_wp2;go_roundw;.refine⟨q+1,O,ck,?_⟩;rw[u2.o,u0.o];first|exact zy.o|exact zz.o|exact zA.o|exact f5.o.swap|exact f6.o.swap|exact f7.o.swap
   simp[intOf]<;>omega
 have h6:q=R:=O;subst h6;rw[pm] at u;have B:tB R=(nT l).map Int.ofNat:=by unfold tB nT;rw[a0.o,qy];rfl
 have z:tk R=(oK l).map Int.ofNat:=by unfold tk oK;rw[a0.o,qy];refine List.map_congr_left λx y7=> ?_;have:=(l7.o x y7).2.1;show(x.2:Int)-1=((x.2-1:Nat):Int);omega
 have x9:(bQ (tB R))=R.length:=(by rw[Hp];simp[tB]);have x8:(bQ (tk R))=R.length:=(by rw[Hp];simp[tk]);obtain⟨A1,c1,rfl,c5⟩:=Zi u.own1;obtain⟨A2,c2,rfl,f9⟩:=Zi u.own2;have a4:l.length<=4096:=(by rw[<-b7.o];exact I);have f4:(nT l)=R.length:=(by rw[Ql,a0.o]);have f3:(oK l)=R.length:=(by rw[Qe,a0.o]);have f2:(Yj c l)=R.length:=(by rw[YM,a0.o]);rw[B] at c5;rw[z] at f9;have p8:=p9.o.trans (u.bel.mono p9.o.size);obtain⟨y2,z0,j4⟩:=bF c5 f9 p8;have r9:front ((nT l).map Int.ofNat)=(Yn r0 (nT l),0):=by unfold front;rw[aP (Gy (by rw[dc,f4];exact e9) (λn M=>by obtain⟨m,I,rfl⟩:=iV.1 M;have:=Hl l a4 m I;exact⟨by simp,fp⟩)),Xk]
 have d3:=J (ZbW c5 R c1 (by rw[dc,f4]) O);rw[r9] at d3;have d4:=J (C6 c l a4);have d5:=J (Dr l a4);have k7:=Qj (Yj c l) (λv E=>by have:=C6 c l a4 v E;omega);have k8:=Qj (oK l) (λv E=>by have:=Dr l a4 v E;omega);rw[f2] at k7;rw[f3] at k8;have g6:=JN c D D h9.o m5;have m6:sw c l=jj (Yj c l):=rfl;have y9:(text (bs (jj (Yj c l)))).length<=600000:=by unfold text;rw[bT,Zk];have:=rH (bs (jj (Yj c l))).size;omega
 have z2:Hid (bs (X0 c D D)++bs (text (bs (jj (Yj c l))))++bs (jj (oK l))=bs (gB c l)):=J (by rw[Z8,Z8];unfold X0 gB text;rw[pm,u1.o,m6,Zk,Z0]);have d6:=J f2;have l6:=J f3;have s4:(bs (jj (Yj c l))).size<=1099511627776:=qF;have y:=λw=>X6 (bs (jj (Yj c l))) s4 w;have r3:c=0\/c=1:=O;have b6:Hid (c=0->Yj c l=nT l):=J (λh=>by subst h;rfl);have t:Hid (c=1->Yj c l=Yn r0 (nT l)):=J (λh=>by subst h;rfl);rw[<-Z0] at g6 k8 y9;generalize bs (X0 c D D.length)=S1 at*;generalize bs (text (bs (jj (Yj c l))))=S2 at*;have y:=J y;clear a2 y5 u c5 f9 p8 B z f4 f3 f2 r9 m6 k7 s4;rw[x9,x8];go_upto_if 70 with fail;go_cut [10] (λz1 wx=>∃A cap,z1=.slice A R cap/\At wx A (bQ ((Yj c l).map Int.ofNat))/\Below wr wr wx)
 case first=>
  rcases r3 with a3|a3;.have g5:¬((c:Int)=1):=O;have t8:=J (b6.o a3);clear b6 t a3;go_wp2;go_meet;case rel=>exact⟨A1,c1,rfl,by rw[t8.o];exact y2.o,bi _ _⟩
  have g5:((c:Int)==1)=true:=Jv;have j3:=J (t.o a3);have u9:Hid ((Yn r0 (nT l))=R.length):=J (by rw[<-j3.o,d6.o]);clear b6 t a3 y4;go_wp21;refine(d3.o).mono ?_;rintro x w5 ⟨v5,rfl,⟨A5,g3,rfl,c6⟩,a1⟩;go_wp2;go_meet;case rel=>exact⟨A5,g3,by rw[u9.o],by rw[j3.o];exact c6,a1⟩
 obtain⟨A5,g3,rfl,c6,a1⟩:=hcut;clear d3 b6 t r3;have yB:=J (YG c6 R g3 d6.o.symm (by rw[d6.o];exact e9) (λv E=>by have:=d4.o v E;omega));have g4:=j4.o.trans (a1.mono j4.o.size);have s6:=z0.o.below a1;clear c6 a1;go_wp21;refine aO yB.o λw6 g2=>?_;have t9:=J (YG (s6.below g2) R c2 l6.o.symm (by rw[l6.o];exact e9) (λv E=>by have:=d5.o v E;omega));have i9:=g4.trans (g2.mono g4.size);clear s6 g2 g4;go_wp21;refine aO t9.o λw7 p7=>?_;have d2:=i9.trans (p7.mono i9.size);generalize bs (jj (Yj c l))=S3 at*;generalize bs (jj (oK l))=S4 at*;clear p7 i9;go_wp21;refine aO (y.o _) λw8 q8=>?_;have v0:=d2.trans (q8.mono d2.size);clear q8 d2;go_wp2;go_returns;exact⟨by rw[z2.o];rfl,v0⟩
theorem TO (c:Int) (k:At w A (bD l)) (q:∀s∈l,s.size<=9223372036854775807) (n cap:Nat) (p:n=l) (t:n<=9223372036854775807):
  dt 195 #[c,(A,n,cap)] w λx w'=>gj w (MS c l) x w':=by unfold MS;by_cases g:c≠0/\c≠1;rw[aP g];exact ZdR c g.1 g.2 A n cap;rw[az g];have y:c=0\/c=1:=O;obtain⟨c,rfl⟩:=Int.eq_ofNat_of_zero_le (show 0<=c by omega);by_cases hb:4096<l.length\/∃s∈l,128<s.size;rw[aP hb];exact Z8n c O k q n cap p t hb;rw[az hb,ek];exact Z8m c O k (λs u=>by rcases Nat.lt_or_ge 128 s.size with h|h;exact absurd (.inr ⟨s,u,h⟩) hb;exact h) n cap p O
theorem X9 (E:At w A (bD l)) (I:∀s∈l,s.size<=9223372036854775807) (n cap:Nat) (G:n=l) (R:n<=9223372036854775807):
  Calls prog 146 #[(A,n,cap)] w λx w'=>gj w (enc l) x w':=by
 have p:=J (TO 0 E I n cap G R);have u:=J (λw' (h:Below w w w')=>TO 1 (E.below h) I n cap G R);clear E G;unfold enc;unfold MS at p u;rw[az aZ] at p;simp only[show ¬((1:Int)≠0/\(1:Int)≠1) from by exact aZ,if_false] at u;by_cases hb:4096<l.length\/∃s∈l,128<s.size;.simp only[hb,if_true] at p⊢;go_in;go_wp21;refine aO p.o λw1 z=>?_;go_wp2;go_returns;exact C7 9 z
 simp only[hb,if_false,show(0:Int).toNat=0 from rfl,show(1:Int).toNat=1 from rfl] at p u⊢;have Q:=Z0 (gB 0 l);have M:=Z0 (gB 1 l);by_cases ab:(gB 1 l)<(gB 0 l).length;rw[aP ab];have D:((bs (gB 1 l)).size:Int)<((bs (gB 0 l)).size:Int):=(by rw[Q,M];exact Int.ofNat_lt.2 ab);obtain⟨y,q⟩:=ay (bs (gB 0 l));have k:Hid (Calls prog 195 #[(0:Int),(A,n,cap)] w (bN w (.tuple #[y,(0:Int)]))):=J (by rw[<-q];exact p.o);obtain⟨B,t⟩:=ay (bs (gB 1 l));have g:Hid (∀w',Below w w w'->Calls prog 195 #[(1:Int),(A,n,cap)] w' (bN w' (.tuple #[B,(0:Int)]))):=J (by rw[<-t];exact u.o);rw[q,t] at D;have F:Hid (∀w',Below w w w'->gj w (gB 1 l,0) (.returned (.tuple #[B,(0:Int)])) w'):=J (λw' h=>by rw[<-t];exact⟨rfl,h⟩);exact O2;rw[az ab];have D:¬((bs (gB 1 l)).size:Int)<((bs (gB 0 l)).size:Int):=(by rw[Q,M];omega);obtain⟨y,q⟩:=ay (bs (gB 0 l));have k:Hid (Calls prog 195 #[(0:Int),(A,n,cap)] w (bN w (.tuple #[y,(0:Int)]))):=J (by rw[<-q];exact p.o);obtain⟨B,t⟩:=ay (bs (gB 1 l));have g:Hid (∀w',Below w w w'->Calls prog 195 #[(1:Int),(A,n,cap)] w' (bN w' (.tuple #[B,(0:Int)]))):=J (by rw[<-t];exact u.o);rw[q,t] at D;have F:Hid (∀w',Below w w w'->gj w (gB 0 l,0) (.returned (.tuple #[y,(0:Int)])) w'):=J (λw' h=>by rw[<-q];exact⟨rfl,h⟩);exact O2
theorem XG {s:aS} (g:e≠0) (most:Int):bK s e most=(0,s,e):=by unfold bK;grind
theorem KC {s:aS} (g:e≠0) (n:Int):Zb s e n=(bs [],s,e):=by unfold Zb;grind
theorem Zx (h:dI s most=some (n,t)):bK (bs s) 0 (most:Int)=(n,bs t,0)/\n<=most/\t<=s.length:=by
 unfold dI at h;match g:hG s with
 |none=>rw[g] at h;cases h
 |some (m,z)=>rw[g] at h;simp only at h;by_cases l:most<m;exact aI;rw[az l] at h;injection h with h;injection h with h1 k;subst h1;subst k;exact⟨G3 g O,O,aI⟩
theorem Y8 (h:dI s most=none):∃e,e≠0/\bK (bs s) 0 (most:Int)=(0,bs s,e):=by
 unfold dI at h;match g:hG s with
 |none=>exact⟨12,aZ,UK g⟩
 |some (m,z)=>by_cases k:most<m;exact⟨2,aZ,Wu g O⟩;grind
theorem YS {s:aS} (g:e≠0) (most:Int):ZC s e most=(bs [],s,e):=by unfold ZC;rw[XG g];rw[KC g];grind
theorem JV (h:fs s most=some (a,t)):ZC (bs s) 0 (most:Int)=(bs a,bs t,0)/\a<=s.length/\t<=s.length/\a<=most:=by
 unfold fs at h;match hr:dI s most with
 |none=>rw[hr] at h;cases h
 |some (n,u)=>
  obtain⟨h1,g,k⟩:=Zx hr;by_cases l:u<n;exact aI;have p:Zb (bs u) 0 (n:Int)=(bs (u.take n),bs (u.drop n),0):=by unfold Zb;rw[aP rfl,az O,az qF,ek,Zk]
  unfold ZC;grind
theorem Uv (h:fs s most=none):∃e,e≠0/\ZC (bs s) 0 (most:Int)=(bs [],bs s,e):=by
 unfold fs at h;match hr:dI s most with
 |none=>obtain⟨e,h1,g⟩:=Y8 hr;refine⟨e,h1,?_⟩;unfold ZC;rw[g];rw[KC h1];rw[az h1]
 |some (n,u)=>
  obtain⟨h1,g,k⟩:=Zx hr;by_cases l:u<n
  .have p:Zb (bs u) 0 (n:Int)=(bs [],bs u,12):=by unfold Zb;rw[aP rfl,az O,aP qF]
   refine⟨12,aZ,?_⟩;unfold ZC;grind
  grind
theorem UU (h:fs s 128=some (a,t)):Yp (n+1) s=(Yp n t).map λx=>(bs a::x.1,x.2):=by rw[Yp,h];grind
theorem UV (h:fs s 128=none):Yp (n+1) s=none:=by rw[Yp,h]
theorem XX (s:ax) (most:Int):(∀v∈(fq s most).1,0<=v)/\(fq s most).1.length<=4096:=by
 unfold fq;match hG s with
 |none=>simp
 |some (n,z)=>
  simp only;split;simp;split;simp;split;simp;split;.rename_i h;refine⟨h.2,?_⟩;rw[(Ur n t0 (d0 (s.drop z))).1,JP];omega
  simp
theorem Zjo {α:Type} (L:List α) (n:Nat) (v z:α) (h:L<n):(L++List.replicate (n-L.length) z).set L v=(L++[v])++List.replicate (n-(L.length+1)) z:=IV
def pcs (l:List (Int×Int)):Array aJ:=(pv l).toArray
theorem ZpT (l:List (Int×Int)):∀(k:Nat) (x:Int×Int),k<l.length->((pv l).set (k*2) (iv x.1)).set (k*2+1) (iv x.2)=pv (l.set k x):=by
 induction l with
 |nil=>exact aI
 |cons c D ih=>
  intro k x h;have e:pv (c::D)=iv c.1::iv c.2::pv D:=rfl;match k,h with
  |0,_=>rfl
  |k+1,h=>have g:k<D:=aI;have:=ih k x g;rw[e,show(k+1)*2=k*2+1+1 from by exact O,List.set_cons_succ,List.set_cons_succ,List.set_cons_succ,List.set_cons_succ,this];rfl
theorem Znc (l:List (Int×Int)) (k:Nat) (x:Int×Int) (h:k<l):((pcs l).setIfInBounds (k*2) x.1).setIfInBounds (k*2+1) x.2=pcs (l.set k x):=by have:=ZpT l k x h;unfold iv at this;simpa [pcs] using this
theorem Znb (l:List (Int×Int)) (k:Nat) (h:k<l):(pcs l)[k*2]? =some (.int .i64 l[k].1)/\(pcs l)[k*2+1]? =some (.int .i64 l[k].2):=by have:=zi l k h;unfold iv at this;simpa [pcs] using this
theorem Znj (n:Nat):∀i,i<n*2->(pv (List.replicate n (0,0)))[i]? =(0:Int):=by
 induction n with
 |zero=>exact O
 |succ n ih=>
  intro i h;have e:pv (List.replicate (n+1) (0,0))=iv 0::iv 0::pv (List.replicate n (0,0)):=rfl;rw[e];match i,h with
  |0,_=>rfl
  |1,_=>rfl
  |i+2,h=>exact ih i O
theorem Zjc {P:Program} (t e:TypeId) (D:P.underlying t=some (.slice e)) (l:(P.info? e).map (λi=>(i.zero,i.size,i.bytes))=some (some (.agg #[(0:Int),(0:Int)]),2,16))
  (m:Int) (n:Nat) (y:m=n) (hb:n<=4096) (w:au):
  (Instr.makeSlice t m m).run P w=.ok (.slice (some (w,0)) n n) (w.alloc (.cells (pcs (List.replicate n (0,0))) e)):=by obtain⟨i,hi,E,B,F⟩:=info_parts l;subst y;have z:=run_make (P:=P) w t e i _ D hi E .i64 .i64 (n:Int) (n:Int) O O aI O;rw[z,ek,B];congr 3;apply Array.ext;simp[madeCells,pcs,Q8];intro j h1 p;have q:j<n*2:=(by simpa [madeCells] using h1);have u:=Znj n j q;have g:(pcs (List.replicate n (0,0)))[j]? =(0:Int):=(by simpa [pcs] using u);rw[Array.getElem?_eq_getElem p] at g;injection g with g;rw[g];have k:j % 2=0\/j % 2=1:=O;rcases k with k|k<;>simp[madeCells,Value.cells,k]
def vk (w:au) (r:Option bd) (x:Ending) (w':au):Prop:=∃v,x=.returned (.tuple #[v,r.isSome])/\(∀l,r=some l->wW w' v l)/\Below w w w'
theorem Qp {v:aJ} (hb:Below w w w'):vk w none (.returned (.tuple #[v,false])) w':=⟨v,rfl,(λl h=>by cases h),hb⟩
theorem WM (data:aS) (hd:data.size<=1099511627776) (c:Nat) (g:aS) (k:Nat) (S:aS) (e:Nat) (h1:bK data 0 1=(c,g,k)) (l:bK g k 4096=(0,S,e)) (M:e≠0) (B:g.size<=data.size):
  Calls prog 196 #[data] w λx w'=>vk w none x w':=by
 have p:=J (ZT data w);have q:=J (λW (h:RV W w data 0)=>by have:=Zl h hd 1;rw[h1] at this;exact this);have a0:S.size<=g.size:=by have:=Zw (s:=g) (e:=k) (most:=4096);rw[l] at this;exact this
 have t:=J (λW (h:RV W w g k)=>by have:=Zl h (cp B hd) 4096;rw[l] at this;exact this);have Q:=J (λW (h:RV W w S e)=>by have:=ZX h O (data.size:Int);rw[YS M] at this;exact this);have a5:((e:Int) !=0)=true:=fb;clear h1 l M a0 B hd;go_in;go_wp21;refine aO p.o λw1 ⟨F,u⟩=>?_;go_wp21;refine aO (q.o _ F) λa6 ⟨E,an⟩=>?_;have aa:=Zg u aW an;clear F u an;go_wp21;refine aO (t.o _ E) λa4 ⟨I,y⟩=>?_;have D:=Zg aa aW y;have a2:=J I;clear E aa y I p q t;go_wp2;go_loopw [7,23] (λa3 i wr=>a3=.slice none 0 0/\i=(0:Int)/\wr=a4) (λ_ i _=>0);exact⟨rfl,rfl,rfl⟩;obtain⟨rfl,rfl,rfl⟩:=hrel;go_wp21;refine aO (Q.o _ a2.o) λa7 ⟨G,z⟩=>?_;have R:=J (Zf G);have a1:=Zg D aW z;clear G z D;go_wp21;refine cq R.o ?_;go_wp2;go_returns;exact Qp a1
theorem Xs (g:ax) (most:Nat):∃t S e,ZC (bs g) 0 (most:Int)=(t,S,e)/\((e=0/\∃a u,fs g most=some (a,u)/\t=bs a/\S=bs u/\u.length<=g.length/\a.length<=g.length/\a.length<=most)\/(e≠0/\fs g most=none)):=by
 match h:fs g most with
 |none=>obtain⟨e,h1,k⟩:=Uv h;exact⟨_,_,e,k,.inr ⟨h1,rfl⟩⟩
 |some (a,u)=>obtain⟨h1,k,l,p⟩:=JV h;exact⟨_,_,0,h1,.inl ⟨rfl,a,u,rfl,rfl,rfl,l,k,p⟩⟩
theorem Zkc (l:bd) (s:aS):bD (l++[s])=bD l++[.string s]:=by simp[bD,sv]
theorem ZcM {l:List Int} {b:Nat} {s s':aS} (E:At w A (bQ l)) (h:RV w b s e) (z:RV w' b s' e) (u:Fr (only b) w w'):At w' A (bQ l):=by
 intro i hi;obtain⟨g,o,D,hb,t⟩:=E i hi;refine⟨g,o,D,eD hb u.size,?_⟩;by_cases q:g=b
 .subst q;have h1:=Bk.cell h (o+i);have B:=Bk.cell z (o+i);rw[B];rw[t] at h1;rw[h1];have F:(bQ l)[i]=.int .i64 (l[i]'(by simpa [bQ] using hi)):=(by simp[bQ,iv]);rw[F] at h1;match o+i,h1 with
  |0,h1=>simp at h1
  |1,h1=>rfl
  |k+2,h1=>simp at h1
 exact(u.cell (p:=⟨g,_,none⟩) hb (λy=>q y)).trans t
theorem ZfO (data:aS) (hd:data.size<=1000000000) (c n:Nat) (s1 s2:ax) (h1:dI (aH data) 1=some (c,s1)) (h2:dI s1 4096=some (n,s2)):
  Calls prog 196 #[data] w λx w'=>vk w (X5 (aH data)) x w':=by
 have kP:X5 (aH data)=match Yp n s2 with
   |none=>none
   |some (ws,s3)=>
    match fs s3 data.size with
    |none=>none
    |some (a,s4)=>fin c ws (fq a 4096) (fq s4 4096):=by unfold X5;rw[h1];simp only;rw[h2];rfl
 have iC:=J kP;obtain⟨n1,cF,cX⟩:=Zx h1;obtain⟨n2,aE,cU⟩:=Zx h2;have Ta:bK data 0 1=(c,bs s1,0):=n1;have n2':bK (bs s1) 0 4096=(n,bs s2,0):=n2;rw[Z2] at cX;have H0:=J (ZT data w);have H1:=J (λW (h:RV W w data 0)=>by have:=Zl h O 1;rw[Ta] at this;exact this);have H2:=J (λW (h:RV W w (bs s1) 0)=>by have:=Zl h qF 4096;rw[n2'] at this;exact this);obtain⟨i0,hi,dL,cg,dS⟩:=info_parts YR;have nX:=J (And.intro hi (And.intro dL (And.intro cg dS)));have hl:s2<=data.size:=O;clear h1 h2 kP n1 n2 Ta n2' cX cU hi dL cg dS;go_in;go_wp21;refine aO H0.o λw1 ⟨cY,a9⟩=>?_;go_wp21;refine aO (H1.o _ cY) λw2 ⟨bM,an⟩=>?_;have aa:=Zg a9 aW an;clear cY a9 an;go_wp21;refine aO (H2.o _ bM) λw3 ⟨eV,aM⟩=>?_;have ad:=Zg aa aW aM;clear bM aa aM H0 H1 H2;go_wp2;go_loopw [7,23] (λv7 i wr=>∃(ws:bd) (sk:ax),ws<=n/\i=.int .i64 (ws.length:Nat)/\wr.ownsRow w 9 1 v7 ws (bD ws)/\RV wr w (bs sk) 0/\sk<=data.size/\Hid (Yp n s2=(Yp (n-ws.length) sk).map (λx=>(ws++x.1,x.2)))/\Below w w wr) (λ_ i _=>(n-intOf i).toNat);exact⟨[],s2,by simp,rfl,Zm,eV,hl,J (by simp),ad⟩;clear eV ad;obtain⟨ws,sk,hk,rfl,ae,jd,uF,B6,hf⟩:=hrel;obtain⟨A5,cu,lZ,_⟩:=Zi ae;subst lZ;have aK:=J ae;have Va:=J jd;by_cases ab:ws<n
 .obtain⟨t,S,e,iw,bh⟩:=Xs sk 128;have H3:=J (ZX jd qF 128);have ID:ZC (bs sk) 0 128=(t,S,e):=iw;rw[ID] at H3;have tz:n-ws.length=(n-(ws.length+1))+1:=O;have dM:=J bh;have Cf:=J B6.o;rw[tz] at Cf;have Hf:=J hf;have vo:=J uF;clear bh iw ID B6 ae jd hf tz uF;go_wp21;refine aO H3.o λw4 ⟨dH,aQ⟩=>?_;have Ic:=Z6 aK.o aQ (λg hg (e:g=w.heap.size)=>Z1 aK.o Va.o aZ (e▸hg));have aj:=Zg Hf.o aW aQ;obtain⟨jL,zk,aR⟩:=bF dH Ic aj;have bU:=aj.size;have fa:ws+1<=maxLen:=gn;have fl:(ws.length+1)*16<=140737488355328:=O;clear dH Ic aj aQ;obtain⟨hi,dL,cg,dS⟩:=nX.o
  go_wp2_with (
   at_builtin;refine wpList_append_own_at _ rfl (.tmp 25) (.tmp 28) _ rfl w 9 i0 (.string ByteArray.empty) 1 16 underlying23 hi dL cg dS rfl O (.slice A5 ws cu) ws (bD ws) (by rfl) (zk.o.alloc _) ⟨_,0,none⟩ 1 1 [.string t] (by rfl) rfl (Qo _ _ _) t' fa fl (cp bU (by simp)) ?_;intro v' w5 aq ef _ cV;have bo:=J aq;have jJ:=J ef;clear aq ef cV);have CW:RV w5 w S e:=Bk.grown (Bk.alloc jL.o (.cells #[t] 9)) jJ.o (λe=>Z1 zk.o jL.o aZ e.symm);have dJ:Below w w w5:=(aR.o.alloc bU (.cells #[t] 9)).grown jJ.o (cp bU (by simp)) (λj hj=>(zk.o.lt j hj).1);have ho5:w5.ownsRow w 9 1 v' (ws++[t]) (bD (ws++[t])):=by have:=bo.o;rw[bT,Zkc];exact this
  obtain⟨H4,gT,gw,Ho5⟩:=dm (Zf CW) CW dJ ho5;clear CW dJ ho5 bo jJ zk jL aR fa fl bU hi dL cg dS;go_wp21;refine cq H4.o ?_;rcases dM.o with ⟨he,a,u,tJ,rfl,rfl,uH,_⟩|⟨he,tJ⟩;.subst he;have hm:=Cf.o;rw[UU tJ] at hm;have Hm:Hid (Yp n s2=(Yp (n-(ws++[bs a]).length) u).map (λx=>(ws++[bs a]++x.1,x.2))):=J (by rw[hm,bT,Option.map_map];simp[Function.comp_def]);have hlen:(ws++[bs a]).length=ws.length+1:=(by simp);clear hm tJ;go_wp2;go_roundw;exact⟨ws++[bs a],u,O,by rw[hlen];go_num,Ho5.o,gT.o,cp uH vo.o,Hm,gw.o⟩;simp[intOf]<;>omega
  have hm:=Cf.o;rw[UV tJ] at hm;have hr:X5 (aH data)=none:=by rw[iC.o,hm];rfl
  have Hr:=J hr;have aD:((e:Int) !=0)=true:=fb;clear hm tJ hr he;go_wp2;go_returns;rw[Hr.o];exact Qp gw.o
 have bW:n-ws.length=0:=O;have wq:=B6.o;rw[bW,Yp] at wq;simp only[Cl,fu] at wq;have cD:=iC.o;rw[wq] at cD;simp only at cD;have nF:=J cD;obtain⟨t,S,e,iw,bh⟩:=Xs sk data.size;have H3:=J (ZX jd qF (data.size:Int));rw[iw] at H3;have dM:=J bh;have Hf:=J hf;have hwn:ws=n:=O;clear bh iw B6 jd hf bW wq cD iC ae;go_wp21;refine aO H3.o λw4 ⟨dH,aQ⟩=>?_;have Ic:=Z6 aK.o aQ (λg hg (e:g=w.heap.size)=>Z1 aK.o Va.o aZ (e▸hg));have aj:=Zg Hf.o aW aQ;obtain⟨H4,jL,aR,zk⟩:=dm (Zf dH) dH aj Ic;clear dH Ic aj aQ H3 aK Hf;go_wp21;refine cq H4.o ?_;clear H4;rcases dM.o with ⟨he,a,u,tJ,rfl,rfl,uH,fT,ham⟩|⟨he,tJ⟩
 .subst he;have cD:=nF.o;rw[tJ] at cD;simp only at cD;have jG:=J (λW=>Y0 (w:=W) a O 4096);have Di:=J (λW=>Y0 (w:=W) u O 4096);obtain⟨g1,k1⟩:=XX a 4096;obtain⟨g2,k2⟩:=XX u 4096;have HL:=J (λW (h:RV W w (bs u) 0)=>ZB h qF);have HT:=J (λW (h:RV W w (bs u) 0)=>by have:=Zr h qF ((bs u).size:Int);rw[Gi] at this;exact this);generalize fq a 4096=DA at*;generalize fq u 4096=DB at*;obtain⟨LA,ea⟩:=DA;obtain⟨LB,eb⟩:=DB;simp only at g1 k1 g2 k2;have gK:=J cD;have G2:=J g2;clear cD tJ dM nF uH g1 g2;generalize bs a=SA at*;generalize bs u=SU at*;go_wp21;refine(jG.o _).mono ?_;rintro x w7 ⟨v7,rfl,⟨A7,c7,rfl,mR⟩,eB⟩;have AK:=Bk.lt jL.o;have KQ:RV w7 w SU 0:=Bk.below jL.o eB AK;have FX:=aR.o.trans (eB.mono aR.o.size);have ho7:=Z6 zk.o (Fr.of_below (S:=nob) eB) (λg hg h=>h);obtain⟨TV,Uj,DJ,N8,DX,Nd⟩:=fF (HL.o _ KQ) (HT.o _ KQ) mR ho7 FX KQ;clear HL HT KQ mR ho7 FX eB AK zk jL aR jG;go_wp21;refine cq TV.o ?_;go_wp21;refine aO Uj.o λw8 ⟨hr8,sY⟩=>?_;have FY:=Zg DX.o aW sY;have sK:=ZcM DJ.o Nd.o hr8 sY;have Ie:=Z6 N8.o sY (λg hg (e:g=w.heap.size)=>Z1 N8.o Nd.o aZ (e▸hg));obtain⟨DK,V3,yR⟩:=bF sK Ie FY;clear hr8 sY sK Ie FY TV Uj DJ N8 DX Nd;go_wp21;refine(Di.o _).mono ?_;rintro x w9 ⟨v9,rfl,⟨B9,c9,rfl,ie⟩,cL⟩;simp only at ie;have sL:=DK.o.below cL;have If:=Z6 V3.o (Fr.of_below (S:=nob) cL) (λg hg h=>h);have FZ:=yR.o.trans (cL.mono yR.o.size);obtain⟨AW,cW,hvW,sM⟩:=Zi If;injection hvW with bG bx fZ;subst bG;subst fZ;obtain⟨yK,DL,DQ,pJ⟩:=dm sL ie sM FZ;clear sL ie sM FZ If cL DK V3 yR Di bx;have bP:=gK.o;unfold fin at bP;simp only at bP;by_cases c1:ea≠0\/eb≠0\/LA≠LB.length
  .rw[aP c1] at bP;have Hr:=J bP
   have q1:((ea:Int) !=0)=true\/(((ea:Int) !=0)=false/\((eb:Int) !=0)=true)\/(((ea:Int) !=0)=false/\((eb:Int) !=0)=false/\((LA.length:Int) !=LB.length)=true):=by by_cases d1:ea=0;by_cases d2:eb=0;right;right;refine⟨by rw[d1];rfl,by rw[d2];rfl,fb⟩;right;left;refine⟨by rw[d1];rfl,fb⟩;left;exact fb
   clear c1 bP;rcases q1 with q1|⟨q1,q2⟩|⟨q1,q2,q3⟩
   all_goals
    go_wp2;go_returns;rw[Hr.o];exact Qp pJ.o
  rw[az c1] at bP;have d1:ea=0:=O;have d2:eb=0:=O;have d3:LA=LB.length:=O;subst d1;subst d2;have q3:((LA.length:Int) !=LB.length)=false:=(by rw[bne_eq_false_iff_eq];omega);have q1:(((0:Nat):Int) !=0)=false:=rfl;have HU:=J (Z7f yK.o LA c7 rfl O);have Cy:(ZW LA).2=0->(ZW LA).1.length=LA:=by unfold ZW;split;intro _;simp[Xu];rename_i h;intro h2;exact absurd h2 h
  have bp:=J bP;have D3:=J d3;clear c1 bP d3 k2;have sQ:c=1\/c≠1:=O;go_upto_if 68 with fail
  go_cut [9] (λs9 wx=>∃(I:List Int) (A9:bS) (jk:Nat),s9=.slice A9 LA jk/\I=LA.length/\At wx A9 (bQ I)/\Below w9 w9 wx/\
   Hid (X5 (aH data)=if ∃v∈LB,4096<=v then none else if(ZL ws (I.zip (LB.map (· +1))) []).2=0 then some (ZL ws (I.zip (LB.map (· +1))) []).1 else none))
  case first=>
   rcases sQ with h1|h1
   .have g0:((c:Int)==1)=true:=Jv;have an:=bp.o;simp only[h1,if_true,true_and] at an;clear h1 bp cF;obtain⟨U,Wm⟩:=ay (ZW LA);rw[Wm] at HU Cy an;clear Wm;obtain⟨UL,ue⟩:=U;simp only at Cy an;have df:=J an;have LR:=J Cy;clear an Cy;go_wp21;refine(HU.o).mono ?_;rintro x pE ⟨v10,rfl,⟨A10,c10,rfl,sJ⟩,ig⟩;simp only at sJ;have DI:=J sJ;clear sJ HU;simp only[dc];by_cases Sl:ue=0;.subst Sl;have hl:=LR.o rfl;have aM:=df.o;simp only[ne_eq,not_true,if_false] at aM;have hU:=J aM;rw[hl];clear aM df LR;go_wp2;go_meet;case rel=>exact⟨UL.map Int.ofNat,A10,c10,rfl,by rw[dc,hl],DI.o,ig,hU⟩
    have aM:=df.o;rw[aP Sl] at aM;have Hr:=J aM;have bf:=pJ.o.trans (ig.mono pJ.o.size);have q5:((ue:Int) !=0)=true:=fb;clear aM df LR Sl;go_wp2;go_returns;rw[Hr.o];exact Qp bf
   have g0:((c:Int)==1)=false:=pt;have an:=bp.o;simp only[h1,if_false,false_and] at an;have df:=J an;clear h1 bp cF Cy HU an;go_wp2;go_meet;case rel=>exact⟨LA,A7,c7,rfl,rfl,yK.o,bi _ _,df⟩
  clear HU Cy bp;obtain⟨I,A9,jk,rfl,Wa,q7,FT,xG⟩:=hcut;obtain⟨Z,hZ⟩:=ay (I.zip (LB.map (· +1)));have FD:Z=LA.length:=(by rw[<-hZ,List.length_zip,dc,<-D3.o,Wa,Nat.min_self]);have sZ:=xG.o;rw[hZ] at sZ;have tX:=J sZ;have HZ:=J hZ;have cz:=Zjc (P:=prog) 312 315 underlying312 Zl6 (LA.length:Int) LA rfl k1 wc;obtain⟨rO,rQ,yL,rS⟩:=dm (DL.o.below FT) (DQ.o.below FT) q7 (pJ.o.trans (FT.mono pJ.o.size));clear xG sZ hZ q7 FT DL DQ yK pJ;go_wp2;go_loopw [14,81] (λ_ i wr=>∃k:Nat,k<=LA/\i=k/\Bk wr wc 315 (pcs (Z.take k++List.replicate (LA.length-k) (0,0)))/\Hid (∀v∈LB.take k,v<4096)/\Below wc wc wr) (λ_ i _=>(LA.length-intOf i).toNat);exact⟨0,O,rfl,Bk.new _ _ _,J (by simp),(bi _ _).alloc aW _⟩;obtain⟨k,hk,rfl,aA,ao,hf⟩:=hrel;by_cases ab:k<LA
  .have WR:k<LB:=(by rw[<-D3.o];exact ab);have hkI:k<I:=(by rw[Wa];exact ab);have hkZ:k<Z:=(by rw[FD];exact ab);obtain⟨v,hv⟩:=ay LB[k];obtain⟨y,hy⟩:=ay I[k];have L7:Z[k]=(y,v+1):=by simp only[<-HZ.o,List.getElem_zip,uL,hy,hv]
   have wD:=G2.o v (hv▸dr _);have zS:=rO.o.below hf;have q7:=yL.o.below hf;obtain⟨bB,oB,hB,FR,hcB⟩:=zS.get k (.int .i64 v) (by rw[<-hv];simp[bQ,iv,WR]);obtain⟨bI,oI,hI,FT,hcI⟩:=q7.get k y (by rw[<-hy];simp[bQ,iv,hkI]);subst hB;subst hI;by_cases fg:(4096:Int)<=v;.have hr:=tX.o;rw[aP ⟨v,hv▸dr _,fg⟩] at hr;have Hr:=J hr;have bf:=rS.o.trans (hf.mono rS.o.size);clear hr tX hv hy L7 zS q7 aA cz;go_wp2;go_returns;rw[Hr.o];exact Qp bf
   have hlen:(Z.take k)=k:=vW;have wj:=Zjo (Z.take k) LA (y,v+1) (0,0) O;rw[hlen,<-L7,<-dD hkZ] at wj;have IN:(Z.take k++List.replicate (LA.length-k) ((0,0):Int×Int)).length=LA.length:=(by rw[bT,hlen,iK];omega);obtain⟨W,hW⟩:=ay (Z.take k++List.replicate (LA.length-k) ((0,0):Int×Int));rw[hW] at wj IN aA;obtain⟨VH,VI⟩:=Znb W k O;obtain⟨m0,cw⟩:∃m:Int,wr.cell? ⟨wc,k*2,none⟩=m:=⟨_,(aA.cell _).trans VH⟩;obtain⟨m1,cF⟩:∃m:Int,wr.cell? ⟨wc,k*2+1,none⟩=m:=⟨_,(aA.cell _).trans VI⟩;have hfz0:=aA.frozen (k*2);have hfz1:=aA.frozen (k*2+1);have av:=(aA.put (k*2) y).put (k*2+1) (v+1:Int);have gE:=Znc W k (y,v+1) O;simp only at gE;rw[gE,<-L7,wj] at av;have aC:=J av;have cB:Hid (∀u∈LB.take (k+1),u<4096):=J (by intro u hu;rw[dD WR,hv] at hu;exact PN);have i2:IntKind.i64.wrap (v+1)=v+1:=lP;have cP:(0:Int)<=k:=O;have qt:(k:Int)<LA:=O;have hkm2:(k:Int)<LB:=O;have Hf:=J hf;clear av gE wj ao zS q7 aA cz hv hy L7 VH VI hW IN hlen tX HZ rO rQ yL G2 hf;go_upto_region 28 with fail;go_region;go_wp2;go_roundw;exact⟨k+1,O,ck,aC.o,cB,((Hf.o.setCell (p:=⟨wc,k*2,none⟩) aW _).setCell (p:=⟨wc,k*2+1,none⟩) aW _).drew⟩;simp[intOf]<;>omega
  have cP:k=LA:=O;subst cP;rw[fv,List.replicate_zero,fu,<-FD,pm] at aA;have cB:¬∃v∈LB,(4096:Int)<=v:=by rintro⟨v,hv,h4⟩;have:=ao.o v (by rw[D3.o,pm];exact hv);omega
  have hr:=tX.o;rw[az cB] at hr;have FO:At wr (some ⟨wc,0,none⟩) (pv Z):=aA.at_;have sM:=rQ.o.below hf;have bf:=rS.o.trans (hf.mono rS.o.size);have HE:=J (Zbq sM FO n cu LA LA hwn.symm FD.symm O O);obtain⟨⟨X,xe⟩,hX⟩:=ay (ZL ws Z []);rw[hX] at hr HE;simp only at hr;have Hr:=J hr;have uX:=J bf;clear hX hr bf FO sM cB ao aA cz hf tX HZ rO rQ yL rS;go_wp21;refine(HE.o).mono ?_;rintro x yn ⟨v11,rfl,qz,ll⟩;simp only at qz;have bf:=uX.o.trans (ll.mono uX.o.size);by_cases rA:xe=0;.subst rA;have eQ:Hid (X5 (aH data)=some X):=J (by rw[Hr.o,aP rfl]);have Hs:=J qz;clear Hr qz ll;go_wp2;go_returns;rw[eQ.o];exact⟨v11,rfl,(λl h=>by injection h with h;subst h;exact Hs.o),bf⟩
  have eQ:Hid (X5 (aH data)=none):=J (by rw[Hr.o,az rA]);have q9:((xe:Int)==0)=false:=pt;clear Hr qz ll rA;go_wp2;go_returns;rw[eQ.o];exact Qp bf
 have hr:X5 (aH data)=none:=by rw[nF.o,tJ]
 have Hr:=J hr;have aD:((e:Int) !=0)=true:=fb;clear tJ hr he nF dM;go_wp2;go_returns;rw[Hr.o];exact Qp aR.o
