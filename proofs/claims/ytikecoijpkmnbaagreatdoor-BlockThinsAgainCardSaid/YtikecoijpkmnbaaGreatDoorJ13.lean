import Derived.Test.YtikecoijpkmnbaaGreatDoorJ10
set_option linter.all false
set_option maxRecDepth 100000
set_option maxHeartbeats 0
open Go.Proofs.Tryz (prog underlying103 underlying23 underlying294 underlying318 underlying9)
section
variable{P Q:Prop}
theorem yJ(h:P:=by simp[bO]):P:=h
theorem W4X(h:P:=by rw[Z0];omega):P:=h
theorem Fh(h:P:=by rw[Vah];exact F):P:=h
theorem W69(h:P:=by have:=a0.o;omega):P:=h
theorem iF(h:P:=by rw[<-a0.o];exact ab):P:=h
theorem Fs(h:P:=by rw[<-I.o];exact ab):P:=h
theorem Fp(h:P:=by rw[<-a0.o];exact aU):P:=h
theorem Fq(h:P:=by rw[<-I.o];exact aU):P:=h
theorem KS(h:P:=by go_wp2;go_meet;case rel=>exact⟨rfl,rfl⟩):P:=h
theorem E6(h:P:=by obtain⟨A,cap,q,M⟩:=Zh h;exact⟨A,cap,q,M⟩):P:=h
theorem Ri(h:P:=by obtain⟨u,hu,rfl⟩:=Vbm.1 q;have:=h2 u hu;omega):P:=h
theorem I4(h:P:=by clear aa;go_wp2;go_returns;rw[G.o];exact Qt 2 R.o):P:=h
theorem PG(h:P:=by have:=u.o;rw[Vab];unfold bz at this⊢;rw[jy];exact this):P:=h
theorem O6(h:P:=by clear M F;go_in;go_wp21;refine(H.o).mono ?_;rintro x w1 ⟨v,rfl,hi,hb⟩;go_wp2;go_returns;exact⟨v,rfl,hi,hb⟩):P:=h
theorem y'{P:Prop}(h:P:=by go_in;go_wp21;refine aP k.o λw1 E=>?_;go_wp21;refine aP (g.o _ E) λw2 aa=>?_;have hb:=E.trans (aa.mono E.size);go_wp2;go_returns;exact G.o _ hb):P:=h
theorem NP(h:P:=by have b1:=Z9R F;unfold Instr.lookup;simp only[Sem.run_bind,Sem.run_pure,run_underlying ht,Result.andThen_ok,MapKept.run_getObj_map h,LV Q,MapKept.run_findKey Q b1];rfl):P:=h
theorem MA(h:P:=by
 go_wp2_with (
  at_builtin;refine wpList_append_own_at _ rfl (.tmp 41) (.tmp 46) _ rfl w1 297 i0 (.agg #[(0:Int),(0:Int)]) 2 16 underlying294 hi E z B rfl (by omega) (.slice A4 X a2) X (pv X) (by rfl) (d2.o.alloc _) ⟨wr,0,none⟩ 1 1 [iv (q:Int),iv 1] (by rfl) rfl (Za7 _ _ _ _) (by simp[Value.oneCell',iv]) S a1 (co F (by simp)) ?_;intro v' w2 t g _ Q;have u:=J t;have l:=J g;clear t g Q);have R:=(I.o.alloc (.cells #[q,(1:Int)] 297)).grown l.o (λe=>XZ d2.o I.o e.symm);have b6:Below w1 w1 w2:=(y.o.alloc F (.cells #[q,(1:Int)] 297)).grown l.o (co F (by simp)) (λj D=>(d2.o.lt j D).1);have p:=(Ha.o.below M.o).below b6;have a0:w2.ownsRow w1 297 2 v' (X++[((q:Int),(1:Int))]) (pv (X++[((q:Int),(1:Int))])):=by have:=u.o;rw[Vab,Qm];exact this
 go_wp2;go_roundw;case rel=>exact⟨k+1,by omega,by go_num,by rw[b9.o,G.o];exact a0,R,p,b6⟩
 simp[intOf]<;>omega):P:=h
end
namespace Go.Proofs.Y
open Wv Go.RowKit
variable{A:Wto}{l:List Int}{w:aq}
theorem Z2b (M:At w A (bO l)) (n cap:Nat) (F:n=l) (a3:n<=9223372036854775807) (hb:lm l≠0):
  Calls prog 237 #[(A,n,cap),.func (.func 240) #[] #[]] w λx w'=>vC w x w' ([],lm l):=Ng
theorem Z2T {l:List Nat} (d5:At w A (bO (l.map Int.ofNat))) (n cap:Nat) (d6:n=l) (e6:l.length<=4096) (d7:∀v∈l,v<4096):
  Calls prog 237 #[(A,n,cap),.func (.func 240) #[] #[]] w λx w'=>vC w x w' (Yc r0 l,0):=by obtain⟨Ha,a0,z⟩:=bD d5 d6 d7;have f4:n<=4096:=O;have f2:¬(4096:Int)<n:=O;obtain⟨e7,g0,c8⟩:=bD (m_ w) (λ(v:Nat) (h:v<4096)=>show v∈r0 from List.mem_range.2 h) (show r0.length=4096 from rm);clear d5 d6 d7 e6;go_in;go_wp2;go_loop [7,19] (λ_ i=>∃k:Nat,k<=n/\i=k) (λ_ i=>(n-intOf i).toNat);exact Cw;obtain⟨k,f8,rfl⟩:=hrel;by_cases ab:k<n;exact NA;have e4:k=n:=O;subst e4;go_wp21;refine aP e7.o λw1 ⟨c6,c4⟩=>?_;have e2:=c4.size;have d2:=Y5 (P:=prog) 103 3 _ _ underlying103 Y2 rfl (k:Int) k rfl O O w1;rw[<-Kp] at d2;have d4:=Ha.o.below c4;have f6:=c6.lt;have c9:=c6.alloc (.cells (nc (List.replicate k 0)) 3);have aa:=c4.alloc e2 (.cells (nc (List.replicate k 0)) 3);have d8:=d4.alloc (.cells (nc (List.replicate k 0)) 3);have d3:=Bk.new w1 3 (nc (List.replicate k 0));have Q:=J (show w.heap.size<w1.heap.size/\w.heap.size≠w1.heap.size from⟨O,O⟩);clear c6 c4 d4;go_wp2;go_loopw [8,10,11,12,13,36] (λe9 _ _ _ _ i wr=>∃j:Nat,j<=k/\i=j/\e9=.slice (some (w,0)) 4096 4096/\Bk wr w 3 (nc (wE r0 (l.take j)))/\Bk wr w1.heap.size 3 (nc (Yc r0 (l.take j)++List.replicate (k-j) 0))/\At wr A (bO (l.map Int.ofNat))/\Below w w wr) (λ_ _ _ _ _ i _=>(k-intOf i).toNat);exact⟨0,O,rfl,rfl,c9,d3,d8,aa⟩;clear c9 d3 d8 aa d2;obtain⟨j,f7,rfl,rfl,B,g,a2,I⟩:=hrel;have a9:∀m∈l.take j,m<4096:=λm c7=>z.o m (Ag c7);by_cases e5:j<k;have y:j<l:=(by rw[<-a0.o];exact e5);obtain⟨v,q⟩:=ay (l.getD j 0);have a6:v<4096:=PW;obtain⟨f9,g3,S,D,b2⟩:=a2.get j (v:Int) Fo;subst S;obtain⟨F,a5⟩:=Z5S (l.take j) v r0;rw[<-q,<-Sb l j y,q] at F a5;have M:=Xq (l.take j) r0;rw[ek,Nat.min_eq_left O] at M;have a1:(wE r0 (l.take j)).length=4096:=(Zno (l.take j) r0 (λm c7=>by rw[c8.o];exact a9 m c7)).trans c8.o;have b0:True:=trivial;obtain⟨R,t⟩:=ay (wE r0 (l.take j));obtain⟨c3,u⟩:=ay (Yc r0 (l.take j));rw[t] at F a5 B a1;rw[u] at F g M;have E:=J (Z7E B a1 v a6);obtain⟨c5,d9⟩:=ay (R.getD v 0);rw[d9] at F E;clear d9;obtain⟨b7,b9,g1⟩:=bD F a5 B;have a8:=VD c3 k c5 O;rw[M] at a8;have e3:=J a8;have a7:=g.put j (.int .i64 ((c5:Nat):Int));rw[Z0k,e3.o] at a7;have b5:(c3++List.replicate (k-j) 0).length=k:=CA;obtain⟨e1,f5⟩:∃e1:Int,wr.cell? (w1.heap.size,j)=e1:=⟨_,by rw[g.cell,Xj _ _ O]⟩;have f3:=g.frozen j;have b1:=B.off (p:=⟨w1.heap.size,j,none⟩) (Q.o.2) (.int .i64 ((c5:Nat):Int));have b6:=I.setCell (p:=⟨w1.heap.size,j,none⟩) (II Q.o.1) (.int .i64 ((c5:Nat):Int));obtain⟨b3,a4,a3⟩:=bD (VC b1 a1 v (by exact a6)) a7 b6;exact NY;have e8:j=k:=O;subst e8;have G:l.take j=l:=d' (by rw[<-a0.o];exact aU);rw[G,fh,List.replicate_zero,fg] at g;have b4:=J g.at_;have M:=J (Xq l r0);exact NM
theorem Rq (h:∀n∈l,0<=n/\n<4096):(l.map Int.toNat).map Int.ofNat=l:=by rw[qx];refine(List.map_congr_left λn g=> ?_).trans (List.map_id l);exact Int.toNat_of_nonneg (h n g).1
theorem Zbb (p:At w A (bO l)) (n cap:Nat) (F:n=l) (t:n<=9223372036854775807):
  cK 237 #[(A,n,cap),.func (.func 238) #[] #[]] w λx w'=>vC w x w' (front l):=by by_cases g:lm l=0;obtain⟨h1,h2⟩:=Gs g;have e:=Rq h2;have k:front l=(Yn r0 (l.map Int.toNat),0):=(by unfold front;rw[Vag g]);rw[k];exact Z56 (by rw[e];exact p) n cap Fh (by rw[Vah];exact h1) (λv q=>Ri);have k:front l=([],lm l):=(by unfold front;rw[Vae g]);rw[k];exact Z3Z p n cap F t g
theorem Z6v (p:At w A (bO l)) (n cap:Nat) (F:n=l) (t:n<=9223372036854775807):
  cK 237 #[(A,n,cap),.func (.func 240) #[] #[]] w λx w'=>vC w x w' (ZX l):=by by_cases g:lm l=0;obtain⟨h1,h2⟩:=Gs g;have e:=Rq h2;have k:ZX l=(Yc r0 (l.map Int.toNat),0):=(by unfold ZX;rw[Vag g]);rw[k];exact Z2T (by rw[e];exact p) n cap Fh (by rw[Vah];exact h1) (λv q=>Ri);have k:ZX l=([],lm l):=(by unfold ZX;rw[Vae g]);rw[k];exact Z2b p n cap F t g
theorem ZbN (M:At w A (bO l)) (n cap:Nat) (F:n=l) (g:n<=9223372036854775807):
  Calls prog 210 #[(A,n,cap)] w λx w'=>vC w x w' (front l):=by have H:=J (Zbb M n cap F g);generalize front l=r at*;exact O6
theorem Z78 (M:At w A (bO l)) (n cap:Nat) (F:n=l) (g:n<=9223372036854775807):
  Calls prog 211 #[(A,n,cap)] w λx w'=>vC w x w' (ZX l):=by have H:=J (Z6v M n cap F g);generalize ZX l=r at*;exact O6
def bz (l:a'):List aI:=l.map sv
theorem YD (l:a') (i:Nat) (h:i<l):(bz l)[i]? =some (.string l[i]):=by simp[bz,sv,fb h]
theorem Zev (s:aT) (g:s.size<=9223372036854775807) (w:aq):
  Calls prog 207 #[s] w λx w'=>x=.returned (decide (128<s.size))/\w=w':=by have h:=J (show decide ((128:Int)<s.size)=decide (128<s.size) from by rw[lN,Vax,Vax];omega);go_in;go_wp2;go_ret;exact⟨Z4 h.o,rfl⟩
def Zqq (w:aq) (L:Bool) (x:Ending) (w':aq):Prop:=((∃k:Nat,k<=4096/\L=true/\x=.returned k)\/(L=false/\x=.returned (-1:Int)))/\w=w'
def zk (l:a'):Bool:=decide (∃s∈l,128<s.size)
theorem Vz {l:a'} (D:At w A (bz l)) (B:∀s∈l,s.size<=9223372036854775807) (n cap:Nat) (E:n=l) (a3:n<=4096):
  Calls prog 206 #[(A,n,cap),.func (.func 207) #[] #[]] w λx w'=>x=.returned (zk l)/\w=w':=by
 have H:Hid (Calls prog 235 #[(A,n,cap),.func (.func 207) #[] #[]] w λx w'=>Zqq w (zk l) x w'):=J (by
  obtain⟨Ha,a0,M⟩:=bD D E B;clear D E B;go_in;go_wp2;go_loop [5,8] (λ_ i=>∃k:Nat,k<=n/\i=k/\Hid (∀s∈l.take k,¬128<s.size)) (λ_ i=>(n-intOf i).toNat);exact⟨0,O,rfl,J (by simp)⟩;obtain⟨k,S,rfl,G⟩:=hrel;by_cases ab:k<n
  .have F:k<l:=iF;obtain⟨s,q⟩:=ay l[k];obtain⟨a1,a4,R,a2,a5⟩:=Ha.o.get k (.string s) (by rw[YD l k F,q]);subst R;have g:=Zev s (M.o s (q▸dt _)) w;by_cases p:128<s.size;.rw[dd p] at g;have g:=J g;have t:zk l=true:=dd ⟨s,q▸dt _,p⟩;have y:=J t;clear t p q;go_wp21;refine cp g.o ?_;go_wp2;go_ret;exact⟨.inl ⟨k,O,y.o,rfl⟩,rfl⟩
   rw[Vai p] at g;have g:=J g;have z:Hid (∀u∈l.take (k+1),¬128<u.size):=J (by intro u I;rw[dK F,q] at I;rcases lc.1 I with h|h;exact G.o u h;rw[jv] at h;rw[h];exact p);clear p q;go_wp21;refine cp g.o ?_;exact Pj
  have t:zk l=false:=Vai (by rintro⟨s,h1,Q⟩;refine G.o s ?_ Q;rwa [d' (by rw[<-a0.o];omega)]);have y:=J t;clear t;go_wp2;go_ret;exact⟨.inr ⟨y.o,rfl⟩,rfl⟩);clear D B E;generalize zk l=L at*;go_in;go_wp21;refine(H.o).mono ?_;rintro x w1 ⟨⟨k,S,rfl,rfl⟩|⟨rfl,rfl⟩,rfl⟩;exact Ai;exact Ai
end Go.Proofs.Y
namespace Wv
open Go Go.RowKit
variable{b:Nat}{l:a'}{s:aT}{w w':aq}
def ur:Nat->a'->List MapEntry
 |_,[]=>[]
 |k,a::t=>⟨.string a,.int .i64 (k:Int),k⟩::ur (k+1) t
def ww (l:a'):Array MapEntry:=(ur 0 l).toArray
theorem ZdO (l:a') (s:aT):∀k,ur k (l++[s])=ur k l++[⟨.string s,.int .i64 ((k+l.length:Nat):Int),k+l.length⟩]:=by
 induction l with
 |nil=>intro k;rfl
 |cons a t ih=>intro k;rw[jw,ur,ih,ur,gd,show k+1+t.length=k+(t.length+1) from by exact O];rfl
theorem ZdP (l:a') (s:aT):ww (l++[s])=(ww l).push ⟨.string s,.int .i64 (l.length:Int),l.length⟩:=by unfold ww;rw[ZdO];grind
theorem TG (s:aT) (l:a'):∀k i,(s∈l->Instr.findNow .string (.string s) (ur k l) i=some (some (i+ix l s,.int .i64 ((k+ix l s:Nat):Int))))/\(s∉l->Instr.findNow .string (.string s) (ur k l) i=some none):=by
 induction l with
 |nil=>intro k i;exact⟨λh=>absurd h (Ci),λ_=>rfl⟩
 |cons a t ih=>
  intro k i;obtain⟨r,g,q⟩:=MapKept.sameNow_of_keys (d:=.string) (a:=.string s) (b:=.string a) trivial trivial;cases r with
  |true=>have h1:Value.string s=Value.string a:=q.1 rfl;injection h1 with h1;subst h1;have p:ix (s::t) s=0:=(by simp[ix]);exact⟨λ_=>by rw[ur,Instr.findNow,g,p];rfl,λh=>absurd fi h⟩
  |false=>have h1:a≠s:=λe=>aO;have p:ix (a::t) s=ix t s+1:=(by rw[ix,Vae h1]);refine⟨λh=> ?_,λh=> ?_⟩;rw[ur,Instr.findNow,g,p];grind;rw[ur,Instr.findNow,g];grind
theorem Z9R (h:s∈l):Instr.findNow .string (.string s) (ww l).toList 0=some (some (ix l s,.int .i64 (ix l s:Nat))):=by have:=(TG s l 0 0).1 h;simpa [ww] using this
theorem WR (h:s∉l):Instr.findNow .string (.string s) (ww l).toList 0=some none:=by have:=(TG s l 0 0).2 h;simpa [ww] using this
def kH (w:aq) (b:Nat) (l:a'):Prop:=w.heap[b]? =some (.map (ww l) l)
theorem kH.lt (h:kH w b l):b<w:=(Array.getElem?_eq_some_iff.1 h).1
theorem kH.fr {S:Nat->Prop} (h:kH w b l) (g:Fr S w w') (hb:¬S b):kH w' b l:=(g.block b h.lt hb).trans h
theorem kH.alloc (h:kH w b l) (o:Obj):kH (w.alloc o) b l:=(Below.heap_alloc w o b h.lt).trans h
theorem kH.grown {row:Option Nat} (h:kH w b l) (k:w.grownBy w' row) (g:some b≠row):kH w' b l:=(k.block b h.lt g).trans h
def u' (w:aq) (b:Nat) (l:a'):aq:= { w with heap:=w.heap.setIfInBounds b (.map (ww l) l) }
theorem Zg4 {l':a'} (h:kH w b l):kH (u' w b l') b l':=by have:=h.lt;simp[kH,u',this]
theorem UE {S:Nat->Prop} {a:aq} (h:Fr S a w) (hb:S b\/a<=b):Fr S a (u' w b l):=
 ⟨h.os,h.tape,h.output,by simpa [u'] using h.size,λk g p=>by refine Eq.trans ?_ (h.block k g p);have:b≠k:=aO;simp[u',this]⟩
theorem LV {P:Program} {k:TypeId} (g:P.underlying k=some .string) (e:Bool) (s:aT) (W:aq):(Instr.checkKey e 10000 k (.string s)).run P W=.ok () W:=
 MapKept.run_checkKey (w:=W) g (show MapKept.IsKey .string (.string s) from trivial) e 9999
theorem ZmN {P:Program} {t k e:TypeId} (y:P.underlying t=some (.map k e)) (g:P.underlying k=some .string) (h:kH w b l) (s:aT) (u:s∉l):
  (Instr.mapUpdate t (.map (some b)) (.string s) (l.length:Int)).run P w=.ok () (u' w b (l++[s])):=by have q:=λo=>MapKept.run_setObj_map (P:=P) o h;have p:=WR u;unfold Instr.mapUpdate;simp only[Sem.run_bind,run_underlying y,Result.andThen_ok,MapKept.run_getObj_map h,LV g,MapKept.run_findKey g p,q];unfold u';rw[ZdP];simp
theorem Zpr {P:Program} {t k e:TypeId} (ht:P.underlying t=some (.map k e)) (Q:P.underlying k=some .string) (h:kH w b l) (s:aT) (F:s∈l):
  (Instr.lookup t (.map (some b)) (.string s) true).run P w=.ok (.tuple #[((ix l s:Nat):Int),true]) w:=NP
theorem Zpq {P:Program} {t k e:TypeId} (u:P.underlying t=some (.map k e)) (g:P.underlying k=some .string) (h:kH w b l) (s:aT) (q:s∉l) (y:(zeroValue e).run P w=.ok (0:Int) w):
  (Instr.lookup t (.map (some b)) (.string s) true).run P w=.ok (.tuple #[(0:Int),false]) w:=by have p:=WR q;unfold Instr.lookup;simp only[Sem.run_bind,Sem.run_pure,run_underlying u,Result.andThen_ok,MapKept.run_getObj_map h,LV g,MapKept.run_findKey g p,y];rfl
theorem ZmM {P:Program} {t k e:TypeId} (ht:P.underlying t=some (.map k e)) (Q:P.underlying k=some .string) (h:kH w b l) (s:aT) (F:s∈l):
  (Instr.lookup t (.map (some b)) (.string s) false).run P w=.ok (.int .i64 (ix l s:Nat)) w:=NP
end Wv
namespace Go.Proofs.Y
open Wv Go.RowKit
variable{A:Wto}{base e:Nat}{l:a'}{v:aI}{w:aq}
theorem YN:(prog.info? 9).map (λi=>(i.zero,i.size,i.bytes))=some (some (.string ByteArray.empty),1,16):=dw
theorem Q_ (w:aq):(zeroValue 3).run prog w=.ok (0:Int) w:=dw
theorem Zdr (l:a') (k:Nat) (h:k<l):(l[k]∈cT (l.take k)->cT (l.take (k+1))=cT (l.take k))/\(l[k]∉cT (l.take k)->cT (l.take (k+1))=cT (l.take k)++[l[k]]):=by rw[dK h,CT];exact⟨λh=>by rw[Vag h],λh=>by rw[Vae h]⟩
def wW (w:aq) (v:aI) (l:a'):Prop:=∃A cap,v=.slice A l cap/\At w A (bz l)
theorem wW.nil (w:aq):wW w (.slice none 0 0) []:=⟨none,0,rfl,At.nil _ _⟩
theorem VX (h:w.ownsRow base e 1 v l (bz l)):wW w v l:=E6
def IdxR (w:aq) (l:a') (x:Ending) (w':aq):Prop:=
 ∃v b,x=.returned (.tuple #[v,.map (some b)])/\w.heap.size<=b/\w'.ownsRow w 9 1 v (cT l) (bz (cT l))/\kH w' b (cT l)/\Below w w w'
theorem XZ {size n b:Nat} {xs:List aI} (h:w.ownsRow base e size v n xs) (k:kH w b l):v.ownBlock≠some b:=by rcases h.2 with ⟨rfl,_⟩|⟨q,cap,p,rfl,_,g,_⟩;exact W4f;intro t;have:q=b:=(by simpa [Value.ownBlock] using t);subst this;unfold kH at k;rw[k] at g;cases g
theorem TP (a1:At w A (bz l)) (n cap:Nat) (b0:n=l) (f3:n<=4096):
  Calls prog 236 #[(A,n,cap)] w λx w'=>IdxR w l x w':=by
 have f4:= @run_makeMap prog;have Ha:=J a1;have a0:=J b0;obtain⟨i0,hi,E,z,B⟩:=info_parts YN;have d8:=J (And.intro hi (And.intro E (And.intro z B)));have d6:Below w w (w.alloc (.map #[] 0)):=(bf _ _).alloc aU _;have d7:kH (w.alloc (.map #[] 0)) w.heap.size []:=heap_alloc_new w _;have b5:=a1.alloc (.map #[] 0);clear a1 b0 hi E z B;go_in;go_wp2;go_loopw [4,7,8,9,13] (λe5 _ _ _ i wr=>∃k:Nat,k<=n/\i=k/\wr.ownsRow w 9 1 e5 (cT (l.take k)) (bz (cT (l.take k)))/\kH wr w (cT (l.take k))/\At wr A (bz l)/\Below w w wr) (λ_ _ _ _ i _=>(n-intOf i).toNat);exact⟨0,O,rfl,Zl,d7,b5,d6⟩;obtain⟨k,f2,rfl,q,p,a4,F⟩:=hrel;by_cases ab:k<n
 .have a3:k<l:=iF;obtain⟨s,b1⟩:=ay l[k];obtain⟨e7,f5,c7,e8,f6⟩:=a4.get k (.string s) (by rw[YD l k a3,b1]);subst c7;obtain⟨Q,R⟩:=Zdr l k a3;rw[b1] at Q R;have a8:=Yz (l.take k);rw[ek] at a8;obtain⟨D,c8⟩:=ay (cT (l.take k));rw[c8] at Q R q p a8;by_cases y:s∈D;.have d4:=Zpr (P:=prog) underlying318 underlying9 p s y;obtain⟨Hd,t,G⟩:=bD (Q y) q p;go_wp2;go_roundw;exact⟨k+1,O,ci,by rw[Hd.o];exact t.o,by rw[Hd.o];exact G.o,a4,F⟩;simp[intOf]<;>omega
  have d4:=Zpq (P:=prog) underlying318 underlying9 p s y (Q_ wr);have d5:=ZmN (P:=prog) underlying318 underlying9 p s y;obtain⟨A4,b3,d9,e9⟩:=Zh q;have e3:=XZ q p;subst d9;have a6:(u' wr w (D++[s])).ownsRow w 9 1 (.slice A4 D b3) D (bz D):=Z6 q (UE (S:=λj=>j=w.heap.size) (Fr.refl _ wr) (.inl rfl)) (λg d3 e=>e3 (by rw[d3,e]));have b4:=Zg4 (l':=D++[s]) p;have I:Below w w (u' wr w (D++[s])):=F.trans ((UE (S:=λj=>j=w.heap.size) (Fr.refl _ wr) (.inl rfl)).toBelow' F.size (λj a9 e=>O));have e1:=R y;have c5:D+1<=maxLen:=fU;have c6:(D.length+1)*16<=140737488355328:=O;obtain⟨W,c9⟩:=ay (u' wr w (D++[s]));rw[c9] at d5 a6 b4 I;obtain⟨Hd,t,G,c4⟩:=dc e1 a6 b4 I;have M:=I.size;have e6:=J p.lt;obtain⟨hi,E,z,B⟩:=d8.o
  go_wp2_with (
   at_builtin;refine wpList_append_own_at _ rfl (.tmp 29) (.tmp 31) _ rfl w 9 i0 (.string ByteArray.empty) 1 16 underlying23 hi E z B rfl O (.slice A4 D b3) D (bz D) (by rfl) (t.o.alloc _) ⟨W,0,none⟩ 1 1 [.string s] (by rfl) rfl (Ql _ _ _) sX c5 c6 (co M (by simp)) ?_;intro e4 w1 a5 a7 _ b9;have u:=J a5;have b2:=J a7;clear a5 a7 b9);have c3:=(G.o.alloc (.cells #[s] 9)).grown b2.o (λe=>XZ (t.o) G.o e.symm);have a2:Below w w w1:=(c4.o.alloc M (.cells #[s] 9)).grown b2.o (co M (by simp)) (λj a9=>(t.o.lt j a9).1);have b6:=Ha.o.below a2;have e2:w1.ownsRow w 9 1 e4 (D++[s]) (bz (D++[s])):=PG;go_wp2;go_roundw;exact⟨k+1,O,ci,by rw[Hd.o];exact e2,by rw[Hd.o];exact c3,b6,a2⟩;simp[intOf]<;>omega
 have b8:k=n:=O;subst b8;have b7:l.take k=l:=d' Fp;rw[b7] at q p;go_wp2;go_returns;exact⟨_,_,rfl,aU,q,p,F⟩
def DRes (w:aq) (l:a') (x:Ending) (w':aq):Prop:=∃v,x=.returned v/\wW w' v l/\Below w w w'
theorem Z3Y (g:At w A (bz l)) (n cap:Nat) (k:n=l) (q:n<=4096):
  Calls prog 208 #[(A,n,cap)] w λx w'=>DRes w (cT l) x w':=by have H:=J (TP g n cap k q);clear g k;go_in;go_wp21;refine(H.o).mono ?_;rintro x w1 ⟨v,b,rfl,hb,t,y,p⟩;have u:=VX t;go_wp2;go_ret;exact⟨v,rfl,u,p⟩
end Go.Proofs.Y
namespace Wv
open Go Go.RowKit
variable{base cap g n size:Nat}{w:aq}{xs:List aI}
theorem Zjc {e:TypeId} (h:w.ownsRow base e size (.slice (some (g,0)) n cap) n xs) (i:Nat) (u:aI):
  (w.setCell (g,i) u).ownsRow base e size (.slice (some (g,0)) n cap) n (xs.set i u):=by refine⟨by rw[od];exact h.1,?_⟩;rcases h.2 with ⟨y,_⟩|⟨I,F,l,B,hb,z,D,E,q,p⟩;cases y;injection B with k G t;injection k with k;injection k with k;subst k;subst t;refine .inr ⟨g,cap,l.setIfInBounds i u,rfl,hb,?_,D,E,by rw[Array.size_setIfInBounds];exact q,?_⟩;simp[World.setCell,Array.getElem?_modify,z];rw[<-p,Array.toList_setIfInBounds,List.take_set]
theorem ZeV {e:TypeId} (h:w.ownsRow base e size (.slice (some (g,0)) n cap) n xs) (i:Nat) (u:aI) (p:xs[i]? =some u):
  w.cell? (g,i)=some u/\w.frozen? (g,i)=false:=by have h1:=h.cells (g:=g) rfl i u p;have:(⟨g,0,none⟩:Addr).add i=⟨g,i,none⟩:=(by unfold Addr.add;split<;>simp_all);rw[this] at h1;refine⟨h1,?_⟩;rcases h.2 with ⟨l,_⟩|⟨y,t,k,q,hb,R,_⟩;cases l;exact Pa
theorem ZeX {e:TypeId} {v:aI} (h:w.ownsRow base e size v n xs) (z:0<n):∃g cap,v=.slice (some ⟨g,0,none⟩) n cap/\n<=cap:=by rcases h.2 with ⟨_,u⟩|⟨p,k,l,t,hb,y,q,_⟩;exact O;exact⟨p,k,t,q⟩
theorem Za7 (w:aq) (t:TypeId) (a b:aI):∀(j:Nat) (u:aI),[a,b][j]? =some u->(w.alloc (.cells #[a,b] t)).cell? ((⟨w,0,none⟩:Addr).add j)=some u:=by intro j u h;rw[Go.WideShapes.add_plain,jK];have:=(Bk.new w t #[a,b]).cell j;rw[this];simpa using h
theorem Znc (l:List (Int×Int)) (x:Int×Int) (c:Int):(pv (l++[x])).set (l.length*2+1) (iv c)=pv (l++[(x.1,c)]):=by rw[Qm,Qm,nj _ _ (by rw[Q0];omega),Q0,show l.length*2+1-l.length*2=1 from by exact O];rfl
theorem Qw {a b:aT} :(a.toList==b.toList)=decide (a=b):=by rw[lN,beq_iff_eq,Vax,ByteArray.toList_eq,ByteArray.toList_eq];exact ZnQ
end Wv
namespace Go.Proofs.Y
open Wv Go.RowKit
variable{A:Wto}{a s t:ax}{e most n:Nat}{l:a'}{w w':aq}
theorem T3:(prog.info? 297).map (λi=>(i.zero,i.size,i.bytes))=some (some (.agg #[(0:Int),(0:Int)]),2,16):=dw
theorem ZfY (d l:a') (k:Nat) (h:k<l):
  (0<k->l[k-1]? =some l[k]->runs d (l.take (k+1))=xI (runs d (l.take k)))/\((k=0\/l[k-1]? ≠some l[k])->runs d (l.take (k+1))=runs d (l.take k)++[(ix d l[k],1)]):=by
 have g:0<k->(l.take k).getLast? =l[k-1]? :=by intro h0;rw[List.getLast?_eq_getElem?,ek,Nat.min_eq_left O,List.getElem?_take_of_lt O]
 rw[dK h,Q4];refine⟨λh0 q=> ?_,λp=> ?_⟩;rw[g h0,Vag q];rcases rS k with h0|h0;subst h0;rw[Vae (by simp)];rw[g h0,Vae (p.resolve_left O)]
theorem ZfX (d l:a') (k:Nat) (h:k<l):∃xs c,runs d (l.take (k+1))=xs++[(ix d l[k],c)]/\1<=c:=by rw[dK h];exact ZfW d (l.take k) l[k]
def PRes (w:aq) (r:List (Int×Int)) (x:Ending) (w':aq):Prop:=∃A cap,x=.returned (.slice A r cap)/\At w' A (pv r)/\Below w w w'
theorem ZjO (e3:At w A (bz l)) (n cap:Nat) (e4:n=l) (i3:n<=4096):
  Calls prog 209 #[(A,n,cap)] w λx w'=>PRes w (Yq (runs (cT l) l)) x w':=by
 obtain⟨H,Ha,a0⟩:=bD (TP e3 n cap e4 i3) e3 e4;obtain⟨i0,hi,E,z,B⟩:=info_parts T3;have i7:=J (And.intro hi (And.intro E (And.intro z B)));obtain⟨a4,e8⟩:=ay (cT l);have g6:=J (λs (a8:s∈l)=>show s∈a4 from e8▸(YZ l s).2 a8);have g3:=J e8;clear e3 e4 hi E z B e8;go_in;go_wp21;refine(H.o).mono ?_;rintro x w1 ⟨v,b,rfl,hb,j9,e1,b2⟩;rw[g3.o] at e1;have h7:=Ha.o.below b2;go_wp2;go_loopw [5,6,7,15] (λj0 _ _ i wr=>∃k:Nat,k<=n/\i=k/\wr.ownsRow w1 297 2 j0 (Yq (runs a4 (l.take k))) (pv (Yq (runs a4 (l.take k))))/\kH wr b a4/\At wr A (bz l)/\Below w1 w1 wr) (λ_ _ _ i _=>(n-intOf i).toNat);exact⟨0,O,rfl,Zl,e1,h7,bf _ _⟩;have j2:=J e1.lt;obtain⟨k,j8,rfl,a3,b1,b5,a9⟩:=hrel;by_cases ab:k<n
 .have f6:k<l:=iF;obtain⟨s,a8⟩:=ay l[k];have f3:=g6.o s (a8▸dt _);obtain⟨f7,g2,h8,j3,k1⟩:=b5.get k (.string s) (by rw[YD l k f6,a8]);subst h8;obtain⟨c6,c7⟩:=ZfY a4 l k f6;rw[a8] at c6 c7;have b0:=YC a4 (l.take k);rw[ek] at b0;by_cases c5:0<k/\l[k-1]? =some s
  .obtain⟨h0,c8⟩:=c5;have g5:=b5.get (k-1) (.string s) (by rw[bz,jX,c8];rfl);obtain⟨d7,e7,a5,_,b4⟩:=g5;injection a5 with a5;injection a5 with a5 f2;subst a5;subst f2;obtain⟨xs,c,b3,j4⟩:=ZfX a4 l (k-1) O;rw[show k-1+1=k from by exact O] at b3;obtain⟨q,b8⟩:=ay (ix a4 (l[k-1]'O));rw[b8] at b3;have d9:=c6 h0 c8;rw[b3,J2] at d9;rw[b3] at a3 b0;have f9:Yq (xs++[(q,c)])=Yq xs++[((q:Int),(c:Int))]:=(by simp[Yq]);have a6:Yq (xs++[(q,c+1)])=Yq xs++[((q:Int),(c:Int)+1)]:=(by simp[Yq]);rw[f9] at a3;have e2:=Znc (Yq xs) ((q:Int),(c:Int)) ((c:Int)+1);obtain⟨X,a7⟩:=ay (Yq xs);have d5:X=xs.length:=(by rw[<-a7];simp[Yq]);rw[a7] at a3 e2 a6;rw[Vab,pg] at a3;obtain⟨g,f8,i6,j1⟩:=ZeX a3 O;subst i6;have h2:=ZeV a3 (X.length*2+1) (iv (c:Int)) (by have:=(zf (X++[((q:Int),(c:Int))]) X (by simp)).2;simpa using this);obtain⟨q1,q2⟩:=h2;have d6:=Zjc a3 (X.length*2+1) (iv ((c:Int)+1));rw[e2] at d6;have j7:c<=4096:=by have:=(FK a4 (l.take k) (q,c) (by rw[b3];simp)).2.2;rw[ek] at this;simp only at this;omega
   have d4:=a9.setCell (p:=⟨g,X.length*2+1,none⟩) ((a3.lt g rfl).1) (iv ((c:Int)+1));have j6:xs+1<=k:=by rw[Vab,pg] at b0;omega
   have g1:X.length<=4096:=O;have i1:((X.length:Int)+1)-1=(X.length:Int):=O;have b7:kH (wr.setCell ⟨g,X.length*2+1,none⟩ (iv ((c:Int)+1))) b a4:=(Below.heap_setCell wr ⟨g,X.length*2+1,none⟩ _ b (by intro e;exact XZ a3 b1 (by show some g=some b;rw[e]))).trans b1;have f4:At (wr.setCell ⟨g,X.length*2+1,none⟩ (iv ((c:Int)+1))) (some ⟨f7,g2,none⟩) (bz l):=(Ha.o.below b2).below d4;have h9:(s.toList==s.toList)=true:=(by simp);have d8:(0:Int)<k:=O;have e5:(k:Int)-1=((k-1:Nat):Int):=O;obtain⟨e6,c3⟩:=ay (k-1);rw[c3] at e5 b4;have g7:(e6:Int)<n:=O;have k0:w1<=g:=(a3.lt g rfl).1;unfold iv at q1;obtain⟨i9,G,g8,d3,d1,c9⟩:=fA d9 a6 d6 b7 f4 d4;clear c6 c7 a8 b3 d9 f9 a6 e2 a7 d5 a3 d6 b7 f4 d4 b8 b1 b5 b0 c3 f3 c8 a9;go_wp2;go_roundw;refine⟨k+1,O,ci,?_,d3.o,d1.o,c9.o⟩;rw[i9.o,G.o,Vab,pg];exact g8.o;simp[intOf]<;>omega
  have f5:k=0\/l[k-1]? ≠some s:=by rcases rS k with h0|h0;exact .inl h0;exact .inr (λh=>c5 ⟨h0,h⟩)
  have c4:=c7 f5;have i2:=ZmM (P:=prog) underlying318 underlying9 b1 s f3;obtain⟨q,b8⟩:=ay (ix a4 s);rw[b8] at c4 i2;obtain⟨R,g0⟩:=ay (runs a4 (l.take k));rw[g0] at c4 a3 b0;have a6:Yq (R++[(q,1)])=Yq R++[((q:Int),1)]:=(by simp[Yq]);obtain⟨X,a7⟩:=ay (Yq R);have d5:X=R.length:=(by rw[<-a7];simp[Yq]);rw[a7] at a3 a6;obtain⟨A4,a2,i8,h5⟩:=Zh a3;subst i8;have S:X+1<=maxLen:=fU;have a1:(X.length+1)*16<=140737488355328:=O;have F:=a9.size;have h6:(k=0)\/(0<k/\∃e9:aT,(e9.toList==s.toList)=false/\wr.cell? (f7,g2+(k-1))=e9):=by rcases rS k with h0|h0;exact .inl h0;right;have g4:k-1<l.length:=O;obtain⟨d7,e7,a5,_,b4⟩:=b5.get (k-1) (.string (l[k-1])) (YD l (k-1) g4);injection a5 with a5;injection a5 with a5 f2;subst a5;subst f2;refine⟨h0,l[k-1],?_,b4⟩;rw[Qw,uJ];intro e;refine c5 ⟨h0,?_⟩;rw[fb g4,e]
  obtain⟨b9,G,d2,I,y,M⟩:=fA c4 a6 a3 b1 a9 b2;clear c6 c7 a8 c4 a6 a7 a3 b1 b5 b0 b8 g0 h5 c5 f5 a9 d5 f3 b2;obtain⟨hi,E,z,B⟩:=i7.o;rcases h6 with d8|⟨d8,e9,j5,b4⟩;have g9:¬(0:Int)<k:=O;clear d8;exact MA;have g9:(0:Int)<k:=O;have e5:(k:Int)-1=((k-1:Nat):Int):=O;obtain⟨e6,c3⟩:=ay (k-1);rw[c3] at e5 b4;have g7:(e6:Int)<n:=O;exact MA
 have h4:k=n:=O;subst h4;have h1:l.take k=l:=d' Fp;rw[h1] at a3;obtain⟨A2,f8,i4,h3⟩:=Zh a3;subst i4;have i5:=J h3;go_wp2;go_ret;rw[g3.o];exact⟨A2,f8,rfl,i5.o,b2.trans (a9.mono b2.size)⟩
def oZ (w:aq) (r:a'×Nat) (x:Ending) (w':aq):Prop:=∃v,x=.returned (.tuple #[v,r.2])/\wW w' v r.1/\Below w w w'
theorem Qt (e:Nat) (hb:Below w w w'):oZ w ([],e) (.returned (.tuple #[.slice none 0 0,e])) w':=⟨_,rfl,wW.nil _,hb⟩
theorem Z8l (d:a') (l:List (Int×Int)) (k:Nat) (h:k<l) (g:a'):
  ZK d (l.drop k) g=if l[k].1<0\/(d.length:Int)<=l[k].1\/l[k].2<1 then([],2) else if 4096-(g.length:Int)<l[k].2 then([],9)
   else ZK d (l.drop (k+1)) (g++List.replicate l[k].2.toNat (d.getD l[k].1.toNat default)):=by rw[kw h,ZK]
theorem Zbg {B:Wto} {d:a'} {l:List (Int×Int)} (d2:At w A (bz d)) (d5:At w B (pv l)) (n cap m f4:Nat) (d4:n=d) (d3:m=l) (h6:n<=9223372036854775807) (j0:m<=9223372036854775807):
  Calls prog 212 #[(A,n,cap),(B,m,f4)] w λx w'=>oZ w (ZK d l []) x w':=by
 obtain⟨Ha,e2,b8,I⟩:=dc d2 d5 d4 d3;obtain⟨i0,hi,a3,a1,a2⟩:=info_parts YN;have g5:=J (And.intro hi (And.intro a3 (And.intro a1 a2)));clear d2 d5 d4 d3 hi a3 a1 a2;go_in;go_wp2;go_loopw [6,8,11] (λb7 _ i wr=>∃(k:Nat) (g:a'),k<=m/\i=k/\g.length<=4096/\wr.ownsRow w 9 1 b7 g (bz g)/\Hid (ZK d (l.drop k) g=ZK d l [])/\Below w w wr) (λ_ _ i _=>(m-intOf i).toNat);exact⟨0,[],O,rfl,by simp,Zl,J rfl,bf _ _⟩;obtain⟨k,g,i5,rfl,i4,y,z,p⟩:=hrel;obtain⟨A4,g3,g6,a4⟩:=Zh y;subst g6;by_cases ab:k<m
 .have c3:k<l:=Fs;have t:=Z8l d l k c3 g;have D:=zf l k c3;obtain⟨⟨i,c⟩,nJ⟩:=ay l[k];rw[nJ] at t D;simp only at t D;have M:=e2.o.below p;obtain⟨f2,g7,d1,i9,a6⟩:=M.get (k*2) (iv i) D.1;obtain⟨f3,g8,a0,_,S⟩:=M.get (k*2+1) (iv c) D.2;rw[d1] at a0;injection a0 with a0;injection a0 with h5 h3;subst h5;subst h3;subst d1;unfold iv at a6 S;have e7:=J y;have e1:=J p;have d6:wr.cell? ⟨f2,g7+k*2+1,none⟩=c:=S;have R:=J (p.alloc p.size (.cells #[i,c] 297));by_cases F:i<0\/(d.length:Int)<=i\/c<1;rw[Vag F] at t;have G:Hid (ZK d l []=([],2)):=J (by rw[<-z.o,t]);have aa:i<0\/(n:Int)<=i\/c<1:=(by rw[b8.o];exact F);clear F t nJ D M a4 y p S;by_cases b1:i<0;exact I4;by_cases e9:(n:Int)<=i;exact I4;have b3:c<1:=O;exact I4;rw[Vae F] at t;have b1:¬i<0:=O;have e9:¬(n:Int)<=i:=(by rw[b8.o];omega);have b3:¬c<1:=O;by_cases c9:4096-(g.length:Int)<c;.rw[Vag c9] at t;have G:Hid (ZK d l []=([],9)):=J (by rw[<-z.o,t]);clear F t nJ D M a4 y p S;go_wp2;go_returns;rw[G.o];exact Qt 9 R.o
  rw[Vae c9] at t;obtain⟨i,rfl⟩:=Int.eq_ofNat_of_zero_le (show 0<=i by omega);obtain⟨c,rfl⟩:=Int.eq_ofNat_of_zero_le (show 0<=c by omega);rw[ep,ep] at t;have hid:i<d:=O;have h7:(i:Int)<n:=O;obtain⟨s,b4⟩:=ay (d.getD i default);have h0:(bz d)[i]? =some (.string s):=by rw[YD d i hid,<-b4];simp[List.getD,hid]
  rw[b4] at t;have e6:Hid (ZK d (l.drop (k+1)) (g++List.replicate c s)=ZK d l []):=J (by rw[<-t];exact z.o);have i8:g.length+c<=4096:=O;clear F t nJ D M a4 y p S z b4;have E:=Bk.new wr 297 #[i,c];have c7:=e7.o.alloc (.cells #[i,c] 297);go_wp2;go_loopw [6,38] (λb7 j b6=>∃q:Nat,q<=c/\j=q/\b6.ownsRow w 9 1 b7 (g++List.replicate q s) (bz (g++List.replicate q s))/\Bk b6 wr 297 #[i,c]/\Below w w b6) (λ_ j _=>(c-intOf j).toNat);exact⟨0,O,rfl,by simpa using c7,E,R.o⟩;have i3:=J e1.o.size;clear E c7;obtain⟨q,i6,rfl,y,E,p⟩:=hrel;by_cases i2:q<c
  .have c4:=Ha.o.below p;obtain⟨h9,i7,g1,i1,g9⟩:=c4.get i (.string s) h0;subst g1;have d8:=E.cell 0;simp at d8;obtain⟨L,a5⟩:=ay (g++List.replicate q s);have e4:L=g.length+q:=(by rw[<-a5];simp);have d9:g++List.replicate (q+1) s=L++[s]:=(by rw[List.replicate_succ',<-er,a5]);rw[a5] at y;obtain⟨A5,f7,g4,_⟩:=Zh y;subst g4;have f8:L+1<=maxLen:=fU;have f9:(L.length+1)*16<=140737488355328:=O;have a8:=p.size;obtain⟨e3,Q,b9,a9,h8⟩:=ii d9 y E p a6;clear a5 d9 y E c4 p e4 a6 d6;obtain⟨hi,a3,a1,a2⟩:=g5.o
   go_wp2_with (
    at_builtin;refine wpList_append_own_at _ rfl (.tmp 40) (.tmp 46) _ rfl w 9 i0 (.string ByteArray.empty) 1 16 underlying23 hi a3 a1 a2 rfl O (.slice A5 L f7) L (bz L) (by rfl) (Q.o.alloc _) ⟨_,0,none⟩ 1 1 [.string s] (by rfl) rfl (Ql _ _ _) sX f8 f9 (co a8 (by simp)) ?_;intro h4 d7 c5 c8 _ f5;have u:=J c5;have b5:=J c8;clear c5 c8 f5);have e5:=(b9.o.alloc (.cells #[s] 9)).grown b5.o (λe=>Z1 Q.o b9.o aY e.symm);have e8:Below w w d7:=(a9.o.alloc a8 (.cells #[s] 9)).grown b5.o (co a8 (by simp)) (λj g2=>(Q.o.lt j g2).1);have h2:d7.ownsRow w 9 1 h4 (L++[s]) (bz (L++[s])):=PG;clear u b5 g9 d8;go_wp2;go_roundw;exact⟨q+1,O,ci,by rw[e3.o];exact h2,e5,e8⟩;simp[intOf]<;>omega
  have b0:q=c:=O;subst b0;have Q:=J y;have a9:=J p;clear y E p a6 d6;go_wp2;go_roundw;exact⟨k+1,g++List.replicate q s,O,ci,CA,Q.o,e6,a9.o⟩;simp[intOf]<;>omega
 have h1:k=m:=O;subst h1;have c6:l.drop k=[]:=List.drop_of_length_le Fq;have a7:=z.o;rw[c6,ZK] at a7;have f6:=J a7;have g0:=J (VX y);clear c6 a7 y a4;go_wp2;go_returns;rw[<-f6.o];exact⟨.slice A4 g g3,rfl,g0.o,p⟩
def fZ (w:aq) (r:ax×Nat) (x:Ending) (w':aq):Prop:=x=.returned (.tuple #[bs r.1,r.2])/\Below w w w'
theorem CZ (e:Nat) (hb:Below w w w'):fZ w ([],e) (.returned (.tuple #[bs [],e])) w':=⟨rfl,hb⟩
theorem ZdI (c:Int) (k:c≠0) (g:c≠1) (A:Wto) (n cap:Nat):
  Calls prog 161 #[c,(A,n,cap)] w λx w'=>fZ w ([],1) x w':=by have h0:(c !=0)=true:=(by rw[kx];exact k);have h1:(c !=1)=true:=(by rw[kx];exact g);have hb:=J (bf w w);go_in;go_wp2;go_returns;exact CZ 1 hb.o
theorem Z8h (c:Nat) (y:c<=1) (q:At w A (bz l)) (g:∀s∈l,s.size<=9223372036854775807) (n cap:Nat) (t:n=l) (F:n<=9223372036854775807) (k:4096<l.length\/∃s∈l,128<s.size):
  Calls prog 161 #[c,(A,n,cap)] w λx w'=>fZ w ([],9) x w':=by
 have hb:=J (bf w w);have B:c=0\/c=1:=O;by_cases u:4096<n
 .have E:(4096:Int)<n:=O;clear u k q g t y;rcases B with rfl|rfl
  all_goals
   go_in;go_wp2;go_returns;exact CZ 9 hb.o
 have E:¬(4096:Int)<n:=O;have p:=Vz q g n cap t O;have z:zk l=true:=dd (k.resolve_left O);rw[z] at p;have D:=J p;clear u k q g t y p z;rcases B with rfl|rfl
 all_goals
  go_in;go_wp21;refine cp D.o ?_;go_wp2;go_returns;exact CZ 9 hb.o
theorem VI (s:aT) (h:s.size<=128):(text s).length<=137:=by unfold text;have:=rK s.size;rw[Vab,Z2];omega
theorem Ziz (D:a') (h:∀s∈D,s.size<=128):(D.flatMap text).length<=137*D.length:=by
 induction D with
 |nil=>simp
 |cons s D ih=>have h1:=VI s (h s fi);have k:=ih (λu g=>h u (gM _ g));rw[sW,Vab,gd];omega
theorem ZdZ (D:a') (k:Nat) (h:k<D):(D.take (k+1)).flatMap text=(D.take k).flatMap text++text D[k]:=by rw[dK h,yD];simp
theorem Qg (l:List Nat) (h:∀v∈l,v<4611686018427387904):(jk l).length<=13+134*l.length:=by unfold jk;rw[Vab];have h1:=rK l;split;exact fj;have g:=Uc l (t0,e0) h;rw[show(e0.out.length)=0 from rfl] at g;unfold ji;rw[Vab,Ye];omega
def YV (c:Nat) (D:a') (k:Nat):ax:=bi c++bi D.length++(D.take k).flatMap text
theorem JF (c:Nat) (D:a') (k:Nat) (h:∀s∈D,s.size<=128) (t:D.length<=4096):(YV c D k).length<=600000:=by unfold YV;have h1:=rK c;have l:=rK D;have p:=Ziz (D.take k) (λs g=>h s (Ag g));have q:(D.take k).length<=4096:=vO;rw[Vab,Vab];omega
theorem Z8v (c:Nat) (D:a') (k:Nat) (h:k<D):YV c D (k+1)=YV c D k++text D[k]:=by unfold YV;rw[ZdZ D k h,er,er,er]
def tE (R:List (Nat×Nat)):List Int:=R.map λx=>(x.1:Int)
def tn (R:List (Nat×Nat)):List Int:=R.map λx=>(x.2:Int)-1
theorem J3 (R:List (Nat×Nat)):(Yq R)=R.length:=by simp[Yq]
theorem ZcR (R:List (Nat×Nat)) (k:Nat) (h:k<R):(Yq R)[k]'(by rw[J3];exact h)=((R[k].1:Int),(R[k].2:Int)):=by simp[Yq]
theorem ZiQ (R:List (Nat×Nat)) (k:Nat) (h:k<R):tE (R.take (k+1))=tE (R.take k)++[(R[k].1:Int)]:=by unfold tE;rw[dK h,jy];rfl
theorem Zi1 (R:List (Nat×Nat)) (k:Nat) (h:k<R):tn (R.take (k+1))=tn (R.take k)++[(R[k].2:Int)-1]:=by unfold tn;rw[dK h,jy];rfl
theorem AP (l:List Int) (x:Int):bO (l++[x])=bO l++[.int .i64 x]:=by simp[bO,iv]
theorem Hc (l:List Int):(bO l)=l.length:=yJ
structure Gath (wb w:World) (B:Nat) (v1 v2:Value) (I C:List Int):Prop where
 two:pe wb B 3 v1 (bO I) v2 (bO C) w
theorem Z8g (c:Nat) (y5:c<=1) (c8:At w A (bz l)) (c9:∀s∈l,s.size<=128) (n cap:Nat) (I:n=l.length) (G:n<=4096):
  Calls prog 161 #[c,.slice A n cap] w λx w'=>fZ w (gq c l,0) x w':=by
 have g9:=Vz c8 (λs M=>by have:=c9 s M;omega) n cap I G;have q8:zk l=false:=Vai (by rintro⟨s,h1,h2⟩;have:=c9 s h1;omega);rw[q8] at g9;obtain⟨l1,Hd,Ha,a0⟩:=dc g9 (Z3Y c8 n cap I G) c8 I;obtain⟨D,c7⟩:=ay (cT l);have r3:=Yz l;have i5:=Kt c9;rw[c7] at r3 i5;have m7:D.length<=4096:=O;have t:=λw=>Zj (c:Int) O O w;have Q:=λw=>Zj (D.length:Int) O O w;simp only[ep] at t Q;have k1:=rK c;have k2:=rK D;rw[<-Z0] at k1 k2;have l0:bs (bi c)++bs (bi D)=bs (YV c D 0):=(by rw[Z9];unfold YV;simp);rw[c7] at Hd;obtain⟨u3,i3,j7⟩:=bD c7 i5 l0;generalize bs (bi c)=s1 at*;generalize bs (bi D.length)=s2 at*;have t:=J t;have Q:=J Q;have Wh:¬(4096:Int)<n:=O;have y9:(((c:Int) !=0)&&((c:Int) !=1))=false:=by have:c=0\/c=1:=O;rcases this with rfl|rfl<;>rfl
 have r1:((c:Int) !=0)=false\/(((c:Int) !=0)=true/\((c:Int) !=1)=false):=by have:c=0\/c=1:=O;rcases this with rfl|rfl;exact .inl rfl;exact .inr ⟨rfl,rfl⟩
 clear c8 I g9 q8 c7 i5 l0 c9 r3 y9;go_in;go_upto_region 1 with fail;go_cut [23] (λi4 wx=>i4=.bool false/\w=wx);case first=>rcases r1 with g7|⟨g7,g1⟩;exact KS;exact KS
 obtain⟨rfl,rfl⟩:=hcut;clear r1;go_wp21;refine cp l1.o ?_;go_wp21;refine(Hd.o).mono ?_;rintro x w1 ⟨v6,rfl,⟨t9,o3,rfl,k0⟩,eA⟩;go_wp21;refine aP (t.o _) λw2 aa=>?_;go_wp21;refine aP (Q.o _) λw3 m8=>?_;have j1:=aa.trans (m8.mono aa.size);have s8:=k0.below j1;have q0:=eA.trans (j1.mono eA.size);clear eA aa m8 j1 k0;go_wp2;rw[j7.o];go_loopw [7,9,41] (λout _ i wr=>∃k:Nat,k<=D/\i=k/\out=.string (bs (YV c D k))/\At wr t9 (bz D)/\Below w.heap.size w wr) (λ_ _ i _=>(D.length-intOf i).toNat);exact⟨0,O,rfl,rfl,s8,q0⟩;clear s8 q0 l1 Hd t Q j7;obtain⟨k,hk,rfl,rfl,c4,a6⟩:=hrel;have g8:=JF c D k i3.o m7;rw[<-Z0] at g8;by_cases ab:k<D;.obtain⟨s,M⟩:=ay D[k];have s9:=i3.o s (M▸dt _);obtain⟨bA,oA,y4,cE,ph⟩:=c4.get k (.string s) (by rw[YD D k ab,M]);subst y4;have y:=λw=>X1 s O w;have y3:=VI s s9;rw[<-Z0] at y3;have r2:bs (YV c D k)++bs (text s)=bs (YV c D (k+1)):=(by rw[Z9,Z8v c D k ab,M]);have g2:=J c4;generalize bs (YV c D k)=S1 at*;generalize bs (text s)=S2 at*;have z5:=J r2;have y:=J y;clear r2 M c4 s9;go_wp21;refine aP (y.o _) λi9 an=>?_;have y1:=g2.o.below an;have c3:=a6.trans (an.mono a6.size);clear an;go_wp2;go_roundw;exact⟨k+1,O,ci,by rw[z5.o],y1,c3⟩;simp[intOf]<;>omega
 have h6:k=D:=O;subst h6;have r4:=Ha.o.below a6;have b8:=ZjO r4 n cap a0.o G;obtain⟨R,h0⟩:=ay (runs (cT l) l);have i6:=YC (cT l) l;have f3:=FK (cT l) l;rw[h0] at b8 i6 f3;have S:=J h0;have l7:=J f3;have f2:R.length<=4096:=(by rw[<-a0.o] at i6;omega);have b8:=J b8;clear h0 f3 i6;have l2:=J a6;clear c4 r4 a6 ab;go_wp21;refine(b8.o).mono ?_;rintro x i9 ⟨AR,o4,rfl,k3,an⟩;have c3:=l2.o.trans (an.mono l2.o.size);clear an;simp only[J3];have g2:=J k3;have q6:=J c3;clear k3 c3;go_wp2;go_loopw [10,11,13,53] (λi7 i8 _ i wr=>∃k:Nat,k<=R/\i=k/\pe i9 i9.heap.size 3 i7 (bO (tE (R.take k))) i8 (bO (tn (R.take k))) wr) (λ_ _ _ i _=>(R.length-intOf i).toNat);exact⟨0,O,rfl,⟨Zl,Zl,W4f,bf _ _,aU⟩⟩;obtain⟨q,y6,rfl,u⟩:=hrel;by_cases a2:q<R
 .have B:=ZiQ R q a2;have z:=Zi1 R q a2;obtain⟨⟨p,g⟩,Nz⟩:=ay R[q];have i1:=l7.o R[q] (dt _);have F:=zf (Yq R) q (by rw[J3];exact a2);rw[ZcR R q a2] at F;rw[Nz] at B z i1 F;simp only at B z i1 F;have h8:(bO (tE (R.take q))).length<=4096:=(by rw[Hc];unfold tE;rw[Vah,ek];omega);have h7:(bO (tn (R.take q))).length<=4096:=(by rw[Hc];unfold tn;rw[Vah,ek];omega);have j0:=g2.o.below u.bel;obtain⟨x8,z6,q7,sE,z8⟩:=j0.get (q*2) _ F.1;obtain⟨x9,z7,b6,_,i0⟩:=j0.get (q*2+1) _ F.2;rw[q7] at b6;injection b6 with b6;injection b6 with zI z9;subst zI;subst z9;subst q7;unfold iv at z8 i0;have sI:wr.cell? ⟨x8,z6+q*2+1,none⟩=g:=i0;have y7:g<=4096:=W69;have i2:IntKind.i64.wrap ((g:Int)-1)=(g:Int)-1:=lO;obtain⟨X,h4⟩:=ay (bO (tE (R.take q)));obtain⟨Y,h5⟩:=ay (bO (tn (R.take q)));rw[h4] at u h8;rw[h5] at u h7;have u4:Hid (bO (tE (R.take (q+1)))=X++[.int .i64 (p:Int)]):=J (by rw[B,AP,h4]);have u2:Hid (bO (tn (R.take (q+1)))=Y++[.int .i64 ((g:Int)-1)]):=J (by rw[z,AP,h5]);have h3:=u.alloc (.cells #[p,g] 297);have b9:=Bk.new wr 297 #[p,g];obtain⟨t1,r7,r8⟩:=VL (P:=prog) 103 3 _ 8 underlying103 Y2 rfl h3 p ((g:Int)-1:Int) (by rfl) (by rfl) fU O fU O _ _ _ b9 aY;obtain⟨r9,s0,s4⟩:=VL (P:=prog) 103 3 _ 8 underlying103 Y2 rfl h3.swap ((g:Int)-1:Int) p (by rfl) (by rfl) fU O fU O _ _ _ b9 aY;simp only[World.size_alloc] at t1 r7 r8 r9 s0 s4;clear B z F Nz j0 h4 h5 u h3 i1 i0;obtain⟨v4,j6,v7,l3,j8,j9,t7,d7,e4⟩:=t1;obtain⟨yw,yy,zC⟩:=bD j8 j9 t7;have m9:j6.cell? (wr,0)=p:=d7.cell 0;have n2:j6.cell? (wr,1)=g:=d7.cell 1;have o5:l3.cell? (wr,0)=p:=e4.cell 0;have o6:l3.cell? (wr,1)=g:=e4.cell 1;clear j8 j9 t7 d7 e4;obtain⟨v8,j3,v9,l5,k4,k5,t8,d8,e5⟩:=r7;obtain⟨yz,yA,zD⟩:=bD k4 k5 t8;have n3:j3.cell? (wr,0)=p:=d8.cell 0;have n4:j3.cell? (wr,1)=g:=d8.cell 1;have o7:l5.cell? (wr,0)=p:=e5.cell 0;have o9:l5.cell? (wr,1)=g:=e5.cell 1;clear k4 k5 t8 d8 e5;obtain⟨w0,j4,w9,l6,k6,k7,j2,d9,e6⟩:=r8;obtain⟨yB,v1,zE⟩:=bD k6 k7 j2;have n5:j4.cell? (wr,0)=p:=d9.cell 0;have n6:j4.cell? (wr,1)=g:=d9.cell 1;have p0:l6.cell? (wr,0)=p:=e6.cell 0;have p1:l6.cell? (wr,1)=g:=e6.cell 1;clear k6 k7 j2 d9 e6;obtain⟨x2,b0,x3,b1,l9,m1,a7,e1,e7⟩:=r9;obtain⟨u5,u6,f6⟩:=bD l9 m1 a7;have n7:b0.cell? (wr,0)=p:=e1.cell 0;have n8:b0.cell? (wr,1)=g:=e1.cell 1;have p2:b1.cell? (wr,0)=p:=e7.cell 0;have p3:b1.cell? (wr,1)=g:=e7.cell 1;clear l9 m1 a7 e1 e7;obtain⟨x4,b2,x5,b3,m2,m3,a8,e2,e8⟩:=s0;obtain⟨u7,u8,f7⟩:=bD m2 m3 a8;have n9:b2.cell? (wr,0)=p:=e2.cell 0;have o0:b2.cell? (wr,1)=g:=e2.cell 1;have p4:b3.cell? (wr,0)=p:=e8.cell 0;have p5:b3.cell? (wr,1)=g:=e8.cell 1;clear m2 m3 a8 e2 e8;obtain⟨x6,b4,x7,b5,m4,m6,a9,e3,e9⟩:=s4;obtain⟨u9,v0,f9⟩:=bD m4 m6 a9;have o1:b4.cell? (wr,0)=p:=e3.cell 0;have o2:b4.cell? (wr,1)=g:=e3.cell 1;have p6:b5.cell? (wr,0)=p:=e9.cell 0;have p7:b5.cell? (wr,1)=g:=e9.cell 1;clear m4 m6 a9 e3 e9;have x0:(wr.alloc (.cells #[p,g] 297)).cell? (wr,0)=p:=b9.cell 0;have x1:(wr.alloc (.cells #[p,g] 297)).cell? (wr,1)=g:=b9.cell 1;have n0:=World.new_ne _ _ x0;have n1:=World.new_ne _ _ x1;go_upto_region 16 with fail
  go_region_held3 (λW=>W.cell? (wr,0)=p/\W.cell? (wr,1)=g) (first|go_keep)
   ((first|refine gN yw.o ?_|refine gN yy.o ?_|refine gN yz.o ?_|refine gN yA.o ?_|refine gN yB.o ?_|refine gN v1.o ?_|refine gN u5.o ?_|refine gN u6.o ?_|refine gN u7.o ?_|refine gN u8.o ?_|refine gN u9.o ?_|refine gN v0.o ?_))
  all_goals
   go_wp2;go_roundw;.refine⟨q+1,O,ci,?_⟩;rw[u4.o,u2.o];first|exact zC.o|exact zD.o|exact zE.o|exact f6.o.swap|exact f7.o.swap|exact f9.o.swap
   simp[intOf]<;>omega
 have h9:q=R:=O;subst h9;rw[pi] at u;have B:tE R=(nL l).map Int.ofNat:=by unfold tE nL;rw[S.o,qx];rfl
 have z:tn R=(oJ l).map Int.ofNat:=by unfold tn oJ;rw[S.o,qx];refine List.map_congr_left λx y8=> ?_;have:=(l7.o x y8).2.1;show(x.2:Int)-1=((x.2-1:Nat):Int);omega
 have y2:(bO (tE R))=R.length:=(by rw[Hc];simp[tE]);have y0:(bO (tn R))=R.length:=(by rw[Hc];simp[tn]);obtain⟨A1,c1,rfl,c5⟩:=Zh u.own1;obtain⟨A2,c2,rfl,g3⟩:=Zh u.own2;have a4:l.length<=4096:=(by rw[<-a0.o];exact G);have d6:(nL l)=R.length:=(by rw[Qi,S.o]);have f5:(oJ l)=R.length:=(by rw[Qb,S.o]);have f4:(Yj c l)=R.length:=(by rw[YI,S.o]);rw[B] at c5;rw[z] at g3;have p8:=q6.o.trans (u.bel.mono q6.o.size);obtain⟨z2,z0,s6⟩:=bD c5 g3 p8;have r6:front ((nL l).map Int.ofNat)=(Yn r0 (nL l),0):=by unfold front;rw[Vag (Gg (by rw[Vah,d6];exact f2) (λn I=>by obtain⟨m,G,rfl⟩:=Vbm.1 I;have:=G6 l a4 m G;exact⟨by simp,fj⟩)),Xh]
 have d3:=J (ZbN c5 R c1 (by rw[Vah,d6]) O);rw[r6] at d3;have d4:=J (CY c l a4);have d5:=J (Dm l a4);have k8:=Qg (Yj c l) (λv E=>by have:=CY c l a4 v E;omega);have k9:=Qg (oJ l) (λv E=>by have:=Dm l a4 v E;omega);rw[f4] at k8;rw[f5] at k9;have g8:=JF c D D i3.o m7;have a5:sr c l=jk (Yj c l):=rfl;have z1:(text (bs (jk (Yj c l)))).length<=600000:=by unfold text;rw[Vab,Zm];have:=rK (bs (jk (Yj c l))).size;omega
 have z4:Hid (bs (YV c D D)++bs (text (bs (jk (Yj c l))))++bs (jk (oJ l))=bs (gq c l)):=J (by rw[Z9,Z9];unfold YV gq text;rw[pi,u3.o,a5,Zm,Z0]);have No:=J f4;have l8:=J f5;have s5:(bs (jk (Yj c l))).size<=1099511627776:=W4X;have y:=λw=>X1 (bs (jk (Yj c l))) s5 w;have r5:c=0\/c=1:=O;have b7:Hid (c=0->Yj c l=nL l):=J (λh=>by subst h;rfl);have t:Hid (c=1->Yj c l=Yn r0 (nL l)):=J (λh=>by subst h;rfl);rw[<-Z0] at g8 k9 z1;generalize bs (YV c D D.length)=S1 at*;generalize bs (text (bs (jk (Yj c l))))=S2 at*;have y:=J y;clear a2 y6 u c5 g3 p8 B z d6 f5 f4 r6 a5 k8 s5;rw[y2,y0];go_upto_if 70 with fail;go_cut [10] (λz3 wx=>∃A cap,z3=.slice A R cap/\At wx A (bO ((Yj c l).map Int.ofNat))/\Below wr wr wx)
 case first=>
  rcases r5 with a3|a3;.have g7:¬((c:Int)=1):=O;have u0:=J (b7.o a3);clear b7 t a3;go_wp2;go_meet;case rel=>exact⟨A1,c1,rfl,by rw[u0.o];exact z2.o,bf _ _⟩
  have g7:((c:Int)==1)=true:=Jr;have j5:=J (t.o a3);have v2:Hid ((Yn r0 (nL l))=R.length):=J (by rw[<-j5.o,No.o]);clear b7 t a3 y5;go_wp21;refine(d3.o).mono ?_;rintro x w5 ⟨v5,rfl,⟨A5,g4,rfl,c6⟩,a1⟩;go_wp2;go_meet;case rel=>exact⟨A5,g4,by rw[v2.o],by rw[j5.o];exact c6,a1⟩
 obtain⟨A5,g4,rfl,c6,a1⟩:=hcut;clear d3 b7 t r5;have yF:=J (YF c6 R g4 No.o.symm (by rw[No.o];exact f2) (λv E=>by have:=d4.o v E;omega));have g6:=s6.o.trans (a1.mono s6.o.size);have s7:=z0.o.below a1;clear c6 a1;go_wp21;refine aP yF.o λw6 g5=>?_;have u1:=J (YF (s7.below g5) R c2 l8.o.symm (by rw[l8.o];exact f2) (λv E=>by have:=d5.o v E;omega));have d1:=g6.trans (g5.mono g6.size);clear s7 g5 g6;go_wp21;refine aP u1.o λw7 p9=>?_;have d2:=d1.trans (p9.mono d1.size);generalize bs (jk (Yj c l))=S3 at*;generalize bs (jk (oJ l))=S4 at*;clear p9 d1;go_wp21;refine aP (y.o _) λw8 q9=>?_;have v3:=d2.trans (q9.mono d2.size);clear q9 d2;go_wp2;go_returns;exact⟨by rw[z4.o];rfl,v3⟩
theorem T8 (c:Int) (k:At w A (bz l)) (q:∀s∈l,s.size<=9223372036854775807) (n cap:Nat) (p:n=l) (t:n<=9223372036854775807):
  cK 161 #[c,(A,n,cap)] w λx w'=>fZ w (MG c l) x w':=by unfold MG;by_cases g:c≠0/\c≠1;rw[Vag g];exact ZdI c g.1 g.2 A n cap;rw[Vae g];have y:c=0\/c=1:=O;obtain⟨c,rfl⟩:=Int.eq_ofNat_of_zero_le (show 0<=c by omega);by_cases hb:4096<l.length\/∃s∈l,128<s.size;rw[Vag hb];exact Z8h c O k q n cap p t hb;rw[Vae hb,ep];exact Z8g c O k (λs u=>by rcases Nat.lt_or_ge 128 s.size with h|h;exact absurd (.inr ⟨s,u,h⟩) hb;exact h) n cap p O
theorem X4 (D:At w A (bz l)) (I:∀s∈l,s.size<=9223372036854775807) (n cap:Nat) (F:n=l) (R:n<=9223372036854775807):
  Calls prog 128 #[(A,n,cap)] w λx w'=>fZ w (enc l) x w':=by
 have p:=J (T8 0 D I n cap F R);have u:=J (λw' (h:Below w w w')=>T8 1 (D.below h) I n cap F R);clear D F;unfold enc;unfold MG at p u;rw[Vae aY] at p;simp only[show ¬((1:Int)≠0/\(1:Int)≠1) from by exact aY,if_false] at u;by_cases hb:4096<l.length\/∃s∈l,128<s.size;.simp only[hb,if_true] at p⊢;go_in;go_wp21;refine aP p.o λw1 E=>?_;go_wp2;go_returns;exact CZ 9 E
 simp only[hb,if_false,show(0:Int).toNat=0 from rfl,show(1:Int).toNat=1 from rfl] at p u⊢;have Q:=Z0 (gq 0 l);have M:=Z0 (gq 1 l);by_cases ab:(gq 1 l)<(gq 0 l).length;rw[Vag ab];have B:((bs (gq 1 l)).size:Int)<((bs (gq 0 l)).size:Int):=(by rw[Q,M];exact Int.ofNat_lt.2 ab);obtain⟨y,q⟩:=ay (bs (gq 0 l));have k:Hid (Calls prog 161 #[(0:Int),(A,n,cap)] w (bM w (.tuple #[y,(0:Int)]))):=J (by rw[<-q];exact p.o);obtain⟨z,t⟩:=ay (bs (gq 1 l));have g:Hid (∀w',Below w w w'->Calls prog 161 #[(1:Int),(A,n,cap)] w' (bM w' (.tuple #[z,(0:Int)]))):=J (by rw[<-t];exact u.o);rw[q,t] at B;have G:Hid (∀w',Below w w w'->fZ w (gq 1 l,0) (.returned (.tuple #[z,(0:Int)])) w'):=J (λw' h=>by rw[<-t];exact⟨rfl,h⟩);exact y';rw[Vae ab];have B:¬((bs (gq 1 l)).size:Int)<((bs (gq 0 l)).size:Int):=(by rw[Q,M];omega);obtain⟨y,q⟩:=ay (bs (gq 0 l));have k:Hid (Calls prog 161 #[(0:Int),(A,n,cap)] w (bM w (.tuple #[y,(0:Int)]))):=J (by rw[<-q];exact p.o);obtain⟨z,t⟩:=ay (bs (gq 1 l));have g:Hid (∀w',Below w w w'->Calls prog 161 #[(1:Int),(A,n,cap)] w' (bM w' (.tuple #[z,(0:Int)]))):=J (by rw[<-t];exact u.o);rw[q,t] at B;have G:Hid (∀w',Below w w w'->fZ w (gq 0 l,0) (.returned (.tuple #[y,(0:Int)])) w'):=J (λw' h=>by rw[<-q];exact⟨rfl,h⟩);exact y'
theorem XC {s:aT} (g:e≠0) (most:Int):bG s e most=(0,s,e):=by unfold bG;grind
theorem Ku {s:aT} (g:e≠0) (n:Int):Zb s e n=(bs [],s,e):=by unfold Zb;grind
theorem Zw (h:dN s most=some (n,t)):bG (bs s) 0 (most:Int)=(n,bs t,0)/\n<=most/\t<=s.length:=by
 unfold dN at h;match g:gP s with
 |none=>rw[g] at h;cases h
 |some (m,z)=>rw[g] at h;simp only at h;by_cases l:most<m;exact aO;rw[Vae l] at h;injection h with h;injection h with h1 k;subst h1;subst k;exact⟨Hk g O,O,aO⟩
theorem Y9 (h:dN s most=none):∃e,e≠0/\bG (bs s) 0 (most:Int)=(0,bs s,e):=by
 unfold dN at h;match g:gP s with
 |none=>exact⟨12,aY,Ue g⟩
 |some (m,z)=>by_cases k:most<m;exact⟨2,aY,VE g O⟩;grind
theorem YO {s:aT} (g:e≠0) (most:Int):ZB s e most=(bs [],s,e):=by unfold ZB;rw[XC g];rw[Ku g];grind
theorem JM (h:fe s most=some (a,t)):ZB (bs s) 0 (most:Int)=(bs a,bs t,0)/\a<=s.length/\t<=s.length/\a<=most:=by
 unfold fe at h;match hr:dN s most with
 |none=>rw[hr] at h;cases h
 |some (n,u)=>
  obtain⟨h1,g,k⟩:=Zw hr;by_cases l:u<n;exact aO;have p:Zb (bs u) 0 (n:Int)=(bs (u.take n),bs (u.drop n),0):=by unfold Zb;rw[Vag rfl,Vae O,Vae W4X,ep,Zm]
  unfold ZB;grind
theorem UQ (h:fe s most=none):∃e,e≠0/\ZB (bs s) 0 (most:Int)=(bs [],bs s,e):=by
 unfold fe at h;match hr:dN s most with
 |none=>obtain⟨e,h1,g⟩:=Y9 hr;refine⟨e,h1,?_⟩;unfold ZB;rw[g];rw[Ku h1];rw[Vae h1]
 |some (n,u)=>
  obtain⟨h1,g,k⟩:=Zw hr;by_cases l:u<n
  .have p:Zb (bs u) 0 (n:Int)=(bs [],bs u,12):=by unfold Zb;rw[Vag rfl,Vae O,Vag W4X]
   refine⟨12,aY,?_⟩;unfold ZB;grind
  grind
theorem UC (h:fe s 128=some (a,t)):Yp (n+1) s=(Yp n t).map λx=>(bs a::x.1,x.2):=by rw[Yp,h];grind
theorem UD (h:fe s 128=none):Yp (n+1) s=none:=by rw[Yp,h]
theorem XS (s:ax) (most:Int):(∀v∈(fc s most).1,0<=v)/\(fc s most).1.length<=4096:=by
 unfold fc;match gP s with
 |none=>simp
 |some (n,z)=>
  simp only;split;simp;split;simp;split;simp;split;.rename_i h;refine⟨h.2,?_⟩;rw[(TV n t0 (d0 (s.drop z))).1,Z1F];omega
  simp
theorem Zje {α:Type} (L:List α) (n:Nat) (v z:α) (h:L<n):(L++List.replicate (n-L.length) z).set L v=(L++[v])++List.replicate (n-(L.length+1)) z:=IU
def pcs (l:List (Int×Int)):Array aI:=(pv l).toArray
theorem ZpI (l:List (Int×Int)):∀(k:Nat) (x:Int×Int),k<l.length->((pv l).set (k*2) (iv x.1)).set (k*2+1) (iv x.2)=pv (l.set k x):=by
 induction l with
 |nil=>exact aO
 |cons c D ih=>
  intro k x h;have e:pv (c::D)=iv c.1::iv c.2::pv D:=rfl;match k,h with
  |0,_=>rfl
  |k+1,h=>have g:k<D:=aO;have:=ih k x g;rw[e,show(k+1)*2=k*2+1+1 from by exact O,List.set_cons_succ,List.set_cons_succ,List.set_cons_succ,List.set_cons_succ,this];rfl
theorem Zn6 (l:List (Int×Int)) (k:Nat) (x:Int×Int) (h:k<l):((pcs l).setIfInBounds (k*2) x.1).setIfInBounds (k*2+1) x.2=pcs (l.set k x):=by have:=ZpI l k x h;unfold iv at this;simpa [pcs] using this
theorem Zn5 (l:List (Int×Int)) (k:Nat) (h:k<l):(pcs l)[k*2]? =some (.int .i64 l[k].1)/\(pcs l)[k*2+1]? =some (.int .i64 l[k].2):=by have:=zf l k h;unfold iv at this;simpa [pcs] using this
theorem Znd (n:Nat):∀i,i<n*2->(pv (List.replicate n (0,0)))[i]? =(0:Int):=by
 induction n with
 |zero=>exact O
 |succ n ih=>
  intro i h;have e:pv (List.replicate (n+1) (0,0))=iv 0::iv 0::pv (List.replicate n (0,0)):=rfl;rw[e];match i,h with
  |0,_=>rfl
  |1,_=>rfl
  |i+2,h=>exact ih i O
theorem Zj0 {P:Program} (t e:TypeId) (D:P.underlying t=some (.slice e)) (l:(P.info? e).map (λi=>(i.zero,i.size,i.bytes))=some (some (.agg #[(0:Int),(0:Int)]),2,16))
  (m:Int) (n:Nat) (y:m=n) (hb:n<=4096) (w:aq):
  (Instr.makeSlice t m m).run P w=.ok (.slice (some (w,0)) n n) (w.alloc (.cells (pcs (List.replicate n (0,0))) e)):=by obtain⟨i,hi,E,B,F⟩:=info_parts l;subst y;have z:=run_make (P:=P) w t e i _ D hi E .i64 .i64 (n:Int) (n:Int) O O aO O;rw[z,ep,B];congr 3;apply Array.ext;simp[madeCells,pcs,Q0];intro j h1 p;have q:j<n*2:=(by simpa [madeCells] using h1);have u:=Znd n j q;have g:(pcs (List.replicate n (0,0)))[j]? =(0:Int):=(by simpa [pcs] using u);rw[Array.getElem?_eq_getElem p] at g;injection g with g;rw[g];have k:j % 2=0\/j % 2=1:=O;rcases k with k|k<;>simp[madeCells,Value.cells,k]
def vc (w:aq) (r:Option a') (x:Ending) (w':aq):Prop:=∃v,x=.returned (.tuple #[v,r.isSome])/\(∀l,r=some l->wW w' v l)/\Below w w w'
theorem Qn {v:aI} (hb:Below w w w'):vc w none (.returned (.tuple #[v,false])) w':=⟨v,rfl,(λl h=>by cases h),hb⟩
theorem Wg (data:aT) (hd:data.size<=1099511627776) (c:Nat) (g:aT) (k:Nat) (S:aT) (e:Nat) (h1:bG data 0 1=(c,g,k)) (l:bG g k 4096=(0,S,e)) (Q:e≠0) (z:g.size<=data.size):
  Calls prog 162 #[data] w λx w'=>vc w none x w':=by
 have p:=J (ZT data w);have q:=J (λW (h:RV W w data 0)=>by have:=Zk h hd 1;rw[h1] at this;exact this);have a1:S.size<=g.size:=by have:=Zv (s:=g) (e:=k) (most:=4096);rw[l] at this;exact this
 have t:=J (λW (h:RV W w g k)=>by have:=Zk h (co z hd) 4096;rw[l] at this;exact this);have R:=J (λW (h:RV W w S e)=>by have:=ZY h O (data.size:Int);rw[YO Q] at this;exact this);have a5:((e:Int) !=0)=true:=eV;clear h1 l Q a1 z hd;go_in;go_wp21;refine aP p.o λw1 ⟨F,I⟩=>?_;go_wp21;refine aP (q.o _ F) λa6 ⟨E,D⟩=>?_;have aa:=Zf I aU D;clear F I D;go_wp21;refine aP (t.o _ E) λa4 ⟨M,u⟩=>?_;have B:=Zf aa aU u;have a2:=J M;clear E aa u M p q t;go_wp2;go_loopw [7,23] (λa3 i wr=>a3=.slice none 0 0/\i=(0:Int)/\wr=a4) (λ_ i _=>0);exact⟨rfl,rfl,rfl⟩;obtain⟨rfl,rfl,rfl⟩:=hrel;go_wp21;refine aP (R.o _ a2.o) λa7 ⟨G,y⟩=>?_;have a0:=J (Ze G);have an:=Zf B aU y;clear G y B;go_wp21;refine cp a0.o ?_;go_wp2;go_returns;exact Qn an
theorem Xo (g:ax) (most:Nat):∃t S e,ZB (bs g) 0 (most:Int)=(t,S,e)/\((e=0/\∃a u,fe g most=some (a,u)/\t=bs a/\S=bs u/\u.length<=g.length/\a.length<=g.length/\a.length<=most)\/(e≠0/\fe g most=none)):=by
 match h:fe g most with
 |none=>obtain⟨e,h1,k⟩:=UQ h;exact⟨_,_,e,k,.inr ⟨h1,rfl⟩⟩
 |some (a,u)=>obtain⟨h1,k,l,p⟩:=JM h;exact⟨_,_,0,h1,.inl ⟨rfl,a,u,rfl,rfl,rfl,l,k,p⟩⟩
theorem Zk3 (l:a') (s:aT):bz (l++[s])=bz l++[.string s]:=by simp[bz,sv]
theorem ZcE {l:List Int} {b:Nat} {s s':aT} (E:At w A (bO l)) (h:RV w b s e) (z:RV w' b s' e) (u:Fr (only b) w w'):At w' A (bO l):=by
 intro i hi;obtain⟨g,o,D,hb,t⟩:=E i hi;refine⟨g,o,D,Vas hb u.size,?_⟩;by_cases q:g=b
 .subst q;have h1:=Bk.cell h (o+i);have B:=Bk.cell z (o+i);rw[B];rw[t] at h1;rw[h1];have F:(bO l)[i]=.int .i64 (l[i]'(by simpa [bO] using hi)):=(by simp[bO,iv]);rw[F] at h1;match o+i,h1 with
  |0,h1=>simp at h1
  |1,h1=>rfl
  |k+2,h1=>simp at h1
 exact(u.cell (p:=⟨g,_,none⟩) hb (λy=>q y)).trans t
theorem ZfH (data:aT) (hd:data.size<=1000000000) (c n:Nat) (s1 s2:ax) (h1:dN (aH data) 1=some (c,s1)) (h2:dN s1 4096=some (n,s2)):
  Calls prog 162 #[data] w λx w'=>vc w (X0 (aH data)) x w':=by
 have kV:X0 (aH data)=match Yp n s2 with
   |none=>none
   |some (ws,s3)=>
    match fe s3 data.size with
    |none=>none
    |some (a,s4)=>fin c ws (fc a 4096) (fc s4 4096):=by unfold X0;rw[h1];simp only;rw[h2];rfl
 have iH:=J kV;obtain⟨n1,cH,ev⟩:=Zw h1;obtain⟨n2,aE,cQ⟩:=Zw h2;have Ts:bG data 0 1=(c,bs s1,0):=n1;have n2':bG (bs s1) 0 4096=(n,bs s2,0):=n2;rw[Z2] at ev;have H0:=J (ZT data w);have H1:=J (λW (h:RV W w data 0)=>by have:=Zk h O 1;rw[Ts] at this;exact this);have H2:=J (λW (h:RV W w (bs s1) 0)=>by have:=Zk h W4X 4096;rw[n2'] at this;exact this);obtain⟨i0,hi,dP,cg,dJ⟩:=info_parts YN;have nZ:=J (And.intro hi (And.intro dP (And.intro cg dJ)));have hl:s2<=data.size:=O;clear h1 h2 kV n1 n2 Ts n2' ev cQ hi dP cg dJ;go_in;go_wp21;refine aP H0.o λw1 ⟨cY,eA⟩=>?_;go_wp21;refine aP (H1.o _ cY) λw2 ⟨bL,aj⟩=>?_;have aa:=Zf eA aU aj;clear cY eA aj;go_wp21;refine aP (H2.o _ bL) λw3 ⟨eZ,aN⟩=>?_;have ae:=Zf aa aU aN;clear bL aa aN H0 H1 H2;go_wp2;go_loopw [7,23] (λv7 i wr=>∃(ws:a') (sk:ax),ws<=n/\i=.int .i64 (ws.length:Nat)/\wr.ownsRow w 9 1 v7 ws (bz ws)/\RV wr w (bs sk) 0/\sk<=data.size/\Hid (Yp n s2=(Yp (n-ws.length) sk).map (λx=>(ws++x.1,x.2)))/\Below w w wr) (λ_ i _=>(n-intOf i).toNat);exact⟨[],s2,by simp,rfl,Zl,eZ,hl,J (by simp),ae⟩;clear eZ ae;obtain⟨ws,sk,hk,rfl,ad,jj,uE,Bi,hf⟩:=hrel;obtain⟨A5,cw,mh,_⟩:=Zh ad;subst mh;have aL:=J ad;have VB:=J jj;by_cases ab:ws<n
 .obtain⟨t,S,e,jc,aK⟩:=Xo sk 128;have H3:=J (ZY jj W4X 128);have IL:ZB (bs sk) 0 128=(t,S,e):=jc;rw[IL] at H3;have tq:n-ws.length=(n-(ws.length+1))+1:=O;have dQ:=J aK;have Cp:=J Bi.o;rw[tq] at Cp;have Hf:=J hf;have vq:=J uE;clear aK jc IL Bi ad jj hf tq uE;go_wp21;refine aP H3.o λw4 ⟨dH,aR⟩=>?_;have Ik:=Z6 aL.o aR (λg hg (e:g=w.heap.size)=>Z1 aL.o VB.o aY (e▸hg));have an:=Zf Hf.o aU aR;obtain⟨jT,zp,bE⟩:=bD dH Ik an;have bW:=an.size;have fa:ws+1<=maxLen:=fU;have fu:(ws.length+1)*16<=140737488355328:=O;clear dH Ik an aR;obtain⟨hi,dP,cg,dJ⟩:=nZ.o
  go_wp2_with (
   at_builtin;refine wpList_append_own_at _ rfl (.tmp 25) (.tmp 28) _ rfl w 9 i0 (.string ByteArray.empty) 1 16 underlying23 hi dP cg dJ rfl O (.slice A5 ws cw) ws (bz ws) (by rfl) (zp.o.alloc _) ⟨_,0,none⟩ 1 1 [.string t] (by rfl) rfl (Ql _ _ _) sX fa fu (co bW (by simp)) ?_;intro v' w5 ak el _ cV;have bj:=J ak;have jR:=J el;clear ak el cV);have D7:RV w5 w S e:=Bk.grown (Bk.alloc jT.o (.cells #[t] 9)) jR.o (λe=>Z1 zp.o jT.o aY e.symm);have dM:Below w w w5:=(bE.o.alloc bW (.cells #[t] 9)).grown jR.o (co bW (by simp)) (λj hj=>(zp.o.lt j hj).1);have ho5:w5.ownsRow w 9 1 v' (ws++[t]) (bz (ws++[t])):=by have:=bj.o;rw[Vab,Zk3];exact this
  obtain⟨H4,gX,gG,Ho5⟩:=dc (Ze D7) D7 dM ho5;clear D7 dM ho5 bj jR zp jT bE fa fu bW hi dP cg dJ;go_wp21;refine cp H4.o ?_;rcases dQ.o with ⟨he,a,u,tG,rfl,rfl,uG,_⟩|⟨he,tG⟩;.subst he;have hm:=Cp.o;rw[UC tG] at hm;have Hm:Hid (Yp n s2=(Yp (n-(ws++[bs a]).length) u).map (λx=>(ws++[bs a]++x.1,x.2))):=J (by rw[hm,Vab,Option.map_map];simp[Function.comp_def]);have hlen:(ws++[bs a]).length=ws.length+1:=(by simp);clear hm tG;go_wp2;go_roundw;exact⟨ws++[bs a],u,O,by rw[hlen];go_num,Ho5.o,gX.o,co uG vq.o,Hm,gG.o⟩;simp[intOf]<;>omega
  have hm:=Cp.o;rw[UD tG] at hm;have hr:X0 (aH data)=none:=by rw[iH.o,hm];rfl
  have Hr:=J hr;have aC:((e:Int) !=0)=true:=eV;clear hm tG hr he;go_wp2;go_returns;rw[Hr.o];exact Qn gG.o
 have bR:n-ws.length=0:=O;have wD:=Bi.o;rw[bR,Yp] at wD;simp only[Cg,fg] at wD;have cF:=iH.o;rw[wD] at cF;simp only at cF;have nF:=J cF;obtain⟨t,S,e,jc,aK⟩:=Xo sk data.size;have H3:=J (ZY jj W4X (data.size:Int));rw[jc] at H3;have dQ:=J aK;have Hf:=J hf;have hwn:ws=n:=O;clear aK jc Bi jj hf bR wD cF iH ad;go_wp21;refine aP H3.o λw4 ⟨dH,aR⟩=>?_;have Ik:=Z6 aL.o aR (λg hg (e:g=w.heap.size)=>Z1 aL.o VB.o aY (e▸hg));have an:=Zf Hf.o aU aR;obtain⟨H4,jT,bE,zp⟩:=dc (Ze dH) dH an Ik;clear dH Ik an aR H3 aL Hf;go_wp21;refine cp H4.o ?_;clear H4;rcases dQ.o with ⟨he,a,u,tG,rfl,rfl,uG,fS,ham⟩|⟨he,tG⟩
 .subst he;have cF:=nF.o;rw[tG] at cF;simp only at cF;have Jq:=J (λW=>Y1 (w:=W) a O 4096);have Ds:=J (λW=>Y1 (w:=W) u O 4096);obtain⟨g1,k1⟩:=XS a 4096;obtain⟨g2,k2⟩:=XS u 4096;have HL:=J (λW (h:RV W w (bs u) 0)=>ZA h W4X);have HT:=J (λW (h:RV W w (bs u) 0)=>by have:=Zr h W4X ((bs u).size:Int);rw[F4] at this;exact this);generalize fc a 4096=DA at*;generalize fc u 4096=DB at*;obtain⟨LA,ea⟩:=DA;obtain⟨LB,eb⟩:=DB;simp only at g1 k1 g2 k2;have gO:=J cF;have G2:=J g2;clear cF tG dQ nF uG g1 g2;generalize bs a=SA at*;generalize bs u=SU at*;go_wp21;refine(Jq.o _).mono ?_;rintro x w7 ⟨v7,rfl,⟨A7,c7,rfl,mT⟩,f8⟩;have B0:=Bk.lt jT.o;have L5:RV w7 w SU 0:=Bk.below jT.o f8 B0;have G7:=bE.o.trans (f8.mono bE.o.size);have ho7:=Z6 zp.o (Fr.of_below (S:=nob) f8) (λg hg h=>h);obtain⟨Uj,UJ,pE,Nt,E8,Ny⟩:=fA (HL.o _ L5) (HT.o _ L5) mT ho7 G7 L5;clear HL HT L5 mT ho7 G7 f8 B0 zp jT bE Jq;go_wp21;refine cp Uj.o ?_;go_wp21;refine aP UJ.o λw8 ⟨hr8,sQ⟩=>?_;have G8:=Zf E8.o aU sQ;have sA:=ZcE pE.o Ny.o hr8 sQ;have Il:=Z6 Nt.o sQ (λg hg (e:g=w.heap.size)=>Z1 Nt.o Ny.o aY (e▸hg));obtain⟨rE,Vw,yW⟩:=bD sA Il G8;clear hr8 sQ sA Il G8 Uj UJ pE Nt E8 Ny;go_wp21;refine(Ds.o _).mono ?_;rintro x w9 ⟨v9,rfl,⟨B9,c9,rfl,ir⟩,bK⟩;simp only at ir;have sB:=rE.o.below bK;have Im:=Z6 Vw.o (Fr.of_below (S:=nob) bK) (λg hg h=>h);have G9:=yW.o.trans (bK.mono yW.o.size);obtain⟨AW,cW,hvW,sC⟩:=Zh Im;injection hvW with bJ bp gg;subst bJ;subst gg;obtain⟨yP,DU,E3,pF⟩:=dc sB ir sC G9;clear sB ir sC G9 Im bK rE Vw yW Ds bp;have bP:=gO.o;unfold fin at bP;simp only at bP;by_cases c1:ea≠0\/eb≠0\/LA≠LB.length
  .rw[Vag c1] at bP;have Hr:=J bP
   have q1:((ea:Int) !=0)=true\/(((ea:Int) !=0)=false/\((eb:Int) !=0)=true)\/(((ea:Int) !=0)=false/\((eb:Int) !=0)=false/\((LA.length:Int) !=LB.length)=true):=by by_cases d1:ea=0;by_cases d2:eb=0;right;right;refine⟨by rw[d1];rfl,by rw[d2];rfl,eV⟩;right;left;refine⟨by rw[d1];rfl,eV⟩;left;exact eV
   clear c1 bP;rcases q1 with q1|⟨q1,q2⟩|⟨q1,q2,q3⟩
   all_goals
    go_wp2;go_returns;rw[Hr.o];exact Qn pF.o
  rw[Vae c1] at bP;have d1:ea=0:=O;have d2:eb=0:=O;have d3:LA=LB.length:=O;subst d1;subst d2;have q3:((LA.length:Int) !=LB.length)=false:=(by rw[bne_eq_false_iff_eq];omega);have q1:(((0:Nat):Int) !=0)=false:=rfl;have HU:=J (Z78 yP.o LA c7 rfl O);have CI:(ZX LA).2=0->(ZX LA).1.length=LA:=by unfold ZX;split;intro _;simp[Xq];rename_i h;intro h2;exact absurd h2 h
  have cu:=J bP;have D3:=J d3;clear c1 bP d3 k2;have sH:c=1\/c≠1:=O;go_upto_if 68 with fail
  go_cut [9] (λs9 wx=>∃(I:List Int) (A9:Wto) (jx:Nat),s9=.slice A9 LA jx/\I=LA.length/\At wx A9 (bO I)/\Below w9 w9 wx/\
   Hid (X0 (aH data)=if ∃v∈LB,4096<=v then none else if(ZK ws (I.zip (LB.map (· +1))) []).2=0 then some (ZK ws (I.zip (LB.map (· +1))) []).1 else none))
  case first=>
   rcases sH with h1|h1
   .have g0:((c:Int)==1)=true:=Jr;have aj:=cu.o;simp only[h1,if_true,true_and] at aj;clear h1 cu cH;obtain⟨U,WO⟩:=ay (ZX LA);rw[WO] at HU CI aj;clear WO;obtain⟨UL,ue⟩:=U;simp only at CI aj;have dh:=J aj;have Mf:=J CI;clear aj CI;go_wp21;refine(HU.o).mono ?_;rintro x nO ⟨v10,rfl,⟨A10,c10,rfl,sy⟩,fF⟩;simp only at sy;have DT:=J sy;clear sy HU;simp only[Vah];by_cases SZ:ue=0;.subst SZ;have hl:=Mf.o rfl;have aN:=dh.o;simp only[ne_eq,not_true,if_false] at aN;have ig:=J aN;rw[hl];clear aN dh Mf;go_wp2;go_meet;case rel=>exact⟨UL.map Int.ofNat,A10,c10,rfl,by rw[Vah,hl],DT.o,fF,ig⟩
    have aN:=dh.o;rw[Vag SZ] at aN;have Hr:=J aN;have aX:=pF.o.trans (fF.mono pF.o.size);have q5:((ue:Int) !=0)=true:=eV;clear aN dh Mf SZ;go_wp2;go_returns;rw[Hr.o];exact Qn aX
   have g0:((c:Int)==1)=false:=W4P;have aj:=cu.o;simp only[h1,if_false,false_and] at aj;have dh:=J aj;clear h1 cu cH CI HU aj;go_wp2;go_meet;case rel=>exact⟨LA,A7,c7,rfl,rfl,yP.o,bf _ _,dh⟩
  clear HU CI cu;obtain⟨I,A9,jx,rfl,WC,pW,G4,xN⟩:=hcut;obtain⟨Z,hZ⟩:=ay (I.zip (LB.map (· +1)));have FN:Z=LA.length:=(by rw[<-hZ,List.length_zip,Vah,<-D3.o,WC,Nat.min_self]);have sS:=xN.o;rw[hZ] at sS;have tV:=J sS;have HZ:=J hZ;have cA:=Zj0 (P:=prog) 294 297 underlying294 T3 (LA.length:Int) LA rfl k1 wc;obtain⟨rF,rH,yQ,rI⟩:=dc (DU.o.below G4) (E3.o.below G4) pW (pF.o.trans (G4.mono pF.o.size));clear xN sS hZ pW G4 DU E3 yP pF;go_wp2;go_loopw [14,81] (λ_ i wr=>∃k:Nat,k<=LA/\i=k/\Bk wr wc 297 (pcs (Z.take k++List.replicate (LA.length-k) (0,0)))/\Hid (∀v∈LB.take k,v<4096)/\Below wc wc wr) (λ_ i _=>(LA.length-intOf i).toNat);exact⟨0,O,rfl,Bk.new _ _ _,J (by simp),(bf _ _).alloc aU _⟩;obtain⟨k,hk,rfl,az,ao,hf⟩:=hrel;by_cases ab:k<LA
  .have hkB:k<LB:=(by rw[<-D3.o];exact ab);have hkI:k<I:=(by rw[WC];exact ab);have hkZ:k<Z:=(by rw[FN];exact ab);obtain⟨v,hv⟩:=ay LB[k];obtain⟨y,hy⟩:=ay I[k];have Li:Z[k]=(y,v+1):=by simp only[<-HZ.o,List.getElem_zip,uF,hy,hv]
   have wI:=G2.o v (hv▸dt _);have zW:=rF.o.below hf;have pW:=yQ.o.below hf;obtain⟨bB,oB,hB,sE,hcB⟩:=zW.get k (.int .i64 v) (by rw[<-hv];simp[bO,iv,hkB]);obtain⟨bI,oI,hI,G4,hcI⟩:=pW.get k y (by rw[<-hy];simp[bO,iv,hkI]);subst hB;subst hI;by_cases fT:(4096:Int)<=v;.have hr:=tV.o;rw[Vag ⟨v,hv▸dt _,fT⟩] at hr;have Hr:=J hr;have aX:=rI.o.trans (hf.mono rI.o.size);clear hr tV hv hy Li zW pW az cA;go_wp2;go_returns;rw[Hr.o];exact Qn aX
   have hlen:(Z.take k)=k:=vO;have wB:=Zje (Z.take k) LA.length (y,v+1) (0,0) O;rw[hlen,<-Li,<-dK hkZ] at wB;have Di:(Z.take k++List.replicate (LA.length-k) ((0,0):Int×Int)).length=LA.length:=(by rw[Vab,hlen,iE];omega);obtain⟨W,hW⟩:=ay (Z.take k++List.replicate (LA.length-k) ((0,0):Int×Int));rw[hW] at wB Di az;obtain⟨We,Wf⟩:=Zn5 W k O;obtain⟨m0,cz⟩:∃m:Int,wr.cell? ⟨wc,k*2,none⟩=m:=⟨_,(az.cell _).trans We⟩;obtain⟨m1,cH⟩:∃m:Int,wr.cell? ⟨wc,k*2+1,none⟩=m:=⟨_,(az.cell _).trans Wf⟩;have hfz0:=az.frozen (k*2);have hfz1:=az.frozen (k*2+1);have au:=(az.put (k*2) y).put (k*2+1) (v+1:Int);have gK:=Zn6 W k (y,v+1) O;simp only at gK;rw[gK,<-Li,wB] at au;have aB:=J au;have cC:Hid (∀u∈LB.take (k+1),u<4096):=J (by intro u hu;rw[dK hkB,hv] at hu;exact PA);have i2:IntKind.i64.wrap (v+1)=v+1:=lO;have cP:(0:Int)<=k:=O;have qk:(k:Int)<LA:=O;have hkm2:(k:Int)<LB:=O;have Hf:=J hf;clear au gK wB ao zW pW az cA hv hy Li We Wf hW Di hlen tV HZ rF rH yQ G2 hf;go_upto_region 28 with fail;go_region;go_wp2;go_roundw;exact⟨k+1,O,ci,aB.o,cC,((Hf.o.setCell (p:=⟨wc,k*2,none⟩) aU _).setCell (p:=⟨wc,k*2+1,none⟩) aU _).drew⟩;simp[intOf]<;>omega
  have cP:k=LA:=O;subst cP;rw[fh,List.replicate_zero,fg,<-FN,pi] at az;have cC:¬∃v∈LB,(4096:Int)<=v:=by rintro⟨v,hv,h4⟩;have:=ao.o v (by rw[D3.o,pi];exact hv);omega
  have hr:=tV.o;rw[Vae cC] at hr;have FY:At wr (some ⟨wc,0,none⟩) (pv Z):=az.at_;have sC:=rH.o.below hf;have aX:=rI.o.trans (hf.mono rI.o.size);have HE:=J (Zbg sC FY n cw LA LA hwn.symm FN.symm O O);obtain⟨⟨X,xe⟩,hX⟩:=ay (ZK ws Z []);rw[hX] at hr HE;simp only at hr;have Hr:=J hr;have uZ:=J aX;clear hX hr aX FY sC cC ao az cA hf tV HZ rF rH yQ rI;go_wp21;refine(HE.o).mono ?_;rintro x uM ⟨v11,rfl,qu,iu⟩;simp only at qu;have aX:=uZ.o.trans (iu.mono uZ.o.size);by_cases mJ:xe=0;.subst mJ;have eU:Hid (X0 (aH data)=some X):=J (by rw[Hr.o,Vag rfl]);have Hs:=J qu;clear Hr qu iu;go_wp2;go_returns;rw[eU.o];exact⟨v11,rfl,(λl h=>by injection h with h;subst h;exact Hs.o),aX⟩
  have eU:Hid (X0 (aH data)=none):=J (by rw[Hr.o,Vae mJ]);have q9:((xe:Int)==0)=false:=W4P;clear Hr qu iu mJ;go_wp2;go_returns;rw[eU.o];exact Qn aX
 have hr:X0 (aH data)=none:=by rw[nF.o,tG]
 have Hr:=J hr;have aC:((e:Int) !=0)=true:=eV;clear tG hr he nF dQ;go_wp2;go_returns;rw[Hr.o];exact Qn bE.o
