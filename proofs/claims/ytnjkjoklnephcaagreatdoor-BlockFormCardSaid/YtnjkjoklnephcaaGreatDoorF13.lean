import Derived.Test.YtnjkjoklnephcaaGreatDoorF10
set_option linter.all false
set_option maxRecDepth 100000
set_option maxHeartbeats 0
open Go.Proofs.Tryz (prog underlying123 underlying23 underlying312 underlying332 underlying9)
section
variable{P Q:Prop}
theorem yJ(h:P:=by simp[bO]):P:=h
theorem qC(h:P:=by rw[Z0];omega):P:=h
theorem Fh(h:P:=by rw[c'];exact F):P:=h
theorem kG(h:P:=by have:=I.o;omega):P:=h
theorem iF(h:P:=by rw[<-I.o];exact ab):P:=h
theorem Fs(h:P:=by rw[<-E.o];exact ab):P:=h
theorem Fp(h:P:=by rw[<-I.o];exact aU):P:=h
theorem Fq(h:P:=by rw[<-E.o];exact aU):P:=h
theorem E6(h:P:=by obtain⟨A,cap,q,M⟩:=Zh h;exact⟨A,cap,q,M⟩):P:=h
theorem Ri(h:P:=by obtain⟨u,hu,rfl⟩:=iX.1 q;have:=L u hu;omega):P:=h
theorem I4(h:P:=by clear aa;go_wp2;go_returns;rw[G.o];exact Qt 2 R.o):P:=h
theorem PG(h:P:=by have:=u.o;rw[bV];unfold bz at this⊢;rw[jy];exact this):P:=h
theorem O6(h:P:=by clear M F;go_in;go_wp21;refine(H.o).mono ?_;rintro x w1 ⟨v,rfl,hi,hb⟩;go_wp2;go_returns;exact⟨v,rfl,hi,hb⟩):P:=h
theorem y'{P:Prop}(h:P:=by go_in;go_wp21;refine aP k.o λw1 z=>?_;go_wp21;refine aP (g.o _ z) λw2 aa=>?_;have hb:=z.trans (aa.mono z.size);go_wp2;go_returns;exact G.o _ hb):P:=h
theorem NP(h:P:=by have b1:=Z9R F;unfold Instr.lookup;simp only[Sem.run_bind,Sem.run_pure,run_underlying ht,Result.andThen_ok,MapKept.run_getObj_map h,LV Q,MapKept.run_findKey Q b1];rfl):P:=h
theorem Nj(h:P:=by
 go_wp2_with (
  at_builtin;refine wpList_append_own_at _ rfl (.tmp 41) (.tmp 46) _ rfl w1 315 i0 (.agg #[(0:Int),(0:Int)]) 2 16 underlying312 hi B d z rfl (by omega) (.slice A4 X a1) X (pv X) (by rfl) (d2.o.alloc _) ⟨wr,0,none⟩ 1 1 [iv (q:Int),iv 1] (by rfl) rfl (Za7 _ _ _ _) (by simp[Value.oneCell',iv]) S a0 (co E (by simp)) ?_;intro v' w2 t g _ Q;have u:=J t;have l:=J g;clear t g Q);have R:=(G.o.alloc (.cells #[q,(1:Int)] 315)).grown l.o (λe=>XZ d2.o G.o e.symm);have b2:Below w1 w1 w2:=(y.o.alloc E (.cells #[q,(1:Int)] 315)).grown l.o (co E (by simp)) (λj D=>(d2.o.lt j D).1);have I:=(Ha.o.below M.o).below b2;have a2:w2.ownsRow w1 315 2 v' (X++[((q:Int),(1:Int))]) (pv (X++[((q:Int),(1:Int))])):=by have:=u.o;rw[bV,Qm];exact this
 go_wp2;go_roundw;case rel=>exact⟨k+1,by omega,by go_num,by rw[b9.o,F.o];exact a2,R,I,b2⟩
 simp[intOf]<;>omega):P:=h
end
namespace Go.Proofs.Y
open Wv Go.RowKit
variable{A:bN}{l:List Int}{w:aq}
theorem Z2b (M:At w A (bO l)) (n cap:Nat) (F:n=l) (j:n<=9223372036854775807) (hb:lm l≠0):
  Calls prog 262 #[(A,n,cap),.func (.func 265) #[] #[]] w λx w'=>vC w x w' ([],lm l):=Ng
theorem Z2T {l:List Nat} (d3:At w A (bO (l.map Int.ofNat))) (n cap:Nat) (d4:n=l) (e4:l.length<=4096) (d5:∀v∈l,v<4096):
  Calls prog 262 #[(A,n,cap),.func (.func 265) #[] #[]] w λx w'=>vC w x w' (Yc r0 l,0):=by obtain⟨Ha,d,y⟩:=bD d3 d4 d5;have f2:n<=4096:=O;have e8:¬(4096:Int)<n:=O;obtain⟨e5,f7,c6⟩:=bD (m_ w) (λ(v:Nat) (h:v<4096)=>show v∈r0 from List.mem_range.2 h) (show r0.length=4096 from rm);clear d3 d4 d5 e4;go_in;go_wp2;go_loop [7,19] (λ_ i=>∃k:Nat,k<=n/\i=k) (λ_ i=>(n-intOf i).toNat);exact Cw;obtain⟨k,f6,rfl⟩:=hrel;by_cases ab:k<n;exact KK;have e2:k=n:=O;subst e2;go_wp21;refine aP e5.o λw1 ⟨c4,a4⟩=>?_;have d9:=a4.size;have c8:=Y5 (P:=prog) 123 3 _ _ underlying123 Y2 rfl (k:Int) k rfl O O w1;rw[<-Kp] at c8;have d2:=Ha.o.below a4;have f4:=c4.lt;have c7:=c4.alloc (.cells (nc (List.replicate k 0)) 3);have aa:=a4.alloc d9 (.cells (nc (List.replicate k 0)) 3);have d6:=d2.alloc (.cells (nc (List.replicate k 0)) 3);have c9:=Bk.new w1 3 (nc (List.replicate k 0));have M:=J (show w.heap.size<w1.heap.size/\w.heap.size≠w1.heap.size from⟨O,O⟩);clear c4 a4 d2;go_wp2;go_loopw [8,10,11,12,13,36] (λe7 _ _ _ _ i wr=>∃j:Nat,j<=k/\i=j/\e7=.slice (some (w,0)) 4096 4096/\Bk wr w 3 (nc (wE r0 (l.take j)))/\Bk wr w1.heap.size 3 (nc (Yc r0 (l.take j)++List.replicate (k-j) 0))/\At wr A (bO (l.map Int.ofNat))/\Below w w wr) (λ_ _ _ _ _ i _=>(k-intOf i).toNat);exact⟨0,O,rfl,rfl,c7,c9,d6,aa⟩;clear c7 c9 d6 aa c8;obtain⟨j,f5,rfl,rfl,G,g,a2,E⟩:=hrel;have a8:∀m∈l.take j,m<4096:=λm c5=>y.o m (Ag c5);by_cases e3:j<k;have z:j<l:=(by rw[<-d.o];exact e3);obtain⟨v,q⟩:=ay (l.getD j 0);have a5:v<4096:=EN;obtain⟨f9,g3,S,D,b1⟩:=a2.get j (v:Int) Ee;subst S;obtain⟨F,a3⟩:=Z5S (l.take j) v r0;rw[<-q,<-Sb l j z,q] at F a3;have I:=Xq (l.take j) r0;rw[ek,Nat.min_eq_left O] at I;have a1:(wE r0 (l.take j)).length=4096:=(Zno (l.take j) r0 (λm c5=>by rw[c6.o];exact a8 m c5)).trans c6.o;have a9:True:=trivial;obtain⟨R,t⟩:=ay (wE r0 (l.take j));obtain⟨Q,u⟩:=ay (Yc r0 (l.take j));rw[t] at F a3 G a1;rw[u] at F g I;have b6:=J (Z7E G a1 v a5);obtain⟨c3,d7⟩:=ay (R.getD v 0);rw[d7] at F b6;clear d7;obtain⟨b7,b9,f8⟩:=bD F a3 G;have a7:=VD Q k c3 O;rw[I] at a7;have e1:=J a7;have a6:=g.put j (.int .i64 ((c3:Nat):Int));rw[uX,e1.o] at a6;have b5:(Q++List.replicate (k-j) 0).length=k:=CA;obtain⟨d8,f3⟩:∃d8:Int,wr.cell? (w1.heap.size,j)=d8:=⟨_,by rw[g.cell,Xj _ _ O]⟩;have e9:=g.frozen j;have b0:=G.off (p:=⟨w1.heap.size,j,none⟩) (M.o.2) (.int .i64 ((c3:Nat):Int));have b2:=E.setCell (p:=⟨w1.heap.size,j,none⟩) (II M.o.1) (.int .i64 ((c3:Nat):Int));obtain⟨b3,a0,L⟩:=bD (VC b0 a1 v (by exact a5)) a6 b2;exact K8;have e6:j=k:=O;subst e6;have B:l.take j=l:=d' (by rw[<-d.o];exact aU);rw[B,fh,List.replicate_zero,fg] at g;have b4:=J g.at_;have I:=J (Xq l r0);exact NM
theorem Rq (h:∀n∈l,0<=n/\n<4096):(l.map Int.toNat).map Int.ofNat=l:=by rw[qx];refine(List.map_congr_left λn d=> ?_).trans (List.map_id l);exact Int.toNat_of_nonneg (h n d).1
theorem Zbb (j:At w A (bO l)) (n cap:Nat) (F:n=l) (k:n<=9223372036854775807):
  cK 262 #[(A,n,cap),.func (.func 263) #[] #[]] w λx w'=>vC w x w' (front l):=by by_cases d:lm l=0;obtain⟨h1,L⟩:=Gs d;have e:=Rq L;have g:front l=(Yn r0 (l.map Int.toNat),0):=(by unfold front;rw[Vag d]);rw[g];exact Z56 (by rw[e];exact j) n cap Fh (by rw[c'];exact h1) (λv q=>Ri);have g:front l=([],lm l):=(by unfold front;rw[aD d]);rw[g];exact Z3Z j n cap F k d
theorem Z6v (j:At w A (bO l)) (n cap:Nat) (F:n=l) (k:n<=9223372036854775807):
  cK 262 #[(A,n,cap),.func (.func 265) #[] #[]] w λx w'=>vC w x w' (ZX l):=by by_cases d:lm l=0;obtain⟨h1,L⟩:=Gs d;have e:=Rq L;have g:ZX l=(Yc r0 (l.map Int.toNat),0):=(by unfold ZX;rw[Vag d]);rw[g];exact Z2T (by rw[e];exact j) n cap Fh (by rw[c'];exact h1) (λv q=>Ri);have g:ZX l=([],lm l):=(by unfold ZX;rw[aD d]);rw[g];exact Z2b j n cap F k d
theorem ZbN (M:At w A (bO l)) (n cap:Nat) (F:n=l) (d:n<=9223372036854775807):
  Calls prog 234 #[(A,n,cap)] w λx w'=>vC w x w' (front l):=by have H:=J (Zbb M n cap F d);generalize front l=r at*;exact O6
theorem Z78 (M:At w A (bO l)) (n cap:Nat) (F:n=l) (d:n<=9223372036854775807):
  Calls prog 235 #[(A,n,cap)] w λx w'=>vC w x w' (ZX l):=by have H:=J (Z6v M n cap F d);generalize ZX l=r at*;exact O6
def bz (l:a'):List aI:=l.map sv
theorem YD (l:a') (i:Nat) (h:i<l):(bz l)[i]? =some (.string l[i]):=by simp[bz,sv,fb h]
theorem Zev (s:aT) (d:s.size<=9223372036854775807) (w:aq):
  Calls prog 231 #[s] w λx w'=>x=.returned (decide (128<s.size))/\w=w':=by have h:=J (show decide ((128:Int)<s.size)=decide (128<s.size) from by rw[lN,fq,fq];omega);go_in;go_wp2;go_ret;exact⟨Z4 h.o,rfl⟩
def Zqq (w:aq) (L:Bool) (x:Ending) (w':aq):Prop:=((∃k:Nat,k<=4096/\L=true/\x=.returned k)\/(L=false/\x=.returned (-1:Int)))/\w=w'
def zk (l:a'):Bool:=decide (∃s∈l,128<s.size)
theorem Vz {l:a'} (z:At w A (bz l)) (y:∀s∈l,s.size<=9223372036854775807) (n cap:Nat) (B:n=l) (a2:n<=4096):
  Calls prog 230 #[(A,n,cap),.func (.func 231) #[] #[]] w λx w'=>x=.returned (zk l)/\w=w':=by
 have d:Hid (Calls prog 260 #[(A,n,cap),.func (.func 231) #[] #[]] w λx w'=>Zqq w (zk l) x w'):=J (by
  obtain⟨Ha,I,M⟩:=bD z B y;clear z B y;go_in;go_wp2;go_loop [5,8] (λ_ i=>∃k:Nat,k<=n/\i=k/\Hid (∀s∈l.take k,¬128<s.size)) (λ_ i=>(n-intOf i).toNat);exact⟨0,O,rfl,J (by simp)⟩;obtain⟨k,S,rfl,F⟩:=hrel;by_cases ab:k<n
  .have D:k<l:=iF;obtain⟨s,p⟩:=ay l[k];obtain⟨a0,a3,R,a1,a4⟩:=Ha.o.get k (.string s) (by rw[YD l k D,p]);subst R;have g:=Zev s (M.o s (p▸dt _)) w;by_cases j:128<s.size;.rw[dd j] at g;have g:=J g;have q:zk l=true:=dd ⟨s,p▸dt _,j⟩;have t:=J q;clear q j p;go_wp21;refine cp g.o ?_;go_wp2;go_ret;exact⟨.inl ⟨k,O,t.o,rfl⟩,rfl⟩
   rw[cI j] at g;have g:=J g;have E:Hid (∀u∈l.take (k+1),¬128<u.size):=J (by intro u G;rw[dK D,p] at G;rcases lc.1 G with h|h;exact F.o u h;rw[jv] at h;rw[h];exact j);clear j p;go_wp21;refine cp g.o ?_;exact Pj
  have q:zk l=false:=cI (by rintro⟨s,h1,Q⟩;refine F.o s ?_ Q;rwa [d' (by rw[<-I.o];omega)]);have t:=J q;clear q;go_wp2;go_ret;exact⟨.inr ⟨t.o,rfl⟩,rfl⟩);clear z y B;generalize zk l=L at*;go_in;go_wp21;refine(d.o).mono ?_;rintro x w1 ⟨⟨k,S,rfl,rfl⟩|⟨rfl,rfl⟩,rfl⟩;exact Ai;exact Ai
end Go.Proofs.Y
namespace Wv
open Go Go.RowKit
variable{b:Nat}{l:a'}{s:aT}{w w':aq}
def ur:Nat->a'->List MapEntry
 |_,[]=>[]
 |k,a::t=>⟨.string a,.int .i64 (k:Int),k⟩::ur (k+1) t
def ww (l:a'):Array MapEntry:=(ur 0 l).toArray
theorem ZdO (l:a') (s:aT):∀k,ur k (l++[s])=ur k l++[⟨.string s,.int .i64 ((k+l.length:Nat):Int),k+l.length⟩]:=by
 induction l with
 |nil=>intro k;rfl
 |cons a t ih=>intro k;rw[jw,ur,ih,ur,gd,show k+1+t.length=k+(t.length+1) from by exact O];rfl
theorem ZdP (l:a') (s:aT):ww (l++[s])=(ww l).push ⟨.string s,.int .i64 (l.length:Int),l.length⟩:=by unfold ww;rw[ZdO];grind
theorem TG (s:aT) (l:a'):∀k i,(s∈l->Instr.findNow .string (.string s) (ur k l) i=some (some (i+ix l s,.int .i64 ((k+ix l s:Nat):Int))))/\(s∉l->Instr.findNow .string (.string s) (ur k l) i=some none):=by
 induction l with
 |nil=>intro k i;exact⟨λh=>absurd h (Ci),λ_=>rfl⟩
 |cons a t ih=>
  intro k i;obtain⟨r,g,p⟩:=MapKept.sameNow_of_keys (d:=.string) (a:=.string s) (b:=.string a) trivial trivial;cases r with
  |true=>have h1:Value.string s=Value.string a:=p.1 rfl;injection h1 with h1;subst h1;have j:ix (s::t) s=0:=(by simp[ix]);exact⟨λ_=>by rw[ur,Instr.findNow,g,j];rfl,λh=>absurd fi h⟩
  |false=>have h1:a≠s:=λe=>aO;have j:ix (a::t) s=ix t s+1:=(by rw[ix,aD h1]);refine⟨λh=> ?_,λh=> ?_⟩;rw[ur,Instr.findNow,g,j];grind;rw[ur,Instr.findNow,g];grind
theorem Z9R (h:s∈l):Instr.findNow .string (.string s) (ww l).toList 0=some (some (ix l s,.int .i64 (ix l s:Nat))):=by have:=(TG s l 0 0).1 h;simpa [ww] using this
theorem WR (h:s∉l):Instr.findNow .string (.string s) (ww l).toList 0=some none:=by have:=(TG s l 0 0).2 h;simpa [ww] using this
def kH (w:aq) (b:Nat) (l:a'):Prop:=w.heap[b]? =some (.map (ww l) l)
theorem kH.lt (h:kH w b l):b<w:=(Array.getElem?_eq_some_iff.1 h).1
theorem kH.fr {S:Nat->Prop} (h:kH w b l) (d:Fr S w w') (hb:¬S b):kH w' b l:=(d.block b h.lt hb).trans h
theorem kH.alloc (h:kH w b l) (o:Obj):kH (w.alloc o) b l:=(Below.heap_alloc w o b h.lt).trans h
theorem kH.grown {row:Option Nat} (h:kH w b l) (g:w.grownBy w' row) (d:some b≠row):kH w' b l:=(g.block b h.lt d).trans h
def u' (w:aq) (b:Nat) (l:a'):aq:= { w with heap:=w.heap.setIfInBounds b (.map (ww l) l) }
theorem Zg4 {l':a'} (h:kH w b l):kH (u' w b l') b l':=by have:=h.lt;simp[kH,u',this]
theorem UE {S:Nat->Prop} {a:aq} (h:Fr S a w) (hb:S b\/a<=b):Fr S a (u' w b l):=
 ⟨h.os,h.tape,h.output,by simpa [u'] using h.size,λk d g=>by refine Eq.trans ?_ (h.block k d g);have:b≠k:=aO;simp[u',this]⟩
theorem LV {P:Program} {k:TypeId} (d:P.underlying k=some .string) (e:Bool) (s:aT) (W:aq):(Instr.checkKey e 10000 k (.string s)).run P W=.ok () W:=
 MapKept.run_checkKey (w:=W) d (show MapKept.IsKey .string (.string s) from trivial) e 9999
theorem ZmN {P:Program} {t k e:TypeId} (q:P.underlying t=some (.map k e)) (d:P.underlying k=some .string) (h:kH w b l) (s:aT) (p:s∉l):
  (Instr.mapUpdate t (.map (some b)) (.string s) (l.length:Int)).run P w=.ok () (u' w b (l++[s])):=by have j:=λo=>MapKept.run_setObj_map (P:=P) o h;have g:=WR p;unfold Instr.mapUpdate;simp only[Sem.run_bind,run_underlying q,Result.andThen_ok,MapKept.run_getObj_map h,LV d,MapKept.run_findKey d g,j];unfold u';rw[ZdP];simp
theorem Zpr {P:Program} {t k e:TypeId} (ht:P.underlying t=some (.map k e)) (Q:P.underlying k=some .string) (h:kH w b l) (s:aT) (F:s∈l):
  (Instr.lookup t (.map (some b)) (.string s) true).run P w=.ok (.tuple #[((ix l s:Nat):Int),true]) w:=NP
theorem Zpq {P:Program} {t k e:TypeId} (p:P.underlying t=some (.map k e)) (d:P.underlying k=some .string) (h:kH w b l) (s:aT) (j:s∉l) (q:(zeroValue e).run P w=.ok (0:Int) w):
  (Instr.lookup t (.map (some b)) (.string s) true).run P w=.ok (.tuple #[(0:Int),false]) w:=by have g:=WR j;unfold Instr.lookup;simp only[Sem.run_bind,Sem.run_pure,run_underlying p,Result.andThen_ok,MapKept.run_getObj_map h,LV d,MapKept.run_findKey d g,q];rfl
theorem ZmM {P:Program} {t k e:TypeId} (ht:P.underlying t=some (.map k e)) (Q:P.underlying k=some .string) (h:kH w b l) (s:aT) (F:s∈l):
  (Instr.lookup t (.map (some b)) (.string s) false).run P w=.ok (.int .i64 (ix l s:Nat)) w:=NP
end Wv
namespace Go.Proofs.Y
open Wv Go.RowKit
variable{A:bN}{base e:Nat}{l:a'}{v:aI}{w:aq}
theorem YN:(prog.info? 9).map (λi=>(i.zero,i.size,i.bytes))=some (some (.string ByteArray.empty),1,16):=dw
theorem Q_ (w:aq):(zeroValue 3).run prog w=.ok (0:Int) w:=dw
theorem Zdr (l:a') (k:Nat) (h:k<l):(l[k]∈cT (l.take k)->cT (l.take (k+1))=cT (l.take k))/\(l[k]∉cT (l.take k)->cT (l.take (k+1))=cT (l.take k)++[l[k]]):=by rw[dK h,CT];exact⟨λh=>by rw[Vag h],λh=>by rw[aD h]⟩
def wW (w:aq) (v:aI) (l:a'):Prop:=∃A cap,v=.slice A l cap/\At w A (bz l)
theorem wW.nil (w:aq):wW w (.slice none 0 0) []:=⟨none,0,rfl,At.nil _ _⟩
theorem VX (h:w.ownsRow base e 1 v l (bz l)):wW w v l:=E6
def IdxR (w:aq) (l:a') (x:Ending) (w':aq):Prop:=
 ∃v b,x=.returned (.tuple #[v,.map (some b)])/\w.heap.size<=b/\w'.ownsRow w 9 1 v (cT l) (bz (cT l))/\kH w' b (cT l)/\Below w w w'
theorem XZ {size n b:Nat} {xs:List aI} (h:w.ownsRow base e size v n xs) (g:kH w b l):v.ownBlock≠some b:=by rcases h.2 with ⟨rfl,_⟩|⟨k,cap,j,rfl,_,d,_⟩;exact Cx;intro p;have:k=b:=(by simpa [Value.ownBlock] using p);subst this;unfold kH at g;rw[g] at d;cases d
theorem TP (R:At w A (bz l)) (n cap:Nat) (a8:n=l) (e9:n<=4096):
  Calls prog 261 #[(A,n,cap)] w λx w'=>IdxR w l x w':=by
 have f2:= @run_makeMap prog;have Ha:=J R;have I:=J a8;obtain⟨i0,hi,B,y,z⟩:=info_parts YN;have d6:=J (And.intro hi (And.intro B (And.intro y z)));have d4:Below w w (w.alloc (.map #[] 0)):=(bf _ _).alloc aU _;have d5:kH (w.alloc (.map #[] 0)) w.heap.size []:=heap_alloc_new w _;have b3:=R.alloc (.map #[] 0);clear R a8 hi B y z;go_in;go_wp2;go_loopw [4,7,8,9,13] (λe3 _ _ _ i wr=>∃k:Nat,k<=n/\i=k/\wr.ownsRow w 9 1 e3 (cT (l.take k)) (bz (cT (l.take k)))/\kH wr w (cT (l.take k))/\At wr A (bz l)/\Below w w wr) (λ_ _ _ _ i _=>(n-intOf i).toNat);exact⟨0,O,rfl,Zl,d5,b3,d4⟩;obtain⟨k,e8,rfl,p,d,a2,E⟩:=hrel;by_cases ab:k<n
 .have a1:k<l:=iF;obtain⟨s,a9⟩:=ay l[k];obtain⟨e5,f3,c5,e6,f4⟩:=a2.get k (.string s) (by rw[YD l k a1,a9]);subst c5;obtain⟨M,Q⟩:=Zdr l k a1;rw[a9] at M Q;have a6:=Yz (l.take k);rw[ek] at a6;obtain⟨D,c6⟩:=ay (cT (l.take k));rw[c6] at M Q p d a6;by_cases t:s∈D;.have c9:=Zpr (P:=prog) underlying332 underlying9 d s t;obtain⟨Hd,q,F⟩:=bD (M t) p d;go_wp2;go_roundw;exact⟨k+1,O,ci,by rw[Hd.o];exact q.o,by rw[Hd.o];exact F.o,a2,E⟩;simp[intOf]<;>omega
  have c9:=Zpq (P:=prog) underlying332 underlying9 d s t (Q_ wr);have d3:=ZmN (P:=prog) underlying332 underlying9 d s t;obtain⟨A4,b1,d7,e7⟩:=Zh p;have e1:=XZ p d;subst d7;have a4:(u' wr w (D++[s])).ownsRow w 9 1 (.slice A4 D b1) D (bz D):=Z6 p (UE (S:=λj=>j=w.heap.size) (Fr.refl _ wr) (.inl rfl)) (λg c8 e=>e1 (by rw[c8,e]));have b2:=Zg4 (l':=D++[s]) d;have G:Below w w (u' wr w (D++[s])):=E.trans ((UE (S:=λj=>j=w.heap.size) (Fr.refl _ wr) (.inl rfl)).toBelow' E.size (λj a7 e=>O));have d8:=Q t;have c3:D+1<=maxLen:=fU;have c4:(D.length+1)*16<=140737488355328:=O;obtain⟨W,c7⟩:=ay (u' wr w (D++[s]));rw[c7] at d3 a4 b2 G;obtain⟨Hd,q,F,b9⟩:=dc d8 a4 b2 G;have L:=G.size;have e4:=J d.lt;obtain⟨hi,B,y,z⟩:=d6.o
  go_wp2_with (
   at_builtin;refine wpList_append_own_at _ rfl (.tmp 29) (.tmp 31) _ rfl w 9 i0 (.string ByteArray.empty) 1 16 underlying23 hi B y z rfl O (.slice A4 D b1) D (bz D) (by rfl) (q.o.alloc _) ⟨W,0,none⟩ 1 1 [.string s] (by rfl) rfl (Ql _ _ _) sX c3 c4 (co L (by simp)) ?_;intro e2 w1 a3 a5 _ b7;have u:=J a3;have b0:=J a5;clear a3 a5 b7);have b8:=(F.o.alloc (.cells #[s] 9)).grown b0.o (λe=>XZ (q.o) F.o e.symm);have a0:Below w w w1:=(b9.o.alloc L (.cells #[s] 9)).grown b0.o (co L (by simp)) (λj a7=>(q.o.lt j a7).1);have b4:=Ha.o.below a0;have d9:w1.ownsRow w 9 1 e2 (D++[s]) (bz (D++[s])):=PG;go_wp2;go_roundw;exact⟨k+1,O,ci,by rw[Hd.o];exact d9,by rw[Hd.o];exact b8,b4,a0⟩;simp[intOf]<;>omega
 have b6:k=n:=O;subst b6;have b5:l.take k=l:=d' Fp;rw[b5] at p d;go_wp2;go_returns;exact⟨_,_,rfl,aU,p,d,E⟩
def DRes (w:aq) (l:a') (x:Ending) (w':aq):Prop:=∃v,x=.returned v/\wW w' v l/\Below w w w'
theorem Z3Y (g:At w A (bz l)) (n cap:Nat) (j:n=l) (p:n<=4096):
  Calls prog 232 #[(A,n,cap)] w λx w'=>DRes w (cT l) x w':=by have d:=J (TP g n cap j p);clear g j;go_in;go_wp21;refine(d.o).mono ?_;rintro x w1 ⟨v,b,rfl,hb,q,u,k⟩;have t:=VX q;go_wp2;go_ret;exact⟨v,rfl,t,k⟩
end Go.Proofs.Y
namespace Wv
open Go Go.RowKit
variable{base cap g n size:Nat}{w:aq}{xs:List aI}
theorem Zjc {e:TypeId} (h:w.ownsRow base e size (.slice (some (g,0)) n cap) n xs) (i:Nat) (u:aI):
  (w.setCell (g,i) u).ownsRow base e size (.slice (some (g,0)) n cap) n (xs.set i u):=by refine⟨by rw[od];exact h.1,?_⟩;rcases h.2 with ⟨q,_⟩|⟨F,D,j,y,hb,t,z,B,l,k⟩;cases q;injection y with d E p;injection d with d;injection d with d;subst d;subst p;refine .inr ⟨g,cap,j.setIfInBounds i u,rfl,hb,?_,z,B,by rw[Array.size_setIfInBounds];exact l,?_⟩;simp[World.setCell,Array.getElem?_modify,t];rw[<-k,Array.toList_setIfInBounds,List.take_set]
theorem ZeV {e:TypeId} (h:w.ownsRow base e size (.slice (some (g,0)) n cap) n xs) (i:Nat) (u:aI) (k:xs[i]? =some u):
  w.cell? (g,i)=some u/\w.frozen? (g,i)=false:=by have h1:=h.cells (g:=g) rfl i u k;have:(⟨g,0,none⟩:Addr).add i=⟨g,i,none⟩:=(by unfold Addr.add;split<;>simp_all);rw[this] at h1;refine⟨h1,?_⟩;rcases h.2 with ⟨j,_⟩|⟨p,l,d,q,hb,R,_⟩;cases j;exact Pa
theorem ZeX {e:TypeId} {v:aI} (h:w.ownsRow base e size v n xs) (u:0<n):∃g cap,v=.slice (some ⟨g,0,none⟩) n cap/\n<=cap:=by rcases h.2 with ⟨_,q⟩|⟨k,d,j,p,hb,t,l,_⟩;exact O;exact⟨k,d,p,l⟩
theorem Za7 (w:aq) (t:TypeId) (a b:aI):∀(j:Nat) (u:aI),[a,b][j]? =some u->(w.alloc (.cells #[a,b] t)).cell? ((⟨w,0,none⟩:Addr).add j)=some u:=by intro j u h;rw[Go.WideShapes.add_plain,jK];have:=(Bk.new w t #[a,b]).cell j;rw[this];simpa using h
theorem Znc (l:List (Int×Int)) (x:Int×Int) (c:Int):(pv (l++[x])).set (l.length*2+1) (iv c)=pv (l++[(x.1,c)]):=by rw[Qm,Qm,nj _ _ (by rw[Q0];omega),Q0,show l.length*2+1-l.length*2=1 from by exact O];rfl
theorem Qw {a b:aT} :(a.toList==b.toList)=decide (a=b):=by rw[lN,beq_iff_eq,fq,ByteArray.toList_eq,ByteArray.toList_eq];exact ZnQ
end Wv
namespace Go.Proofs.Y
open Wv Go.RowKit
variable{A:bN}{a s t:ax}{e most n:Nat}{l:a'}{w w':aq}
theorem T3:(prog.info? 315).map (λi=>(i.zero,i.size,i.bytes))=some (some (.agg #[(0:Int),(0:Int)]),2,16):=dw
theorem ZfY (d l:a') (k:Nat) (h:k<l):
  (0<k->l[k-1]? =some l[k]->jt d (l.take (k+1))=xI (jt d (l.take k)))/\((k=0\/l[k-1]? ≠some l[k])->jt d (l.take (k+1))=jt d (l.take k)++[(ix d l[k],1)]):=by
 have g:0<k->(l.take k).getLast? =l[k-1]? :=by intro h0;rw[List.getLast?_eq_getElem?,ek,Nat.min_eq_left O,List.getElem?_take_of_lt O]
 rw[dK h,Q4];refine⟨λh0 p=> ?_,λj=> ?_⟩;rw[g h0,Vag p];rcases rS k with h0|h0;subst h0;rw[aD (by simp)];rw[g h0,aD (j.resolve_left O)]
theorem ZfX (d l:a') (k:Nat) (h:k<l):∃xs c,jt d (l.take (k+1))=xs++[(ix d l[k],c)]/\1<=c:=by rw[dK h];exact ZfW d (l.take k) l[k]
def PRes (w:aq) (r:List (Int×Int)) (x:Ending) (w':aq):Prop:=∃A cap,x=.returned (.slice A r cap)/\At w' A (pv r)/\Below w w w'
theorem ZjO (e3:At w A (bz l)) (n cap:Nat) (e4:n=l) (i3:n<=4096):
  Calls prog 233 #[(A,n,cap)] w λx w'=>PRes w (Yq (jt (cT l) l)) x w':=by
 obtain⟨L,Ha,I⟩:=bD (TP e3 n cap e4 i3) e3 e4;obtain⟨i0,hi,B,d,z⟩:=info_parts T3;have i7:=J (And.intro hi (And.intro B (And.intro d z)));obtain⟨a4,e8⟩:=ay (cT l);have g6:=J (λs (a8:s∈l)=>show s∈a4 from e8▸(YZ l s).2 a8);have g4:=J e8;clear e3 e4 hi B d z e8;go_in;go_wp21;refine(L.o).mono ?_;rintro x w1 ⟨v,b,rfl,hb,k0,e1,b3⟩;rw[g4.o] at e1;have h7:=Ha.o.below b3;go_wp2;go_loopw [5,6,7,15] (λj0 _ _ i wr=>∃k:Nat,k<=n/\i=k/\wr.ownsRow w1 315 2 j0 (Yq (jt a4 (l.take k))) (pv (Yq (jt a4 (l.take k))))/\kH wr b a4/\At wr A (bz l)/\Below w1 w1 wr) (λ_ _ _ i _=>(n-intOf i).toNat);exact⟨0,O,rfl,Zl,e1,h7,bf _ _⟩;have j2:=J e1.lt;obtain⟨k,j8,rfl,a3,b1,b6,a9⟩:=hrel;by_cases ab:k<n
 .have f6:k<l:=iF;obtain⟨s,a8⟩:=ay l[k];have f3:=g6.o s (a8▸dt _);obtain⟨f7,g3,h8,j3,k2⟩:=b6.get k (.string s) (by rw[YD l k f6,a8]);subst h8;obtain⟨c6,c7⟩:=ZfY a4 l k f6;rw[a8] at c6 c7;have b0:=YC a4 (l.take k);rw[ek] at b0;by_cases c5:0<k/\l[k-1]? =some s
  .obtain⟨h0,c8⟩:=c5;have g5:=b6.get (k-1) (.string s) (by rw[bz,jX,c8];rfl);obtain⟨d7,e7,a5,_,b5⟩:=g5;injection a5 with a5;injection a5 with a5 f2;subst a5;subst f2;obtain⟨xs,c,b4,j4⟩:=ZfX a4 l (k-1) O;rw[show k-1+1=k from by exact O] at b4;obtain⟨q,b8⟩:=ay (ix a4 (l[k-1]'O));rw[b8] at b4;have d9:=c6 h0 c8;rw[b4,J2] at d9;rw[b4] at a3 b0;have f9:Yq (xs++[(q,c)])=Yq xs++[((q:Int),(c:Int))]:=(by simp[Yq]);have a6:Yq (xs++[(q,c+1)])=Yq xs++[((q:Int),(c:Int)+1)]:=(by simp[Yq]);rw[f9] at a3;have e2:=Znc (Yq xs) ((q:Int),(c:Int)) ((c:Int)+1);obtain⟨X,a7⟩:=ay (Yq xs);have d5:X=xs.length:=(by rw[<-a7];simp[Yq]);rw[a7] at a3 e2 a6;rw[bV,pg] at a3;obtain⟨g,f8,i6,j1⟩:=ZeX a3 O;subst i6;have h2:=ZeV a3 (X.length*2+1) (iv (c:Int)) (by have:=(zf (X++[((q:Int),(c:Int))]) X (by simp)).2;simpa using this);obtain⟨q1,q2⟩:=h2;have d6:=Zjc a3 (X.length*2+1) (iv ((c:Int)+1));rw[e2] at d6;have j7:c<=4096:=by have:=(FK a4 (l.take k) (q,c) (by rw[b4];simp)).2.2;rw[ek] at this;simp only at this;omega
   have d4:=a9.setCell (p:=⟨g,X.length*2+1,none⟩) ((a3.lt g rfl).1) (iv ((c:Int)+1));have j6:xs+1<=k:=by rw[bV,pg] at b0;omega
   have g1:X.length<=4096:=O;have i1:((X.length:Int)+1)-1=(X.length:Int):=O;have b7:kH (wr.setCell ⟨g,X.length*2+1,none⟩ (iv ((c:Int)+1))) b a4:=(Below.heap_setCell wr ⟨g,X.length*2+1,none⟩ _ b (by intro e;exact XZ a3 b1 (by show some g=some b;rw[e]))).trans b1;have f4:At (wr.setCell ⟨g,X.length*2+1,none⟩ (iv ((c:Int)+1))) (some ⟨f7,g3,none⟩) (bz l):=(Ha.o.below b3).below d4;have h9:(s.toList==s.toList)=true:=(by simp);have d8:(0:Int)<k:=O;have e5:(k:Int)-1=((k-1:Nat):Int):=O;obtain⟨e6,c3⟩:=ay (k-1);rw[c3] at e5 b5;have g7:(e6:Int)<n:=O;have k1:w1<=g:=(a3.lt g rfl).1;unfold iv at q1;obtain⟨i9,F,g8,d3,d1,c9⟩:=fA d9 a6 d6 b7 f4 d4;clear c6 c7 a8 b4 d9 f9 a6 e2 a7 d5 a3 d6 b7 f4 d4 b8 b1 b6 b0 c3 f3 c8 a9;go_wp2;go_roundw;refine⟨k+1,O,ci,?_,d3.o,d1.o,c9.o⟩;rw[i9.o,F.o,bV,pg];exact g8.o;simp[intOf]<;>omega
  have f5:k=0\/l[k-1]? ≠some s:=by rcases rS k with h0|h0;exact .inl h0;exact .inr (λh=>c5 ⟨h0,h⟩)
  have c4:=c7 f5;have i2:=ZmM (P:=prog) underlying332 underlying9 b1 s f3;obtain⟨q,b8⟩:=ay (ix a4 s);rw[b8] at c4 i2;obtain⟨R,g0⟩:=ay (jt a4 (l.take k));rw[g0] at c4 a3 b0;have a6:Yq (R++[(q,1)])=Yq R++[((q:Int),1)]:=(by simp[Yq]);obtain⟨X,a7⟩:=ay (Yq R);have d5:X=R.length:=(by rw[<-a7];simp[Yq]);rw[a7] at a3 a6;obtain⟨A4,a1,i8,h5⟩:=Zh a3;subst i8;have S:X+1<=maxLen:=fU;have a0:(X.length+1)*16<=140737488355328:=O;have E:=a9.size;have h6:(k=0)\/(0<k/\∃e9:aT,(e9.toList==s.toList)=false/\wr.cell? (f7,g3+(k-1))=e9):=by rcases rS k with h0|h0;exact .inl h0;right;have g2:k-1<l.length:=O;obtain⟨d7,e7,a5,_,b5⟩:=b6.get (k-1) (.string (l[k-1])) (YD l (k-1) g2);injection a5 with a5;injection a5 with a5 f2;subst a5;subst f2;refine⟨h0,l[k-1],?_,b5⟩;rw[Qw,Vbp];intro e;refine c5 ⟨h0,?_⟩;rw[fb g2,e]
  obtain⟨b9,F,d2,G,y,M⟩:=fA c4 a6 a3 b1 a9 b3;clear c6 c7 a8 c4 a6 a7 a3 b1 b6 b0 b8 g0 h5 c5 f5 a9 d5 f3 b3;obtain⟨hi,B,d,z⟩:=i7.o;rcases h6 with d8|⟨d8,e9,j5,b5⟩;have g9:¬(0:Int)<k:=O;clear d8;exact Nj;have g9:(0:Int)<k:=O;have e5:(k:Int)-1=((k-1:Nat):Int):=O;obtain⟨e6,c3⟩:=ay (k-1);rw[c3] at e5 b5;have g7:(e6:Int)<n:=O;exact Nj
 have h4:k=n:=O;subst h4;have h1:l.take k=l:=d' Fp;rw[h1] at a3;obtain⟨A2,f8,i4,h3⟩:=Zh a3;subst i4;have i5:=J h3;go_wp2;go_ret;rw[g4.o];exact⟨A2,f8,rfl,i5.o,b3.trans (a9.mono b3.size)⟩
def oZ (w:aq) (r:a'×Nat) (x:Ending) (w':aq):Prop:=∃v,x=.returned (.tuple #[v,r.2])/\wW w' v r.1/\Below w w w'
theorem Qt (e:Nat) (hb:Below w w w'):oZ w ([],e) (.returned (.tuple #[.slice none 0 0,e])) w':=⟨_,rfl,wW.nil _,hb⟩
theorem Z8l (d:a') (l:List (Int×Int)) (k:Nat) (h:k<l) (g:a'):
  ZK d (l.drop k) g=if l[k].1<0\/(d.length:Int)<=l[k].1\/l[k].2<1 then([],2) else if 4096-(g.length:Int)<l[k].2 then([],9)
   else ZK d (l.drop (k+1)) (g++List.replicate l[k].2.toNat (d.getD l[k].1.toNat default)):=by rw[kw h,ZK]
theorem Zbg {B:bN} {d:a'} {l:List (Int×Int)} (d2:At w A (bz d)) (d5:At w B (pv l)) (n cap m f4:Nat) (d4:n=d) (d3:m=l) (h6:n<=9223372036854775807) (j0:m<=9223372036854775807):
  Calls prog 236 #[(A,n,cap),(B,m,f4)] w λx w'=>oZ w (ZK d l []) x w':=by
 obtain⟨Ha,e2,b8,E⟩:=dc d2 d5 d4 d3;obtain⟨i0,hi,a2,a0,a1⟩:=info_parts YN;have g5:=J (And.intro hi (And.intro a2 (And.intro a0 a1)));clear d2 d5 d4 d3 hi a2 a0 a1;go_in;go_wp2;go_loopw [6,8,11] (λb7 _ i wr=>∃(k:Nat) (g:a'),k<=m/\i=k/\g.length<=4096/\wr.ownsRow w 9 1 b7 g (bz g)/\Hid (ZK d (l.drop k) g=ZK d l [])/\Below w w wr) (λ_ _ i _=>(m-intOf i).toNat);exact⟨0,[],O,rfl,by simp,Zl,J rfl,bf _ _⟩;obtain⟨k,g,i5,rfl,i4,y,z,p⟩:=hrel;obtain⟨A4,g3,g6,a3⟩:=Zh y;subst g6;by_cases ab:k<m
 .have c3:k<l:=Fs;have t:=Z8l d l k c3 g;have D:=zf l k c3;obtain⟨⟨i,c⟩,nJ⟩:=ay l[k];rw[nJ] at t D;simp only at t D;have M:=e2.o.below p;obtain⟨f2,g7,d1,i9,a5⟩:=M.get (k*2) (iv i) D.1;obtain⟨f3,g8,a6,_,S⟩:=M.get (k*2+1) (iv c) D.2;rw[d1] at a6;injection a6 with a6;injection a6 with h5 h3;subst h5;subst h3;subst d1;unfold iv at a5 S;have e7:=J y;have e1:=J p;have d6:wr.cell? ⟨f2,g7+k*2+1,none⟩=c:=S;have R:=J (p.alloc p.size (.cells #[i,c] 315));by_cases I:i<0\/(d.length:Int)<=i\/c<1;rw[Vag I] at t;have G:Hid (ZK d l []=([],2)):=J (by rw[<-z.o,t]);have aa:i<0\/(n:Int)<=i\/c<1:=(by rw[b8.o];exact I);clear I t nJ D M a3 y p S;by_cases b1:i<0;exact I4;by_cases e9:(n:Int)<=i;exact I4;have b3:c<1:=O;exact I4;rw[aD I] at t;have b1:¬i<0:=O;have e9:¬(n:Int)<=i:=(by rw[b8.o];omega);have b3:¬c<1:=O;by_cases c9:4096-(g.length:Int)<c;.rw[Vag c9] at t;have G:Hid (ZK d l []=([],9)):=J (by rw[<-z.o,t]);clear I t nJ D M a3 y p S;go_wp2;go_returns;rw[G.o];exact Qt 9 R.o
  rw[aD c9] at t;obtain⟨i,rfl⟩:=Int.eq_ofNat_of_zero_le (show 0<=i by omega);obtain⟨c,rfl⟩:=Int.eq_ofNat_of_zero_le (show 0<=c by omega);rw[ep,ep] at t;have hid:i<d:=O;have h7:(i:Int)<n:=O;obtain⟨s,b4⟩:=ay (d.getD i default);have h0:(bz d)[i]? =some (.string s):=by rw[YD d i hid,<-b4];simp[List.getD,hid]
  rw[b4] at t;have e6:Hid (ZK d (l.drop (k+1)) (g++List.replicate c s)=ZK d l []):=J (by rw[<-t];exact z.o);have i8:g.length+c<=4096:=O;clear I t nJ D M a3 y p S z b4;have F:=Bk.new wr 315 #[i,c];have c7:=e7.o.alloc (.cells #[i,c] 315);go_wp2;go_loopw [6,38] (λb7 j b6=>∃q:Nat,q<=c/\j=q/\b6.ownsRow w 9 1 b7 (g++List.replicate q s) (bz (g++List.replicate q s))/\Bk b6 wr 315 #[i,c]/\Below w w b6) (λ_ j _=>(c-intOf j).toNat);exact⟨0,O,rfl,by simpa using c7,F,R.o⟩;have i3:=J e1.o.size;clear F c7;obtain⟨q,i6,rfl,y,F,p⟩:=hrel;by_cases i2:q<c
  .have c4:=Ha.o.below p;obtain⟨h9,i7,g1,i1,g9⟩:=c4.get i (.string s) h0;subst g1;have d8:=F.cell 0;simp at d8;obtain⟨L,a4⟩:=ay (g++List.replicate q s);have e4:L=g.length+q:=(by rw[<-a4];simp);have d9:g++List.replicate (q+1) s=L++[s]:=(by rw[List.replicate_succ',<-er,a4]);rw[a4] at y;obtain⟨A5,f7,g4,_⟩:=Zh y;subst g4;have f8:L+1<=maxLen:=fU;have f9:(L.length+1)*16<=140737488355328:=O;have a8:=p.size;obtain⟨e3,Q,b9,a9,h8⟩:=ii d9 y F p a5;clear a4 d9 y F c4 p e4 a5 d6;obtain⟨hi,a2,a0,a1⟩:=g5.o
   go_wp2_with (
    at_builtin;refine wpList_append_own_at _ rfl (.tmp 40) (.tmp 46) _ rfl w 9 i0 (.string ByteArray.empty) 1 16 underlying23 hi a2 a0 a1 rfl O (.slice A5 L f7) L (bz L) (by rfl) (Q.o.alloc _) ⟨_,0,none⟩ 1 1 [.string s] (by rfl) rfl (Ql _ _ _) sX f8 f9 (co a8 (by simp)) ?_;intro h4 d7 c5 c8 _ f5;have u:=J c5;have b5:=J c8;clear c5 c8 f5);have e5:=(b9.o.alloc (.cells #[s] 9)).grown b5.o (λe=>Z1 Q.o b9.o aY e.symm);have e8:Below w w d7:=(a9.o.alloc a8 (.cells #[s] 9)).grown b5.o (co a8 (by simp)) (λj g2=>(Q.o.lt j g2).1);have h2:d7.ownsRow w 9 1 h4 (L++[s]) (bz (L++[s])):=PG;clear u b5 g9 d8;go_wp2;go_roundw;exact⟨q+1,O,ci,by rw[e3.o];exact h2,e5,e8⟩;simp[intOf]<;>omega
  have b0:q=c:=O;subst b0;have Q:=J y;have a9:=J p;clear y F p a5 d6;go_wp2;go_roundw;exact⟨k+1,g++List.replicate q s,O,ci,CA,Q.o,e6,a9.o⟩;simp[intOf]<;>omega
 have h1:k=m:=O;subst h1;have c6:l.drop k=[]:=List.drop_of_length_le Fq;have a7:=z.o;rw[c6,ZK] at a7;have f6:=J a7;have g0:=J (VX y);clear c6 a7 y a3;go_wp2;go_returns;rw[<-f6.o];exact⟨.slice A4 g g3,rfl,g0.o,p⟩
def fZ (w:aq) (r:ax×Nat) (x:Ending) (w':aq):Prop:=x=.returned (.tuple #[bs r.1,r.2])/\Below w w w'
theorem CZ (e:Nat) (hb:Below w w w'):fZ w ([],e) (.returned (.tuple #[bs [],e])) w':=⟨rfl,hb⟩
theorem ZdI (c:Int) (g:c≠0) (d:c≠1) (A:bN) (n cap:Nat):
  Calls prog 195 #[c,(A,n,cap)] w λx w'=>fZ w ([],1) x w':=by have h0:(c !=0)=true:=(by rw[kx];exact g);have h1:(c !=1)=true:=(by rw[kx];exact d);have hb:=J (bf w w);go_in;go_wp2;go_returns;exact CZ 1 hb.o
theorem Z8h (c:Nat) (t:c<=1) (k:At w A (bz l)) (d:∀s∈l,s.size<=9223372036854775807) (n cap:Nat) (p:n=l) (D:n<=9223372036854775807) (g:4096<l.length\/∃s∈l,128<s.size):
  Calls prog 195 #[c,(A,n,cap)] w λx w'=>fZ w ([],9) x w':=by
 have hb:=J (bf w w);have y:c=0\/c=1:=O;by_cases q:4096<n
 .have B:(4096:Int)<n:=O;clear q g k d p t;rcases y with rfl|rfl
  all_goals
   go_in;go_wp2;go_returns;exact CZ 9 hb.o
 have B:¬(4096:Int)<n:=O;have j:=Vz k d n cap p O;have u:zk l=true:=dd (g.resolve_left O);rw[u] at j;have z:=J j;clear q g k d p t j u;rcases y with rfl|rfl
 all_goals
  go_in;go_wp21;refine cp z.o ?_;go_wp2;go_returns;exact CZ 9 hb.o
theorem VI (s:aT) (h:s.size<=128):(text s).length<=137:=by unfold text;have:=rK s.size;rw[bV,Z2];omega
theorem Ziz (D:a') (h:∀s∈D,s.size<=128):(D.flatMap text).length<=137*D.length:=by
 induction D with
 |nil=>simp
 |cons s D ih=>have h1:=VI s (h s fi);have g:=ih (λu d=>h u (gM _ d));rw[sW,bV,gd];omega
theorem ZdZ (D:a') (k:Nat) (h:k<D):(D.take (k+1)).flatMap text=(D.take k).flatMap text++text D[k]:=by rw[dK h,yD];simp
theorem Qg (l:List Nat) (h:∀v∈l,v<4611686018427387904):(jk l).length<=13+134*l.length:=by unfold jk;rw[bV];have h1:=rK l;split;exact fj;have d:=Uc l (t0,e0) h;rw[show(e0.out.length)=0 from rfl] at d;unfold ji;rw[bV,Ye];omega
def YV (c:Nat) (D:a') (k:Nat):ax:=bi c++bi D.length++(D.take k).flatMap text
theorem JF (c:Nat) (D:a') (k:Nat) (h:∀s∈D,s.size<=128) (p:D.length<=4096):(YV c D k).length<=600000:=by unfold YV;have h1:=rK c;have g:=rK D;have j:=Ziz (D.take k) (λs d=>h s (Ag d));have l:(D.take k).length<=4096:=vO;rw[bV,bV];omega
theorem Z8v (c:Nat) (D:a') (k:Nat) (h:k<D):YV c D (k+1)=YV c D k++text D[k]:=by unfold YV;rw[ZdZ D k h,er,er,er]
def tE (R:List (Nat×Nat)):List Int:=R.map λx=>(x.1:Int)
def tn (R:List (Nat×Nat)):List Int:=R.map λx=>(x.2:Int)-1
theorem J3 (R:List (Nat×Nat)):(Yq R)=R.length:=by simp[Yq]
theorem ZcR (R:List (Nat×Nat)) (k:Nat) (h:k<R):(Yq R)[k]'(by rw[J3];exact h)=((R[k].1:Int),(R[k].2:Int)):=by simp[Yq]
theorem ZiQ (R:List (Nat×Nat)) (k:Nat) (h:k<R):tE (R.take (k+1))=tE (R.take k)++[(R[k].1:Int)]:=by unfold tE;rw[dK h,jy];rfl
theorem Zi1 (R:List (Nat×Nat)) (k:Nat) (h:k<R):tn (R.take (k+1))=tn (R.take k)++[(R[k].2:Int)-1]:=by unfold tn;rw[dK h,jy];rfl
theorem AP (l:List Int) (x:Int):bO (l++[x])=bO l++[.int .i64 x]:=by simp[bO,iv]
theorem Hc (l:List Int):(bO l)=l.length:=yJ
structure Gath (wb w:World) (B:Nat) (v1 v2:Value) (I C:List Int):Prop where
 two:pe wb B 3 v1 (bO I) v2 (bO C) w
theorem Z8g (c:Nat) (x9:c<=1) (c4:At w A (bz l)) (c5:∀s∈l,s.size<=128) (n cap:Nat) (F:n=l.length) (E:n<=4096):
  Calls prog 195 #[c,.slice A n cap] w λx w'=>fZ w (gq c l,0) x w':=by
 have g5:=Vz c4 (λs G=>by have:=c5 s G;omega) n cap F E;have p8:zk l=false:=cI (by rintro⟨s,h1,h2⟩;have:=c5 s h1;omega);rw[p8] at g5;obtain⟨k7,Hd,Ha,I⟩:=dc g5 (Z3Y c4 n cap F E) c4 F;obtain⟨D,c3⟩:=ay (cT l);have q6:=Yz l;have i0:=Kt c5;rw[c3] at q6 i0;have m2:D.length<=4096:=O;have j:=λw=>Zj (c:Int) O O w;have L:=λw=>Zj (D.length:Int) O O w;simp only[ep] at j L;have k1:=rK c;have k2:=rK D;rw[<-Z0] at k1 k2;have k6:bs (bi c)++bs (bi D)=bs (YV c D 0):=(by rw[Z9];unfold YV;simp);rw[c3] at Hd;obtain⟨t7,h8,j3⟩:=bD c3 i0 k6;generalize bs (bi c)=s1 at*;generalize bs (bi D.length)=s2 at*;have j:=J j;have L:=J L;have Wh:¬(4096:Int)<n:=O;have y3:(((c:Int) !=0)&&((c:Int) !=1))=false:=by have:c=0\/c=1:=O;rcases this with rfl|rfl<;>rfl
 have r8:((c:Int) !=0)=false\/(((c:Int) !=0)=true/\((c:Int) !=1)=false):=by have:c=0\/c=1:=O;rcases this with rfl|rfl;exact .inl rfl;exact .inr ⟨rfl,rfl⟩
 clear c4 F g5 p8 c3 i0 k6 c5 q6 y3;go_in;go_upto_region 1 with fail;go_cut [23] (λh9 wx=>h9=.bool false/\w=wx)
 case first=>
  rcases r8 with g3|⟨g3,g1⟩;.go_wp2;go_meet;case rel=>exact⟨rfl,rfl⟩
  go_wp2;go_meet;case rel=>exact⟨rfl,rfl⟩
 obtain⟨rfl,rfl⟩:=hcut;clear r8;go_wp21;refine cp k7.o ?_;go_wp21;refine(Hd.o).mono ?_;rintro x w1 ⟨v6,rfl,⟨s6,n8,rfl,j6⟩,eA⟩;go_wp21;refine aP (j.o _) λw2 aa=>?_;go_wp21;refine aP (L.o _) λw3 m3=>?_;have i7:=aa.trans (m3.mono aa.size);have s0:=j6.below i7;have p5:=eA.trans (i7.mono eA.size);clear eA aa m3 i7 j6;go_wp2;rw[j3.o];go_loopw [7,9,41] (λout _ i wr=>∃k:Nat,k<=D/\i=k/\out=.string (bs (YV c D k))/\At wr s6 (bz D)/\Below w.heap.size w wr) (λ_ _ i _=>(D.length-intOf i).toNat);exact⟨0,O,rfl,rfl,s0,p5⟩;clear s0 p5 k7 Hd j L j3;obtain⟨k,hk,rfl,rfl,b7,a3⟩:=hrel;have g4:=JF c D k h8.o m2;rw[<-Z0] at g4;by_cases ab:k<D;.obtain⟨s,G⟩:=ay D[k];have s3:=h8.o s (G▸dt _);obtain⟨bA,oA,x8,cE,ph⟩:=b7.get k (.string s) (by rw[YD D k ab,G]);subst x8;have t:=λw=>X1 s O w;have x6:=VI s s3;rw[<-Z0] at x6;have q0:bs (YV c D k)++bs (text s)=bs (YV c D (k+1)):=(by rw[Z9,Z8v c D k ab,G]);have f6:=J b7;generalize bs (YV c D k)=S1 at*;generalize bs (text s)=S2 at*;have y8:=J q0;have t:=J t;clear q0 G b7 s3;go_wp21;refine aP (t.o _) λi5 an=>?_;have x5:=f6.o.below an;have b6:=a3.trans (an.mono a3.size);clear an;go_wp2;go_roundw;exact⟨k+1,O,ci,by rw[y8.o],x5,b6⟩;simp[intOf]<;>omega
 have h0:k=D:=O;subst h0;have q7:=Ha.o.below a3;have b4:=ZjO q7 n cap I.o E;obtain⟨R,g6⟩:=ay (jt (cT l) l);have i1:=YC (cT l) l;have e8:=FK (cT l) l;rw[g6] at b4 i1 e8;have M:=J g6;have l2:=J e8;have e7:R.length<=4096:=(by rw[<-I.o] at i1;omega);have b4:=J b4;clear g6 e8 i1;have k8:=J a3;clear b7 q7 a3 ab;go_wp21;refine(b4.o).mono ?_;rintro x i5 ⟨AR,n9,rfl,j7,an⟩;have b6:=k8.o.trans (an.mono k8.o.size);clear an;simp only[J3];have f6:=J j7;have p6:=J b6;clear j7 b6;go_wp2;go_loopw [10,11,13,53] (λi3 i4 _ i wr=>∃k:Nat,k<=R/\i=k/\pe i5 i5.heap.size 3 i3 (bO (tE (R.take k))) i4 (bO (tn (R.take k))) wr) (λ_ _ _ i _=>(R.length-intOf i).toNat);exact⟨0,O,rfl,⟨Zl,Zl,Cx,bf _ _,aU⟩⟩;obtain⟨q,y0,rfl,p⟩:=hrel;by_cases S:q<R
 .have y:=ZiQ R q S;have u:=Zi1 R q S;obtain⟨⟨g,d⟩,hrq⟩:=ay R[q];have h7:=l2.o R[q] (dt _);have B:=zf (Yq R) q (by rw[J3];exact S);rw[ZcR R q S] at B;rw[hrq] at y u h7 B;simp only at y u h7 B;have h4:(bO (tE (R.take q))).length<=4096:=(by rw[Hc];unfold tE;rw[c',ek];omega);have h3:(bO (tn (R.take q))).length<=4096:=(by rw[Hc];unfold tn;rw[c',ek];omega);have i6:=f6.o.below p.bel;obtain⟨w9,y9,p7,sE,z1⟩:=i6.get (q*2) _ B.1;obtain⟨x2,z0,c6,_,h6⟩:=i6.get (q*2+1) _ B.2;rw[p7] at c6;injection c6 with c6;injection c6 with zI z2;subst zI;subst z2;subst p7;unfold iv at z1 h6;have sI:wr.cell? ⟨w9,y9+q*2+1,none⟩=d:=h6;have y1:d<=4096:=kG;have i2:IntKind.i64.wrap ((d:Int)-1)=(d:Int)-1:=lO;obtain⟨X,g8⟩:=ay (bO (tE (R.take q)));obtain⟨Y,g9⟩:=ay (bO (tn (R.take q)));rw[g8] at p h4;rw[g9] at p h3;have t8:Hid (bO (tE (R.take (q+1)))=X++[.int .i64 (g:Int)]):=J (by rw[y,AP,g8]);have s9:Hid (bO (tn (R.take (q+1)))=Y++[.int .i64 ((d:Int)-1)]):=J (by rw[u,AP,g9]);have g7:=p.alloc (.cells #[g,d] 315);have b5:=Bk.new wr 315 #[g,d];obtain⟨t1,r1,r2⟩:=VL (P:=prog) 123 3 _ 8 underlying123 Y2 rfl g7 g ((d:Int)-1:Int) (by rfl) (by rfl) fU O fU O _ _ _ b5 aY;obtain⟨r3,r4,r5⟩:=VL (P:=prog) 123 3 _ 8 underlying123 Y2 rfl g7.swap ((d:Int)-1:Int) g (by rfl) (by rfl) fU O fU O _ _ _ b5 aY;simp only[World.size_alloc] at t1 r1 r2 r3 r4 r5;clear y u B hrq i6 g8 g9 p g7 h7 h6;obtain⟨u7,j2,u8,k9,j4,j5,s4,d4,e1⟩:=t1;obtain⟨z9,yy,zC⟩:=bD j4 j5 s4;have m4:j2.cell? (wr,0)=g:=d4.cell 0;have m5:j2.cell? (wr,1)=d:=d4.cell 1;have o0:k9.cell? (wr,0)=g:=e1.cell 0;have o1:k9.cell? (wr,1)=d:=e1.cell 1;clear j4 j5 s4 d4 e1;obtain⟨u9,i9,v0,l0,j8,j9,s5,d5,e2⟩:=r1;obtain⟨yz,z5,zD⟩:=bD j8 j9 s5;have m6:i9.cell? (wr,0)=g:=d5.cell 0;have m7:i9.cell? (wr,1)=d:=d5.cell 1;have o2:l0.cell? (wr,0)=g:=e2.cell 0;have o3:l0.cell? (wr,1)=d:=e2.cell 1;clear j8 j9 s5 d5 e2;obtain⟨v1,j0,v2,l1,k0,k3,i8,d6,e3⟩:=r2;obtain⟨z6,z7,zE⟩:=bD k0 k3 i8;have m8:j0.cell? (wr,0)=g:=d6.cell 0;have m9:j0.cell? (wr,1)=d:=d6.cell 1;have o4:l1.cell? (wr,0)=g:=e3.cell 0;have o5:l1.cell? (wr,1)=d:=e3.cell 1;clear k0 k3 i8 d6 e3;obtain⟨v3,a7,v4,a8,l5,l6,a4,d7,e4⟩:=r3;obtain⟨t9,u0,f3⟩:=bD l5 l6 a4;have n2:a7.cell? (wr,0)=g:=d7.cell 0;have n3:a7.cell? (wr,1)=d:=d7.cell 1;have o6:a8.cell? (wr,0)=g:=e4.cell 0;have o7:a8.cell? (wr,1)=d:=e4.cell 1;clear l5 l6 a4 d7 e4;obtain⟨v7,a9,v8,b0,l7,l8,a5,d8,e5⟩:=r4;obtain⟨u1,u2,f4⟩:=bD l7 l8 a5;have n4:a9.cell? (wr,0)=g:=d8.cell 0;have n5:a9.cell? (wr,1)=d:=d8.cell 1;have o9:b0.cell? (wr,0)=g:=e5.cell 0;have p0:b0.cell? (wr,1)=d:=e5.cell 1;clear l7 l8 a5 d8 e5;obtain⟨v9,b1,w0,b2,l9,m1,a6,d9,e6⟩:=r5;obtain⟨u3,u4,f5⟩:=bD l9 m1 a6;have n6:b1.cell? (wr,0)=g:=d9.cell 0;have n7:b1.cell? (wr,1)=d:=d9.cell 1;have p1:b2.cell? (wr,0)=g:=e6.cell 0;have p2:b2.cell? (wr,1)=d:=e6.cell 1;clear l9 m1 a6 d9 e6;have z3:(wr.alloc (.cells #[g,d] 315)).cell? (wr,0)=g:=b5.cell 0;have z4:(wr.alloc (.cells #[g,d] 315)).cell? (wr,1)=d:=b5.cell 1;have n0:=World.new_ne _ _ z3;have n1:=World.new_ne _ _ z4;go_upto_region 16 with fail
  go_region_held3 (λW=>W.cell? (wr,0)=g/\W.cell? (wr,1)=d) (first|go_keep)
   ((first|refine gN z9.o ?_|refine gN yy.o ?_|refine gN yz.o ?_|refine gN z5.o ?_|refine gN z6.o ?_|refine gN z7.o ?_|refine gN t9.o ?_|refine gN u0.o ?_|refine gN u1.o ?_|refine gN u2.o ?_|refine gN u3.o ?_|refine gN u4.o ?_))
  all_goals
   go_wp2;go_roundw;.refine⟨q+1,O,ci,?_⟩;rw[t8.o,s9.o];first|exact zC.o|exact zD.o|exact zE.o|exact f3.o.swap|exact f4.o.swap|exact f5.o.swap
   simp[intOf]<;>omega
 have h5:q=R:=O;subst h5;rw[Vbq] at p;have y:tE R=(nL l).map Int.ofNat:=by unfold tE nL;rw[M.o,qx];rfl
 have u:tn R=(oJ l).map Int.ofNat:=by unfold tn oJ;rw[M.o,qx];refine List.map_congr_left λx y2=> ?_;have:=(l2.o x y2).2.1;show(x.2:Int)-1=((x.2-1:Nat):Int);omega
 have x4:(bO (tE R))=R.length:=(by rw[Hc];simp[tE]);have x3:(bO (tn R))=R.length:=(by rw[Hc];simp[tn]);obtain⟨A1,c1,rfl,b8⟩:=Zh p.own1;obtain⟨A2,c2,rfl,f7⟩:=Zh p.own2;have a1:l.length<=4096:=(by rw[<-I.o];exact E);have d3:(nL l)=R.length:=(by rw[Qi,M.o]);have f2:(oJ l)=R.length:=(by rw[Qb,M.o]);have e9:(Yj c l)=R.length:=(by rw[YI,M.o]);rw[y] at b8;rw[u] at f7;have p3:=p6.o.trans (p.bel.mono p6.o.size);obtain⟨x7,y4,r7⟩:=bD b8 f7 p3;have q9:front ((nL l).map Int.ofNat)=(Yn r0 (nL l),0):=by unfold front;rw[Vag (Gg (by rw[c',d3];exact e7) (λn F=>by obtain⟨m,E,rfl⟩:=iX.1 F;have:=G6 l a1 m E;exact⟨by simp,fj⟩)),Xh]
 have c9:=J (ZbN b8 R c1 (by rw[c',d3]) O);rw[q9] at c9;have d1:=J (CY c l a1);have d2:=J (Dm l a1);have k4:=Qg (Yj c l) (λv z=>by have:=CY c l a1 v z;omega);have k5:=Qg (oJ l) (λv z=>by have:=Dm l a1 v z;omega);rw[e9] at k4;rw[f2] at k5;have g4:=JF c D D h8.o m2;have a2:sr c l=jk (Yj c l):=rfl;have y5:(text (bs (jk (Yj c l)))).length<=600000:=by unfold text;rw[bV,Zm];have:=rK (bs (jk (Yj c l))).size;omega
 have y7:Hid (bs (YV c D D)++bs (text (bs (jk (Yj c l))))++bs (jk (oJ l))=bs (gq c l)):=J (by rw[Z9,Z9];unfold YV gq text;rw[Vbq,t7.o,a2,Zm,Z0]);have No:=J e9;have l3:=J f2;have r6:(bs (jk (Yj c l))).size<=1099511627776:=qC;have t:=λw=>X1 (bs (jk (Yj c l))) r6 w;have q8:c=0\/c=1:=O;have b3:Hid (c=0->Yj c l=nL l):=J (λh=>by subst h;rfl);have j:Hid (c=1->Yj c l=Yn r0 (nL l)):=J (λh=>by subst h;rfl);rw[<-Z0] at g4 k5 y5;generalize bs (YV c D D.length)=S1 at*;generalize bs (text (bs (jk (Yj c l))))=S2 at*;have t:=J t;clear S y0 p b8 f7 p3 y u d3 f2 e9 q9 a2 k4 r6;rw[x4,x3];go_upto_if 70 with fail;go_cut [10] (λy6 wx=>∃A cap,y6=.slice A R cap/\At wx A (bO ((Yj c l).map Int.ofNat))/\Below wr wr wx)
 case first=>
  rcases q8 with a0|a0;.have g3:¬((c:Int)=1):=O;have s7:=J (b3.o a0);clear b3 j a0;go_wp2;go_meet;case rel=>exact⟨A1,c1,rfl,by rw[s7.o];exact x7.o,bf _ _⟩
  have g3:((c:Int)==1)=true:=Jr;have j1:=J (j.o a0);have u5:Hid ((Yn r0 (nL l))=R.length):=J (by rw[<-j1.o,No.o]);clear b3 j a0 x9;go_wp21;refine(c9.o).mono ?_;rintro x w5 ⟨v5,rfl,⟨A5,f8,rfl,b9⟩,Q⟩;go_wp2;go_meet;case rel=>exact⟨A5,f8,by rw[u5.o],by rw[j1.o];exact b9,Q⟩
 obtain⟨A5,f8,rfl,b9,Q⟩:=hcut;clear c9 b3 j q8;have z8:=J (YF b9 R f8 No.o.symm (by rw[No.o];exact e7) (λv z=>by have:=d1.o v z;omega));have g2:=r7.o.trans (Q.mono r7.o.size);have r9:=y4.o.below Q;clear b9 Q;go_wp21;refine aP z8.o λw6 f9=>?_;have s8:=J (YF (r9.below f9) R c2 l3.o.symm (by rw[l3.o];exact e7) (λv z=>by have:=d2.o v z;omega));have c7:=g2.trans (f9.mono g2.size);clear r9 f9 g2;go_wp21;refine aP s8.o λw7 p4=>?_;have c8:=c7.trans (p4.mono c7.size);generalize bs (jk (Yj c l))=S3 at*;generalize bs (jk (oJ l))=S4 at*;clear p4 c7;go_wp21;refine aP (t.o _) λw8 p9=>?_;have u6:=c8.trans (p9.mono c8.size);clear p9 c8;go_wp2;go_returns;exact⟨by rw[y7.o];rfl,u6⟩
theorem T8 (c:Int) (g:At w A (bz l)) (k:∀s∈l,s.size<=9223372036854775807) (n cap:Nat) (j:n=l) (p:n<=9223372036854775807):
  cK 195 #[c,(A,n,cap)] w λx w'=>fZ w (MG c l) x w':=by unfold MG;by_cases d:c≠0/\c≠1;rw[Vag d];exact ZdI c d.1 d.2 A n cap;rw[aD d];have t:c=0\/c=1:=O;obtain⟨c,rfl⟩:=Int.eq_ofNat_of_zero_le (show 0<=c by omega);by_cases hb:4096<l.length\/∃s∈l,128<s.size;rw[Vag hb];exact Z8h c O g k n cap j p hb;rw[aD hb,ep];exact Z8g c O g (λs q=>by rcases Nat.lt_or_ge 128 s.size with h|h;exact absurd (.inr ⟨s,q,h⟩) hb;exact h) n cap j O
theorem X4 (B:At w A (bz l)) (E:∀s∈l,s.size<=9223372036854775807) (n cap:Nat) (D:n=l) (L:n<=9223372036854775807):
  Calls prog 146 #[(A,n,cap)] w λx w'=>fZ w (enc l) x w':=by
 have d:=J (T8 0 B E n cap D L);have q:=J (λw' (h:Below w w w')=>T8 1 (B.below h) E n cap D L);clear B D;unfold enc;unfold MG at d q;rw[aD aY] at d;simp only[show ¬((1:Int)≠0/\(1:Int)≠1) from by exact aY,if_false] at q;by_cases hb:4096<l.length\/∃s∈l,128<s.size;.simp only[hb,if_true] at d⊢;go_in;go_wp21;refine aP d.o λw1 z=>?_;go_wp2;go_returns;exact CZ 9 z
 simp only[hb,if_false,show(0:Int).toNat=0 from rfl,show(1:Int).toNat=1 from rfl] at d q⊢;have I:=Z0 (gq 0 l);have F:=Z0 (gq 1 l);by_cases ab:(gq 1 l)<(gq 0 l).length;rw[Vag ab];have y:((bs (gq 1 l)).size:Int)<((bs (gq 0 l)).size:Int):=(by rw[I,F];exact Int.ofNat_lt.2 ab);obtain⟨t,j⟩:=ay (bs (gq 0 l));have k:Hid (Calls prog 195 #[(0:Int),(A,n,cap)] w (bM w (.tuple #[t,(0:Int)]))):=J (by rw[<-j];exact d.o);obtain⟨u,p⟩:=ay (bs (gq 1 l));have g:Hid (∀w',Below w w w'->Calls prog 195 #[(1:Int),(A,n,cap)] w' (bM w' (.tuple #[u,(0:Int)]))):=J (by rw[<-p];exact q.o);rw[j,p] at y;have G:Hid (∀w',Below w w w'->fZ w (gq 1 l,0) (.returned (.tuple #[u,(0:Int)])) w'):=J (λw' h=>by rw[<-p];exact⟨rfl,h⟩);exact y';rw[aD ab];have y:¬((bs (gq 1 l)).size:Int)<((bs (gq 0 l)).size:Int):=(by rw[I,F];omega);obtain⟨t,j⟩:=ay (bs (gq 0 l));have k:Hid (Calls prog 195 #[(0:Int),(A,n,cap)] w (bM w (.tuple #[t,(0:Int)]))):=J (by rw[<-j];exact d.o);obtain⟨u,p⟩:=ay (bs (gq 1 l));have g:Hid (∀w',Below w w w'->Calls prog 195 #[(1:Int),(A,n,cap)] w' (bM w' (.tuple #[u,(0:Int)]))):=J (by rw[<-p];exact q.o);rw[j,p] at y;have G:Hid (∀w',Below w w w'->fZ w (gq 0 l,0) (.returned (.tuple #[t,(0:Int)])) w'):=J (λw' h=>by rw[<-j];exact⟨rfl,h⟩);exact y'
theorem XC {s:aT} (d:e≠0) (most:Int):bG s e most=(0,s,e):=by unfold bG;grind
theorem Ku {s:aT} (d:e≠0) (n:Int):Zb s e n=(bs [],s,e):=by unfold Zb;grind
theorem Zw (h:dN s most=some (n,t)):bG (bs s) 0 (most:Int)=(n,bs t,0)/\n<=most/\t<=s.length:=by
 unfold dN at h;match d:gP s with
 |none=>rw[d] at h;cases h
 |some (m,z)=>rw[d] at h;simp only at h;by_cases j:most<m;exact aO;rw[aD j] at h;injection h with h;injection h with h1 g;subst h1;subst g;exact⟨Hk d O,O,aO⟩
theorem Y9 (h:dN s most=none):∃e,e≠0/\bG (bs s) 0 (most:Int)=(0,bs s,e):=by
 unfold dN at h;match d:gP s with
 |none=>exact⟨12,aY,Ue d⟩
 |some (m,z)=>by_cases g:most<m;exact⟨2,aY,VE d O⟩;grind
theorem YO {s:aT} (d:e≠0) (most:Int):ZB s e most=(bs [],s,e):=by unfold ZB;rw[XC d];rw[Ku d];grind
theorem JM (h:fe s most=some (a,t)):ZB (bs s) 0 (most:Int)=(bs a,bs t,0)/\a<=s.length/\t<=s.length/\a<=most:=by
 unfold fe at h;match hr:dN s most with
 |none=>rw[hr] at h;cases h
 |some (n,u)=>
  obtain⟨h1,d,g⟩:=Zw hr;by_cases j:u<n;exact aO;have k:Zb (bs u) 0 (n:Int)=(bs (u.take n),bs (u.drop n),0):=by unfold Zb;rw[Vag rfl,aD O,aD qC,ep,Zm]
  unfold ZB;grind
theorem UQ (h:fe s most=none):∃e,e≠0/\ZB (bs s) 0 (most:Int)=(bs [],bs s,e):=by
 unfold fe at h;match hr:dN s most with
 |none=>obtain⟨e,h1,d⟩:=Y9 hr;refine⟨e,h1,?_⟩;unfold ZB;rw[d];rw[Ku h1];rw[aD h1]
 |some (n,u)=>
  obtain⟨h1,d,g⟩:=Zw hr;by_cases j:u<n
  .have k:Zb (bs u) 0 (n:Int)=(bs [],bs u,12):=by unfold Zb;rw[Vag rfl,aD O,Vag qC]
   refine⟨12,aY,?_⟩;unfold ZB;grind
  grind
theorem UC (h:fe s 128=some (a,t)):Yp (n+1) s=(Yp n t).map λx=>(bs a::x.1,x.2):=by rw[Yp,h];grind
theorem UD (h:fe s 128=none):Yp (n+1) s=none:=by rw[Yp,h]
theorem XS (s:ax) (most:Int):(∀v∈(fc s most).1,0<=v)/\(fc s most).1.length<=4096:=by
 unfold fc;match gP s with
 |none=>simp
 |some (n,z)=>
  simp only;split;simp;split;simp;split;simp;split;.rename_i h;refine⟨h.2,?_⟩;rw[(TV n t0 (d0 (s.drop z))).1,JG];omega
  simp
theorem Zje {α:Type} (L:List α) (n:Nat) (v z:α) (h:L<n):(L++List.replicate (n-L.length) z).set L v=(L++[v])++List.replicate (n-(L.length+1)) z:=IU
def pcs (l:List (Int×Int)):Array aI:=(pv l).toArray
theorem ZpI (l:List (Int×Int)):∀(k:Nat) (x:Int×Int),k<l.length->((pv l).set (k*2) (iv x.1)).set (k*2+1) (iv x.2)=pv (l.set k x):=by
 induction l with
 |nil=>exact aO
 |cons c D ih=>
  intro k x h;have e:pv (c::D)=iv c.1::iv c.2::pv D:=rfl;match k,h with
  |0,_=>rfl
  |k+1,h=>have d:k<D:=aO;have:=ih k x d;rw[e,show(k+1)*2=k*2+1+1 from by exact O,List.set_cons_succ,List.set_cons_succ,List.set_cons_succ,List.set_cons_succ,this];rfl
theorem Zn6 (l:List (Int×Int)) (k:Nat) (x:Int×Int) (h:k<l):((pcs l).setIfInBounds (k*2) x.1).setIfInBounds (k*2+1) x.2=pcs (l.set k x):=by have:=ZpI l k x h;unfold iv at this;simpa [pcs] using this
theorem Zn5 (l:List (Int×Int)) (k:Nat) (h:k<l):(pcs l)[k*2]? =some (.int .i64 l[k].1)/\(pcs l)[k*2+1]? =some (.int .i64 l[k].2):=by have:=zf l k h;unfold iv at this;simpa [pcs] using this
theorem Znd (n:Nat):∀i,i<n*2->(pv (List.replicate n (0,0)))[i]? =(0:Int):=by
 induction n with
 |zero=>exact O
 |succ n ih=>
  intro i h;have e:pv (List.replicate (n+1) (0,0))=iv 0::iv 0::pv (List.replicate n (0,0)):=rfl;rw[e];match i,h with
  |0,_=>rfl
  |1,_=>rfl
  |i+2,h=>exact ih i O
theorem Zj0 {P:Program} (t e:TypeId) (B:P.underlying t=some (.slice e)) (k:(P.info? e).map (λi=>(i.zero,i.size,i.bytes))=some (some (.agg #[(0:Int),(0:Int)]),2,16))
  (m:Int) (n:Nat) (u:m=n) (hb:n<=4096) (w:aq):
  (Instr.makeSlice t m m).run P w=.ok (.slice (some (w,0)) n n) (w.alloc (.cells (pcs (List.replicate n (0,0))) e)):=by obtain⟨i,hi,D,z,E⟩:=info_parts k;subst u;have y:=run_make (P:=P) w t e i _ B hi D .i64 .i64 (n:Int) (n:Int) O O aO O;rw[y,ep,z];congr 3;apply Array.ext;simp[madeCells,pcs,Q0];intro j h1 l;have p:j<n*2:=(by simpa [madeCells] using h1);have q:=Znd n j p;have d:(pcs (List.replicate n (0,0)))[j]? =(0:Int):=(by simpa [pcs] using q);rw[Array.getElem?_eq_getElem l] at d;injection d with d;rw[d];have g:j % 2=0\/j % 2=1:=O;rcases g with g|g<;>simp[madeCells,Value.cells,g]
def vc (w:aq) (r:Option a') (x:Ending) (w':aq):Prop:=∃v,x=.returned (.tuple #[v,r.isSome])/\(∀l,r=some l->wW w' v l)/\Below w w w'
theorem Qn {v:aI} (hb:Below w w w'):vc w none (.returned (.tuple #[v,false])) w':=⟨v,rfl,(λl h=>by cases h),hb⟩
theorem Wg (data:aT) (hd:data.size<=1099511627776) (c:Nat) (d:aT) (g:Nat) (S:aT) (e:Nat) (h1:bG data 0 1=(c,d,g)) (j:bG d g 4096=(0,S,e)) (I:e≠0) (u:d.size<=data.size):
  Calls prog 196 #[data] w λx w'=>vc w none x w':=by
 have k:=J (ZT data w);have l:=J (λW (h:RV W w data 0)=>by have:=Zk h hd 1;rw[h1] at this;exact this);have Q:S.size<=d.size:=by have:=Zv (s:=d) (e:=g) (most:=4096);rw[j] at this;exact this
 have p:=J (λW (h:RV W w d g)=>by have:=Zk h (co u hd) 4096;rw[j] at this;exact this);have L:=J (λW (h:RV W w S e)=>by have:=ZY h O (data.size:Int);rw[YO I] at this;exact this);have a2:((e:Int) !=0)=true:=eV;clear h1 j I Q u hd;go_in;go_wp21;refine aP k.o λw1 ⟨D,F⟩=>?_;go_wp21;refine aP (l.o _ D) λa3 ⟨B,z⟩=>?_;have aa:=Zf F aU z;clear D F z;go_wp21;refine aP (p.o _ B) λa1 ⟨G,q⟩=>?_;have y:=Zf aa aU q;have R:=J G;clear B aa q G k l p;go_wp2;go_loopw [7,23] (λa0 i wr=>a0=.slice none 0 0/\i=(0:Int)/\wr=a1) (λ_ i _=>0);exact⟨rfl,rfl,rfl⟩;obtain⟨rfl,rfl,rfl⟩:=hrel;go_wp21;refine aP (L.o _ R.o) λa4 ⟨E,t⟩=>?_;have M:=J (Ze E);have an:=Zf y aU t;clear E t y;go_wp21;refine cp M.o ?_;go_wp2;go_returns;exact Qn an
theorem Xo (d:ax) (most:Nat):∃t S e,ZB (bs d) 0 (most:Int)=(t,S,e)/\((e=0/\∃a u,fe d most=some (a,u)/\t=bs a/\S=bs u/\u.length<=d.length/\a.length<=d.length/\a.length<=most)\/(e≠0/\fe d most=none)):=by
 match h:fe d most with
 |none=>obtain⟨e,h1,g⟩:=UQ h;exact⟨_,_,e,g,.inr ⟨h1,rfl⟩⟩
 |some (a,u)=>obtain⟨h1,g,j,k⟩:=JM h;exact⟨_,_,0,h1,.inl ⟨rfl,a,u,rfl,rfl,rfl,j,g,k⟩⟩
theorem Zk3 (l:a') (s:aT):bz (l++[s])=bz l++[.string s]:=by simp[bz,sv]
theorem ZcE {l:List Int} {b:Nat} {s s':aT} (B:At w A (bO l)) (h:RV w b s e) (u:RV w' b s' e) (q:Fr (only b) w w'):At w' A (bO l):=by
 intro i hi;obtain⟨d,o,z,hb,j⟩:=B i hi;refine⟨d,o,z,eg hb q.size,?_⟩;by_cases g:d=b
 .subst g;have h1:=Bk.cell h (o+i);have y:=Bk.cell u (o+i);rw[y];rw[j] at h1;rw[h1];have D:(bO l)[i]=.int .i64 (l[i]'(by simpa [bO] using hi)):=(by simp[bO,iv]);rw[D] at h1;match o+i,h1 with
  |0,h1=>simp at h1
  |1,h1=>rfl
  |k+2,h1=>simp at h1
 exact(q.cell (p:=⟨d,_,none⟩) hb (λt=>g t)).trans j
theorem ZfH (data:aT) (hd:data.size<=1000000000) (c n:Nat) (s1 s2:ax) (h1:dN (aH data) 1=some (c,s1)) (h2:dN s1 4096=some (n,s2)):
  Calls prog 196 #[data] w λx w'=>vc w (X0 (aH data)) x w':=by
 have kV:X0 (aH data)=match Yp n s2 with
   |none=>none
   |some (ws,s3)=>
    match fe s3 data.size with
    |none=>none
    |some (a,s4)=>fin c ws (fc a 4096) (fc s4 4096):=by unfold X0;rw[h1];simp only;rw[h2];rfl
 have iH:=J kV;obtain⟨n1,cH,cX⟩:=Zw h1;obtain⟨n2,aE,cQ⟩:=Zw h2;have Ts:bG data 0 1=(c,bs s1,0):=n1;have n2':bG (bs s1) 0 4096=(n,bs s2,0):=n2;rw[Z2] at cX;have H0:=J (ZT data w);have H1:=J (λW (h:RV W w data 0)=>by have:=Zk h O 1;rw[Ts] at this;exact this);have H2:=J (λW (h:RV W w (bs s1) 0)=>by have:=Zk h qC 4096;rw[n2'] at this;exact this);obtain⟨i0,hi,dP,cg,dJ⟩:=info_parts YN;have nZ:=J (And.intro hi (And.intro dP (And.intro cg dJ)));have hl:s2<=data.size:=O;clear h1 h2 kV n1 n2 Ts n2' cX cQ hi dP cg dJ;go_in;go_wp21;refine aP H0.o λw1 ⟨cY,eA⟩=>?_;go_wp21;refine aP (H1.o _ cY) λw2 ⟨bL,aj⟩=>?_;have aa:=Zf eA aU aj;clear cY eA aj;go_wp21;refine aP (H2.o _ bL) λw3 ⟨eZ,aN⟩=>?_;have ae:=Zf aa aU aN;clear bL aa aN H0 H1 H2;go_wp2;go_loopw [7,23] (λv7 i wr=>∃(ws:a') (sk:ax),ws<=n/\i=.int .i64 (ws.length:Nat)/\wr.ownsRow w 9 1 v7 ws (bz ws)/\RV wr w (bs sk) 0/\sk<=data.size/\Hid (Yp n s2=(Yp (n-ws.length) sk).map (λx=>(ws++x.1,x.2)))/\Below w w wr) (λ_ i _=>(n-intOf i).toNat);exact⟨[],s2,by simp,rfl,Zl,eZ,hl,J (by simp),ae⟩;clear eZ ae;obtain⟨ws,sk,hk,rfl,ad,jj,uE,Bi,hf⟩:=hrel;obtain⟨A5,cw,mh,_⟩:=Zh ad;subst mh;have aL:=J ad;have VB:=J jj;by_cases ab:ws<n
 .obtain⟨t,S,e,jc,aK⟩:=Xo sk 128;have H3:=J (ZY jj qC 128);have IL:ZB (bs sk) 0 128=(t,S,e):=jc;rw[IL] at H3;have tq:n-ws.length=(n-(ws.length+1))+1:=O;have dQ:=J aK;have Cp:=J Bi.o;rw[tq] at Cp;have Hf:=J hf;have vq:=J uE;clear aK jc IL Bi ad jj hf tq uE;go_wp21;refine aP H3.o λw4 ⟨dH,aR⟩=>?_;have Ik:=Z6 aL.o aR (λg hg (e:g=w.heap.size)=>Z1 aL.o VB.o aY (e▸hg));have an:=Zf Hf.o aU aR;obtain⟨jT,zp,bE⟩:=bD dH Ik an;have bW:=an.size;have fa:ws+1<=maxLen:=fU;have fu:(ws.length+1)*16<=140737488355328:=O;clear dH Ik an aR;obtain⟨hi,dP,cg,dJ⟩:=nZ.o
  go_wp2_with (
   at_builtin;refine wpList_append_own_at _ rfl (.tmp 25) (.tmp 28) _ rfl w 9 i0 (.string ByteArray.empty) 1 16 underlying23 hi dP cg dJ rfl O (.slice A5 ws cw) ws (bz ws) (by rfl) (zp.o.alloc _) ⟨_,0,none⟩ 1 1 [.string t] (by rfl) rfl (Ql _ _ _) sX fa fu (co bW (by simp)) ?_;intro v' w5 ak el _ cV;have bj:=J ak;have jR:=J el;clear ak el cV);have D7:RV w5 w S e:=Bk.grown (Bk.alloc jT.o (.cells #[t] 9)) jR.o (λe=>Z1 zp.o jT.o aY e.symm);have dM:Below w w w5:=(bE.o.alloc bW (.cells #[t] 9)).grown jR.o (co bW (by simp)) (λj hj=>(zp.o.lt j hj).1);have ho5:w5.ownsRow w 9 1 v' (ws++[t]) (bz (ws++[t])):=by have:=bj.o;rw[bV,Zk3];exact this
  obtain⟨H4,gX,gG,Ho5⟩:=dc (Ze D7) D7 dM ho5;clear D7 dM ho5 bj jR zp jT bE fa fu bW hi dP cg dJ;go_wp21;refine cp H4.o ?_;rcases dQ.o with ⟨he,a,u,tG,rfl,rfl,uG,_⟩|⟨he,tG⟩;.subst he;have hm:=Cp.o;rw[UC tG] at hm;have Hm:Hid (Yp n s2=(Yp (n-(ws++[bs a]).length) u).map (λx=>(ws++[bs a]++x.1,x.2))):=J (by rw[hm,bV,Option.map_map];simp[Function.comp_def]);have hlen:(ws++[bs a]).length=ws.length+1:=(by simp);clear hm tG;go_wp2;go_roundw;exact⟨ws++[bs a],u,O,by rw[hlen];go_num,Ho5.o,gX.o,co uG vq.o,Hm,gG.o⟩;simp[intOf]<;>omega
  have hm:=Cp.o;rw[UD tG] at hm;have hr:X0 (aH data)=none:=by rw[iH.o,hm];rfl
  have Hr:=J hr;have aC:((e:Int) !=0)=true:=eV;clear hm tG hr he;go_wp2;go_returns;rw[Hr.o];exact Qn gG.o
 have bR:n-ws.length=0:=O;have wD:=Bi.o;rw[bR,Yp] at wD;simp only[Cg,fg] at wD;have cF:=iH.o;rw[wD] at cF;simp only at cF;have nF:=J cF;obtain⟨t,S,e,jc,aK⟩:=Xo sk data.size;have H3:=J (ZY jj qC (data.size:Int));rw[jc] at H3;have dQ:=J aK;have Hf:=J hf;have hwn:ws=n:=O;clear aK jc Bi jj hf bR wD cF iH ad;go_wp21;refine aP H3.o λw4 ⟨dH,aR⟩=>?_;have Ik:=Z6 aL.o aR (λg hg (e:g=w.heap.size)=>Z1 aL.o VB.o aY (e▸hg));have an:=Zf Hf.o aU aR;obtain⟨H4,jT,bE,zp⟩:=dc (Ze dH) dH an Ik;clear dH Ik an aR H3 aL Hf;go_wp21;refine cp H4.o ?_;clear H4;rcases dQ.o with ⟨he,a,u,tG,rfl,rfl,uG,fS,ham⟩|⟨he,tG⟩
 .subst he;have cF:=nF.o;rw[tG] at cF;simp only at cF;have Jq:=J (λW=>Y1 (w:=W) a O 4096);have Ds:=J (λW=>Y1 (w:=W) u O 4096);obtain⟨g1,k1⟩:=XS a 4096;obtain⟨g2,k2⟩:=XS u 4096;have HL:=J (λW (h:RV W w (bs u) 0)=>ZA h qC);have HT:=J (λW (h:RV W w (bs u) 0)=>by have:=Zr h qC ((bs u).size:Int);rw[F4] at this;exact this);generalize fc a 4096=DA at*;generalize fc u 4096=DB at*;obtain⟨LA,ea⟩:=DA;obtain⟨LB,eb⟩:=DB;simp only at g1 k1 g2 k2;have gO:=J cF;have G2:=J g2;clear cF tG dQ nF uG g1 g2;generalize bs a=SA at*;generalize bs u=SU at*;go_wp21;refine(Jq.o _).mono ?_;rintro x w7 ⟨v7,rfl,⟨A7,c7,rfl,mT⟩,dm⟩;have B0:=Bk.lt jT.o;have L5:RV w7 w SU 0:=Bk.below jT.o dm B0;have G7:=bE.o.trans (dm.mono bE.o.size);have ho7:=Z6 zp.o (Fr.of_below (S:=nob) dm) (λg hg h=>h);obtain⟨Uj,UJ,pE,Nt,E8,Ny⟩:=fA (HL.o _ L5) (HT.o _ L5) mT ho7 G7 L5;clear HL HT L5 mT ho7 G7 dm B0 zp jT bE Jq;go_wp21;refine cp Uj.o ?_;go_wp21;refine aP UJ.o λw8 ⟨hr8,sQ⟩=>?_;have G8:=Zf E8.o aU sQ;have sA:=ZcE pE.o Ny.o hr8 sQ;have Il:=Z6 Nt.o sQ (λg hg (e:g=w.heap.size)=>Z1 Nt.o Ny.o aY (e▸hg));obtain⟨rE,Vw,yW⟩:=bD sA Il G8;clear hr8 sQ sA Il G8 Uj UJ pE Nt E8 Ny;go_wp21;refine(Ds.o _).mono ?_;rintro x w9 ⟨v9,rfl,⟨B9,c9,rfl,ir⟩,bK⟩;simp only at ir;have sB:=rE.o.below bK;have Im:=Z6 Vw.o (Fr.of_below (S:=nob) bK) (λg hg h=>h);have G9:=yW.o.trans (bK.mono yW.o.size);obtain⟨AW,cW,hvW,sC⟩:=Zh Im;injection hvW with bJ bp gg;subst bJ;subst gg;obtain⟨yP,DU,E3,pF⟩:=dc sB ir sC G9;clear sB ir sC G9 Im bK rE Vw yW Ds bp;have bP:=gO.o;unfold fin at bP;simp only at bP;by_cases c1:ea≠0\/eb≠0\/LA≠LB.length
  .rw[Vag c1] at bP;have Hr:=J bP
   have q1:((ea:Int) !=0)=true\/(((ea:Int) !=0)=false/\((eb:Int) !=0)=true)\/(((ea:Int) !=0)=false/\((eb:Int) !=0)=false/\((LA.length:Int) !=LB.length)=true):=by by_cases d1:ea=0;by_cases d2:eb=0;right;right;refine⟨by rw[d1];rfl,by rw[d2];rfl,eV⟩;right;left;refine⟨by rw[d1];rfl,eV⟩;left;exact eV
   clear c1 bP;rcases q1 with q1|⟨q1,q2⟩|⟨q1,q2,q3⟩
   all_goals
    go_wp2;go_returns;rw[Hr.o];exact Qn pF.o
  rw[aD c1] at bP;have d1:ea=0:=O;have d2:eb=0:=O;have d3:LA=LB.length:=O;subst d1;subst d2;have q3:((LA.length:Int) !=LB.length)=false:=(by rw[bne_eq_false_iff_eq];omega);have q1:(((0:Nat):Int) !=0)=false:=rfl;have HU:=J (Z78 yP.o LA c7 rfl O);have CI:(ZX LA).2=0->(ZX LA).1.length=LA:=by unfold ZX;split;intro _;simp[Xq];rename_i h;intro h2;exact absurd h2 h
  have cu:=J bP;have D3:=J d3;clear c1 bP d3 k2;have sH:c=1\/c≠1:=O;go_upto_if 68 with fail
  go_cut [9] (λs9 wx=>∃(I:List Int) (A9:bN) (jx:Nat),s9=.slice A9 LA jx/\I=LA.length/\At wx A9 (bO I)/\Below w9 w9 wx/\
   Hid (X0 (aH data)=if ∃v∈LB,4096<=v then none else if(ZK ws (I.zip (LB.map (· +1))) []).2=0 then some (ZK ws (I.zip (LB.map (· +1))) []).1 else none))
  case first=>
   rcases sH with h1|h1
   .have g0:((c:Int)==1)=true:=Jr;have aj:=cu.o;simp only[h1,if_true,true_and] at aj;clear h1 cu cH;obtain⟨U,WO⟩:=ay (ZX LA);rw[WO] at HU CI aj;clear WO;obtain⟨UL,ue⟩:=U;simp only at CI aj;have dh:=J aj;have Mf:=J CI;clear aj CI;go_wp21;refine(HU.o).mono ?_;rintro x nO ⟨v10,rfl,⟨A10,c10,rfl,sy⟩,fF⟩;simp only at sy;have DT:=J sy;clear sy HU;simp only[c'];by_cases SZ:ue=0;.subst SZ;have hl:=Mf.o rfl;have aN:=dh.o;simp only[ne_eq,not_true,if_false] at aN;have ig:=J aN;rw[hl];clear aN dh Mf;go_wp2;go_meet;case rel=>exact⟨UL.map Int.ofNat,A10,c10,rfl,by rw[c',hl],DT.o,fF,ig⟩
    have aN:=dh.o;rw[Vag SZ] at aN;have Hr:=J aN;have aX:=pF.o.trans (fF.mono pF.o.size);have q5:((ue:Int) !=0)=true:=eV;clear aN dh Mf SZ;go_wp2;go_returns;rw[Hr.o];exact Qn aX
   have g0:((c:Int)==1)=false:=oe;have aj:=cu.o;simp only[h1,if_false,false_and] at aj;have dh:=J aj;clear h1 cu cH CI HU aj;go_wp2;go_meet;case rel=>exact⟨LA,A7,c7,rfl,rfl,yP.o,bf _ _,dh⟩
  clear HU CI cu;obtain⟨I,A9,jx,rfl,WC,pW,G4,xN⟩:=hcut;obtain⟨Z,hZ⟩:=ay (I.zip (LB.map (· +1)));have FN:Z=LA.length:=(by rw[<-hZ,List.length_zip,c',<-D3.o,WC,Nat.min_self]);have sS:=xN.o;rw[hZ] at sS;have tV:=J sS;have HZ:=J hZ;have cA:=Zj0 (P:=prog) 312 315 underlying312 T3 (LA.length:Int) LA rfl k1 wc;obtain⟨rF,rH,yQ,rI⟩:=dc (DU.o.below G4) (E3.o.below G4) pW (pF.o.trans (G4.mono pF.o.size));clear xN sS hZ pW G4 DU E3 yP pF;go_wp2;go_loopw [14,81] (λ_ i wr=>∃k:Nat,k<=LA/\i=k/\Bk wr wc 315 (pcs (Z.take k++List.replicate (LA.length-k) (0,0)))/\Hid (∀v∈LB.take k,v<4096)/\Below wc wc wr) (λ_ i _=>(LA.length-intOf i).toNat);exact⟨0,O,rfl,Bk.new _ _ _,J (by simp),(bf _ _).alloc aU _⟩;obtain⟨k,hk,rfl,az,ao,hf⟩:=hrel;by_cases ab:k<LA
  .have hkB:k<LB:=(by rw[<-D3.o];exact ab);have hkI:k<I:=(by rw[WC];exact ab);have hkZ:k<Z:=(by rw[FN];exact ab);obtain⟨v,hv⟩:=ay LB[k];obtain⟨y,hy⟩:=ay I[k];have Li:Z[k]=(y,v+1):=by simp only[<-HZ.o,List.getElem_zip,uF,hy,hv]
   have wI:=G2.o v (hv▸dt _);have zW:=rF.o.below hf;have pW:=yQ.o.below hf;obtain⟨bB,oB,hB,sE,hcB⟩:=zW.get k (.int .i64 v) (by rw[<-hv];simp[bO,iv,hkB]);obtain⟨bI,oI,hI,G4,hcI⟩:=pW.get k y (by rw[<-hy];simp[bO,iv,hkI]);subst hB;subst hI;by_cases fT:(4096:Int)<=v;.have hr:=tV.o;rw[Vag ⟨v,hv▸dt _,fT⟩] at hr;have Hr:=J hr;have aX:=rI.o.trans (hf.mono rI.o.size);clear hr tV hv hy Li zW pW az cA;go_wp2;go_returns;rw[Hr.o];exact Qn aX
   have hlen:(Z.take k)=k:=vO;have wB:=Zje (Z.take k) LA.length (y,v+1) (0,0) O;rw[hlen,<-Li,<-dK hkZ] at wB;have Di:(Z.take k++List.replicate (LA.length-k) ((0,0):Int×Int)).length=LA.length:=(by rw[bV,hlen,iE];omega);obtain⟨W,hW⟩:=ay (Z.take k++List.replicate (LA.length-k) ((0,0):Int×Int));rw[hW] at wB Di az;obtain⟨We,Wf⟩:=Zn5 W k O;obtain⟨m0,cz⟩:∃m:Int,wr.cell? ⟨wc,k*2,none⟩=m:=⟨_,(az.cell _).trans We⟩;obtain⟨m1,cH⟩:∃m:Int,wr.cell? ⟨wc,k*2+1,none⟩=m:=⟨_,(az.cell _).trans Wf⟩;have hfz0:=az.frozen (k*2);have hfz1:=az.frozen (k*2+1);have au:=(az.put (k*2) y).put (k*2+1) (v+1:Int);have gK:=Zn6 W k (y,v+1) O;simp only at gK;rw[gK,<-Li,wB] at au;have aB:=J au;have cC:Hid (∀u∈LB.take (k+1),u<4096):=J (by intro u hu;rw[dK hkB,hv] at hu;exact PA);have i2:IntKind.i64.wrap (v+1)=v+1:=lO;have cP:(0:Int)<=k:=O;have qk:(k:Int)<LA:=O;have hkm2:(k:Int)<LB:=O;have Hf:=J hf;clear au gK wB ao zW pW az cA hv hy Li We Wf hW Di hlen tV HZ rF rH yQ G2 hf;go_upto_region 28 with fail;go_region;go_wp2;go_roundw;exact⟨k+1,O,ci,aB.o,cC,((Hf.o.setCell (p:=⟨wc,k*2,none⟩) aU _).setCell (p:=⟨wc,k*2+1,none⟩) aU _).drew⟩;simp[intOf]<;>omega
  have cP:k=LA:=O;subst cP;rw[fh,List.replicate_zero,fg,<-FN,Vbq] at az;have cC:¬∃v∈LB,(4096:Int)<=v:=by rintro⟨v,hv,h4⟩;have:=ao.o v (by rw[D3.o,Vbq];exact hv);omega
  have hr:=tV.o;rw[aD cC] at hr;have FY:At wr (some ⟨wc,0,none⟩) (pv Z):=az.at_;have sC:=rH.o.below hf;have aX:=rI.o.trans (hf.mono rI.o.size);have HE:=J (Zbg sC FY n cw LA LA hwn.symm FN.symm O O);obtain⟨⟨X,xe⟩,hX⟩:=ay (ZK ws Z []);rw[hX] at hr HE;simp only at hr;have Hr:=J hr;have uZ:=J aX;clear hX hr aX FY sC cC ao az cA hf tV HZ rF rH yQ rI;go_wp21;refine(HE.o).mono ?_;rintro x uM ⟨v11,rfl,qu,iu⟩;simp only at qu;have aX:=uZ.o.trans (iu.mono uZ.o.size);by_cases mJ:xe=0;.subst mJ;have eU:Hid (X0 (aH data)=some X):=J (by rw[Hr.o,Vag rfl]);have Hs:=J qu;clear Hr qu iu;go_wp2;go_returns;rw[eU.o];exact⟨v11,rfl,(λl h=>by injection h with h;subst h;exact Hs.o),aX⟩
  have eU:Hid (X0 (aH data)=none):=J (by rw[Hr.o,aD mJ]);have q9:((xe:Int)==0)=false:=oe;clear Hr qu iu mJ;go_wp2;go_returns;rw[eU.o];exact Qn aX
 have hr:X0 (aH data)=none:=by rw[nF.o,tG]
 have Hr:=J hr;have aC:((e:Int) !=0)=true:=eV;clear tG hr he nF dQ;go_wp2;go_returns;rw[Hr.o];exact Qn bE.o
