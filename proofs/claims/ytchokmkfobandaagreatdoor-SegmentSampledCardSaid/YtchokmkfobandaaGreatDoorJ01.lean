import Derived.Test.YtchokmkfobandaaGreatDoorJ00
import Derived.Laws.OwnMore
import Derived.Deep.AppendLies
import Derived.Deep.Draws
import Derived.Laws.Rows
import Derived.Maps.AppendAt
import Derived.OwnWalk
import Derived.Lib.Hide
import Derived.Laws.IdiomStrings
import Derived.Laws.BytesArg
import Derived.Laws.Bits128
import Derived.Maps.Own
import Derived.MapKept
import Derived.Deep.RegionLaw
import Derived.Deep.Slices
import Derived.ProofKit
import Derived.OpenShut
set_option linter.unusedVariables false
set_option linter.unusedSimpArgs false
set_option maxRecDepth 100000
set_option maxHeartbeats 8000000
namespace Wv
open Go Go.RowKit
theorem _root_.Go.RowKit.Hid.o{p:Prop}(h:Go.RowKit.Hid p):p:=h
theorem h_ {p:Prop} (h:p):Hid p:=h
structure Fr (S:Nat->Prop) (w w':World):Prop where
 os:w'.os=w.os
 tape:w'.tape=w.tape
 output:w'.output=w.output
 size:w.heap.size<=w'.heap.size
 block:∀k,k<w.heap.size->¬S k->w'.heap[k]? =w.heap[k]?
def nob:Nat->Prop:=λ_=>False
def only (b:Nat):Nat->Prop:=λk=>k=b
theorem Fr.refl (S:Nat->Prop) (w:World):Fr S w w:=⟨rfl,rfl,rfl,UZz,λ_ _ _=>rfl⟩
theorem Fr.trans {S:Nat->Prop} {a b c:World} (h:Fr S a b) (k:Fr S b c):Fr S a c:=
 ⟨k.os.trans h.os,k.tape.trans h.tape,k.output.trans h.output,Vaq h.size k.size,λi hi hn=>(k.block i (Va5 hi h.size) hn).trans (h.block i hi hn)⟩
theorem Fr.trans' {S T:Nat->Prop} {a b c:World} (h:Fr S a b) (k:Fr T b c) (hT:∀i,i<a.heap.size->T i->S i):Fr S a c:=
 ⟨k.os.trans h.os,k.tape.trans h.tape,k.output.trans h.output,Vaq h.size k.size,λi hi hn=>(k.block i (Va5 hi h.size) (λt=>hn (hT i hi t))).trans (h.block i hi hn)⟩
theorem Fr.mono {S T:Nat->Prop} {w w':World} (h:Fr S w w') (hs:∀k,S k->T k):Fr T w w':=
 ⟨h.os,h.tape,h.output,h.size,λk hk hn=>h.block k hk (λs=>hn (hs k s))⟩
theorem Fr.drew {S:Nat->Prop} {a w:World} (h:Fr S a w):Fr S a w.drew:=⟨h.os,h.tape,h.output,h.size,h.block⟩
theorem Fr.drewN {S:Nat->Prop} {a w:World} (h:Fr S a w) (n:Nat):Fr S a (w.drewN n):=⟨h.os,h.tape,h.output,h.size,h.block⟩
theorem Fr.alloc {S:Nat->Prop} {a w:World} (h:Fr S a w) (o:Obj):Fr S a (w.alloc o):=
 ⟨h.os,h.tape,h.output,Vaq h.size (by simp),λk hk hn=>(Below.heap_alloc w o k (Va5 hk h.size)).trans (h.block k hk hn)⟩
theorem Fr.setCell {S:Nat->Prop} {a w:World} (h:Fr S a w) {p:Addr} (hp:S p.block\/a.heap.size<=p.block) (u:Value):Fr S a (w.setCell p u):=
 ⟨h.os,h.tape,h.output,by simpa [World.setCell] using h.size,λk hk hn=>(Below.heap_setCell w p u k (by
  rintro rfl;rcases hp with hp|hp
  ·exact hn hp
  ·omega)).trans (h.block k hk hn)⟩
theorem Fr.below {S:Nat->Prop} {a w w':World} (h:Fr S a w) (hb:Below w.heap.size w w'):Fr S a w':=
 h.trans ⟨hb.os,hb.tape,hb.output,hb.size,λk hk _=>hb.block k hk⟩
theorem Fr.of_below {S:Nat->Prop} {w w':World} (hb:Below w.heap.size w w'):Fr S w w':=(Fr.refl S w).below hb
theorem Fr.toBelow' {S:Nat->Prop} {w w':World} {B:Nat} (h:Fr S w w') (hB:B<=w.heap.size) (hS:∀k,k<B->¬S k):Below B w w':=
 ⟨h.os,h.tape,h.output,h.size,λk hk=>h.block k (by omega) (hS k hk)⟩
theorem Fr.grown {S:Nat->Prop} {a w w':World} {row:Option Nat} (h:Fr S a w) (hg:w.grownBy w' row) (hr:∀k,row=some k->S k\/a.heap.size<=k):Fr S a w':=
 ⟨hg.os.trans h.os,hg.tape.trans h.tape,hg.output.trans h.output,Vaq h.size hg.size,λk hk hn=>(hg.block k (Va5 hk h.size) (λe=>by
  rcases hr k e.symm with hs|hs
  ·exact hn hs
  ·omega)).trans (h.block k hk hn)⟩
theorem Fr.cell {S:Nat->Prop} {w w':World} (h:Fr S w w') {p:Addr} (hl:p.block<w.heap.size) (hn:¬S p.block):w'.cell? p=w.cell? p:=World.cell?_of_block (h.block _ hl hn)
theorem Fr.frozen {S:Nat->Prop} {w w':World} (h:Fr S w w') {p:Addr} (hl:p.block<w.heap.size) (hn:¬S p.block):w'.frozen? p=w.frozen? p:=World.frozen?_of_block (h.block _ hl hn)
theorem bdN {B:Nat} {a w:World} (h:Below B a w) (n:Nat):Below B a (w.drewN n):=⟨h.os,h.tape,h.output,h.size,h.block⟩
theorem Zhj {W w1:World} (hb:Below W.heap.size W w1):(∀b o,b<W.heap.size->w1.cell? ⟨b,o,none⟩=W.cell? ⟨b,o,none⟩)/\(∀b o,b<W.heap.size->w1.frozen? ⟨b,o,none⟩=W.frozen? ⟨b,o,none⟩):=
 ⟨λb o h=>hb.cell (p:=⟨b,o,none⟩) h,λb o h=>hb.frozen (p:=⟨b,o,none⟩) h⟩
def Bk (w:World) (g:Nat) (t:TypeId) (cs:Array Value):Prop:=w.heap[g]? =some (.cells cs t (0,0))
section
variable {w w':World} {g:Nat} {t:TypeId} {cs:Array Value}
theorem Bk.lt (h:Bk w g t cs):g<w.heap.size:=by
 unfold Bk at h;exact(Array.getElem?_eq_some_iff.1 h).1
theorem Bk.cell (h:Bk w g t cs) (i:Nat):w.cell? ⟨g,i,none⟩=cs[i]? :=by
 unfold Bk at h;simp[World.cell?,h]
theorem Bk.frozen (h:Bk w g t cs) (i:Nat):w.frozen? ⟨g,i,none⟩=false:=by
 unfold Bk at h;simp[World.frozen?,h]
theorem Bk.new (w:World) (t:TypeId) (cs:Array Value):Bk (w.alloc (.cells cs t)) w.heap.size t cs:=heap_alloc_new w _
theorem Bk.drew (h:Bk w g t cs):Bk w.drew g t cs:=h
theorem Bk.drewN (h:Bk w g t cs) (n:Nat):Bk (w.drewN n) g t cs:=h
theorem Bk.alloc (h:Bk w g t cs) (o:Obj):Bk (w.alloc o) g t cs:=(Below.heap_alloc w o g h.lt).trans h
theorem Bk.put (h:Bk w g t cs) (i:Nat) (u:Value):Bk (w.setCell ⟨g,i,none⟩ u) g t (cs.setIfInBounds i u):=by
 unfold Bk at h⊢;simp[World.setCell,Array.getElem?_modify,h]
theorem Bk.off (h:Bk w g t cs) {p:Addr} (hp:g≠p.block) (u:Value):Bk (w.setCell p u) g t cs:=(Below.heap_setCell w p u g hp).trans h
theorem Bk.fr {S:Nat->Prop} (h:Bk w g t cs) (hf:Fr S w w') (hg:¬S g):Bk w' g t cs:=(hf.block g h.lt hg).trans h
theorem Bk.below {B:Nat} (h:Bk w g t cs) (hb:Below B w w') (hg:g<B):Bk w' g t cs:=(hb.block g hg).trans h
theorem Bk.grown {row:Option Nat} (h:Bk w g t cs) (hb:w.grownBy w' row) (hg:some g≠row):Bk w' g t cs:=(hb.block g h.lt hg).trans h
theorem Bk.apart {g':Nat} {t':TypeId} {Fa:Array Value} (h:Bk w g t cs) (h':Bk w g' t' Fa) (az:t≠t'):g≠g':=by
 rintro rfl;unfold Bk at h h';rw[h] at h';injection h' with h'
 injection h' with _ ht;exact az ht
theorem Z2 {base:Nat} {e:TypeId} {size n:Nat} {v:Value} {xs:List Value} (h:w.ownsRow base e size v n xs) (hg:Bk w g t cs) (az:e≠t):v.ownBlock≠some g:=by
 rcases h.2 with ⟨rfl,_⟩|⟨g',cap,cur,rfl,_,hh,_⟩
 ·simp[Value.ownBlock]
 ·intro he;have:g'=g:=(by simpa [Value.ownBlock] using he);subst this;exact Bk.apart (t:=e) hh hg az rfl
end
theorem Zn {S:Nat->Prop} {w w':World} {base:Nat} {e:TypeId} {size n:Nat} {v:Value} {xs:List Value} (h:w.ownsRow base e size v n xs) (hf:Fr S w w') (hn:∀g,v.ownBlock=some g->¬S g):w'.ownsRow base e size v n xs:=by
 refine⟨h.1,?_⟩;rcases h.2 with h2|⟨g,cap,cur,rfl,hb,hg,rest⟩
 ·exact .inl h2
 ·refine .inr ⟨g,cap,cur,rfl,hb,?_,rest⟩;rw[hf.block g (Array.getElem?_eq_some_iff.1 hg).1 (hn g rfl)];exact hg
theorem Z3b {w:World} {base tq:Nat} {e:TypeId} {size n:Nat} {v:Value} {xs:List Value} (h:w.ownsRow base e size v n xs) (hb:tq<=base):w.ownsRow tq e size v n xs:=by
 refine⟨h.1,?_⟩;rcases h.2 with h2|⟨g,cap,cur,rfl,eQ,rest⟩
 ·exact .inl h2
 ·exact .inr ⟨g,cap,cur,rfl,by omega,rest⟩
theorem q1 {P:Program} {f:FuncId} {args:Array Value} {w:World} {n:Nat} {v:Value} (h:Calls P f args (w.drewN n) λe w'=>e=.returned v/\w.drewN n=w'):
  Calls P f args (w.drewN n) λe cg=>e=.returned v/\∃m,cg=w.drewN m:=h.mono λ_ _ ⟨he,hm⟩=>⟨he,n,hm.symm⟩
theorem q2 {P:Program} {f:FuncId} {args:Array Value} {w:World} {a n:Nat} {v:Value} (h:Calls P f args (w.drewN (a+n)) λe w'=>e=.returned v/\w.drewN (a+n)=w'):
  Calls P f args (w.drewN (a+n)) λe cg=>e=.returned v/\∃m,cg=w.drewN (a+m):=h.mono λ_ _ ⟨he,hm⟩=>⟨he,n,hm.symm⟩
theorem q3 {P:Program} {f:FuncId} {args:Array Value} {w:World} {n:Nat} {v:Value} (h:Calls P f args (w.drewN n) λe w'=>e=.returned v/\∃q,w'=(w.drewN n).drewN q):
  Calls P f args (w.drewN n) λe cg=>e=.returned v/\∃m,cg=w.drewN m:=h.mono λ_ _ ⟨he,q,hm⟩=>⟨he,n+q,by rw[hm,World.drewN_drewN]⟩
theorem q4 {P:Program} {f:FuncId} {args:Array Value} {w:World} {a n:Nat} {v:Value} (h:Calls P f args (w.drewN (a+n)) λe w'=>e=.returned v/\∃q,w'=(w.drewN (a+n)).drewN q):
  Calls P f args (w.drewN (a+n)) λe cg=>e=.returned v/\∃m,cg=w.drewN (a+m):=h.mono λ_ _ ⟨he,q,hm⟩=>⟨he,n+q,by rw[hm,World.drewN_drewN,Vc6]⟩
theorem and1 (n:Int):bits .and .i64 n 1=n % 2:=by
 have h1:(BitVec.ofInt 64 1).toNat=2 ^ 1-1:=by decide
 have key:(BitVec.ofInt 64 n&&&BitVec.ofInt 64 1).toNat=(n % ((2 ^ 64:Nat):Int)).toNat % 2 ^ 1:=by
  rw[BitVec.toNat_and,BitVec.toNat_ofInt,h1,Nat.and_two_pow_sub_one_eq_mod]
 show IntKind.i64.wrap ((BitVec.ofInt 64 n&&&BitVec.ofInt 64 1).toNat:Nat)=n % 2;rw[key,IntKind.wrap_i64];omega
theorem Z74 {P:Program} (src dst e:TypeId) (hs:P.underlying src=some (.slice e)) (he:P.underlying e=some (.int .u8)) (hd:P.underlying dst=some .string) (w:World) (x:Int):
  (convert src dst (.slice (some ⟨w.heap.size,0,none⟩) 1 1)).run P (w.alloc (.cells #[.int .u8 x] e))=.ok (.string ⟨#[UInt8.ofNat x.toNat]⟩) (w.alloc (.cells #[.int .u8 x] e)):=by
 have:=run_convert_bytes_arg (P:=P) (w.alloc (.cells #[.int .u8 x] e)) src e hs he w.heap.size 0 1 1 [x] rfl (λi hi=>by
  have:i=0:=(by omega);subst this;rw[cell_of_row _ _ _ _ _ _ (heap_alloc_new w _)];rfl) dst hd
 rw[this];rfl
theorem Yg {P:Program} (t e:TypeId) (z:Value) (bytes:Nat) (ht:P.underlying t=some (.slice e)) (aK:(P.info? e).map (λi=>(i.zero,i.size,i.bytes))=some (some z,1,bytes)) (bN:z.cells= #[z])
  (m:Int) (n:Nat) (hm:m=n) (hb:bytes*n<=281474976710656) (e9:n<=9223372036854775807) (w:World):
  (Instr.makeSlice t (.int .i64 m) (.int .i64 m)).run P w=.ok (.slice (some ⟨w.heap.size,0,none⟩) n n) (w.alloc (.cells (Array.replicate n z) e)):=by
 obtain⟨i,hi,hz,hs,dj⟩:=info_parts aK;subst hm
 have eQ:(i.bytes:Int)*(n:Int)<=281474976710656:=by
  have h:((bytes*n:Nat):Int)<=281474976710656:=(by omega);rw[dj];rwa [Vb1] at h
 have hr:=run_make (P:=P) w t e i z ht hi hz .i64 .i64 (n:Int) (n:Int) (by omega) (by omega) eQ (by omega);rw[hr,Vav,hs,bN];congr 3;apply Array.ext
 ·simp[madeCells]
 ·intro j h1 h2;simp[madeCells,Nat.mod_one]
def bv (b:UInt8):Value:=.int .u8 (b.toNat:Int)
def bc (l:List UInt8):Array Value:=(l.map bv).toArray
theorem Z9O (l:List UInt8) (i:Nat) (h:i<l.length):(bc l)[i]? =some (.int .u8 (l[i].toNat:Int)):=by
 simp[bc,bv,Van h]
theorem ZgA (l:List UInt8) (i:Nat) (x:Int) (h0:0<=x) (h1:x<256):(bc l).setIfInBounds i (.int .u8 x)=bc (l.set i (UInt8.ofNat x.toNat)):=by
 have:(.int .u8 x:Value)=bv (UInt8.ofNat x.toNat):=by
  unfold bv;congr 1;have:x.toNat<256:=(by omega);simp[Nat.mod_eq_of_lt this];omega
 rw[this];apply Vbj.1;simp[bc,List.map_set]
theorem Z4e (n:Nat):Array.replicate n (.int .u8 0:Value)=bc (List.replicate n 0):=by
 apply Vbj.1;simp[bc,bv]
theorem ZdZ {P:Program} (src dst e:TypeId) (hs:P.underlying src=some (.slice e)) (he:P.underlying e=some (.int .u8)) (hd:P.underlying dst=some .string) (w:World) (g n cap:Nat) (l r:List UInt8)
  (hb:Bk w g e (bc (l++r))) (hn:n=l.length):
  (convert src dst (.slice (some ⟨g,0,none⟩) n cap)).run P w=.ok (.string ⟨l.toArray⟩) w:=by
 subst hn;refine run_convert_bytes_back w src dst e ⟨g,0,none⟩ cap l hs he hd (λj hj=> ?_);have:(⟨g,0,none⟩:Addr).add j=⟨g,j,none⟩:=(by unfold Addr.add;split<;>simp_all);rw[this,hb.cell,Z9O (l++r) j (by simp;omega),Vc5 hj]
theorem ZgB {P:Program} {k:TypeId} {kd:IntKind} (hk:P.underlying k=some (.int kd)) (e:Bool) (x:Int) (W:World):(Instr.checkKey e 10000 k (.int kd x)).run P W=.ok () W:=
 MapKept.run_checkKey (w:=W) hk (show MapKept.IsKey (.int kd) (.int kd x) from rfl) e 9999
theorem Z9P (w:World) (o o':Obj):({ (w.alloc o) with heap:=(w.alloc o).heap.setIfInBounds w.heap.size o' } :World)=w.alloc o':=by
 have h:(w.heap.push o).setIfInBounds w.heap.size o'=w.heap.push o':=by
  apply Vbj.1;simp
 show({ w with heap:=(w.heap.push o).setIfInBounds w.heap.size o' } :World)= { w with heap:=w.heap.push o' };rw[h]
theorem Zj {P:Program} {t k e:TypeId} {kd:IntKind} (ht:P.underlying t=some (.map k e)) (hk:P.underlying k=some (.int kd)) (w:World) (es:Array MapEntry) (c:Nat) (x:Int) (v:Value)
  (hn:Instr.findNow (.int kd) (.int kd x) es.toList 0=some none):
  (Instr.mapUpdate t (.map (some w.heap.size)) (.int kd x) v).run P (w.alloc (.map es c))=.ok () (w.alloc (.map (es.push ⟨.int kd x,v,c⟩) (c+1))):=by
 have h1:(w.alloc (.map es c)).heap[w.heap.size]? =some (.map es c):=heap_alloc_new w _;have h2:=λo=>MapKept.run_setObj_map (P:=P) o h1;unfold Instr.mapUpdate;simp only[Sem.run_bind,run_underlying ht,Result.andThen_ok,MapKept.run_getObj_map h1,ZgB hk,MapKept.run_findKey hk hn,h2,Z9P]
theorem Z8r {P:Program} {t k e:TypeId} {kd:IntKind} (ht:P.underlying t=some (.map k e)) (hk:P.underlying k=some (.int kd)) (w:World) (r:Nat) (es:Array MapEntry) (c:Nat) (x:Int) (i:Nat) (v:Value)
  (hr:w.heap[r]? =some (.map es c)) (hn:Instr.findNow (.int kd) (.int kd x) es.toList 0=some (some (i,v))):
  (Instr.lookup t (.map (some r)) (.int kd x) true).run P w=.ok (.tuple #[v,.bool true]) w:=by
 unfold Instr.lookup;simp only[Sem.run_bind,Sem.run_pure,run_underlying ht,Result.andThen_ok,MapKept.run_getObj_map hr,ZgB hk,MapKept.run_findKey hk hn];rfl
theorem Z0r {w:World} {base g n cap:Nat} {e:TypeId} {xs:List Value} (h:w.ownsRow base e 1 (.slice (some ⟨g,0,none⟩) n cap) n xs) (i:Nat) (hi:i<n) (u:Value):
  (w.setCell ⟨g,i,none⟩ u).ownsRow base e 1 (.slice (some ⟨g,0,none⟩) n cap) n (xs.set i u):=by
 refine⟨by rw[Vbh];exact h.1,?_⟩;rcases h.2 with ⟨h2,_⟩|⟨g',bp,cur,hv,hb,hg,oG,lV,hcs,ay⟩
 ·cases h2
 ·injection hv with bk bj ei;injection bk with bk;injection bk with bk;subst bk;subst ei;refine .inr ⟨g,cap,cur.setIfInBounds i u,rfl,hb,?_,oG,lV,by rw[Array.size_setIfInBounds];exact hcs,?_⟩
  ·simp[World.setCell,Array.getElem?_modify,hg]
  ·rw[Vcw] at*;rw[<-ay,Array.toList_setIfInBounds,List.take_set]
theorem XB {w:World} {base n:Nat} {e:TypeId} {size:Nat} {v:Value} {xs:List Value} (h:w.ownsRow base e size v n xs) {p:Addr} (hp:v.ownBlock≠some p.block) (u:Value):(w.setCell p u).ownsRow base e size v n xs:=
 Zn h ((Fr.refl (λk=>k=p.block) w).setCell (.inl rfl) u) (λg hg e=>hp (by rw[hg,e]))
theorem QS {w:World} {base g n cap:Nat} {e:TypeId} {xs:List Value} (h:w.ownsRow base e 1 (.slice (some ⟨g,0,none⟩) n cap) n xs) (i:Nat) (u:Value) (hu:xs[i]? =some u):
  w.cell? ⟨g,i,none⟩=some u/\w.frozen? ⟨g,i,none⟩=false:=by
 have h1:=h.cells (g:=g) rfl i u hu;have:(⟨g,0,none⟩:Addr).add i=⟨g,i,none⟩:=(by unfold Addr.add;split<;>simp_all);rw[this] at h1;refine⟨h1,?_⟩;rcases h.2 with ⟨h2,_⟩|⟨g',bp,cur,hv,hb,hg,_⟩
 ·cases h2
 ·injection hv with bk bj ei;injection bk with bk;injection bk with bk;subst bk;simp[World.frozen?,hg]
theorem QT {w:World} {base n:Nat} {e:TypeId} {v:Value} {xs:List Value} (h:w.ownsRow base e 1 v n xs) (hn:0<n):∃g cap,v=.slice (some ⟨g,0,none⟩) n cap/\n<=cap:=by
 rcases h.2 with ⟨_,h2⟩|⟨g',bp,cur,hv,hb,hg,hc,_⟩
 ·omega
 ·exact⟨g',bp,hv,hc⟩
theorem XC (w:World) (t:TypeId) (v:Value):∀(j:Nat) (u:Value),[v][j]? =some u->(w.alloc (.cells #[v] t)).cell? ((⟨w.heap.size,0,none⟩:Addr).add j)=some u:=by
 intro j u hj;cases j with
 |zero=>
  simp at hj;subst hj;have:(⟨w.heap.size,0,none⟩:Addr).add 0=⟨w.heap.size,0,none⟩:=rfl;rw[this,cell_of_row _ _ _ _ _ _ (heap_alloc_new w _)];rfl
 |succ j=>simp at hj
def foot (b:Nat) (dv:Value):Nat->Prop:=λk=>k=b\/dv.ownBlock=some k
theorem Zhk {P:Program} {w:World} (t ty e:TypeId) (z:Value) (bytes:Nat) (ht:P.underlying t=some (.slice e)) (aK:(P.info? e).map (λi=>(i.zero,i.size,i.bytes))=some (some z,1,bytes)) (bN:z.cells.size=1)
  {base b2:Nat} {v u:Value} {n m:Nat} {xs ys:List Value} (hv:w.ownsRow base e 1 v n xs) (hu:w.ownsRow b2 e 1 u m ys) (h1:∀y∈ys,y.oneCell'=true)
  (e9:n+m<=maxLen) (aV:(n+m)*bytes<=140737488355328) (bx:base<=w.heap.size):
  ∃v' w',(Builtin.append_ #[t,t] ty #[v,u]).run P w=.ok v' w'/\w'.ownsRow base e 1 v' (n+m) (xs++ys)/\w.grownBy w' v.ownBlock/\(v'.ownBlock=v.ownBlock\/v'.ownBlock=some w.heap.size):=by
 obtain⟨i,hi,hz,hs,dj⟩:=info_parts aK;rcases hu.2 with ⟨rfl,hm⟩|⟨g,cap,cur,rfl,hb,hg,oG,lV,hcs,ay⟩
 ·subst hm;have hy:ys=[]:=Vaj (by simpa using hu.1);subst hy;refine⟨v,w,?_,by simpa using hv,⟨rfl,rfl,rfl,UZz,λ_ _ _=>rfl⟩,.inl rfl⟩;rcases hv.2 with ⟨rfl,rfl⟩|⟨g,cap,cur,rfl,_,_,oG,_⟩
  ·simp[Builtin.append_,run_underlying ht,Go.sizeOf,typeInfo,hi,Builtin.lenOf,Builtin.firstCells]
  ·simp[Builtin.append_,run_underlying ht,Go.sizeOf,typeInfo,hi,Builtin.lenOf,Builtin.firstCells,oG,storeCells]
 ·obtain⟨v',w',hr,h2,h3,_,h5⟩:=run_append_own_at (P:=P) w base t ty e i z 1 bytes ht hi hz hs dj bN (by omega) v n xs hv ⟨g,0,none⟩ m cap ys hu.1 (hu.cells (g:=g) rfl) h1 e9 aV bx;exact⟨v',w',hr,h2,h3,h5⟩
theorem Zd {w:World} {base size n:Nat} {e:TypeId} {v:Value} {xs:List Value} (h:w.ownsRow base e size v n xs):∃A M cap,v=.slice A M cap:=by
 rcases h.2 with ⟨h2,_⟩|⟨g,cap,cur,hv,_⟩
 ·exact⟨_,_,_,h2⟩
 ·exact⟨_,_,_,hv⟩
theorem Z75 {P:Program} (src dst e:TypeId) (hs:P.underlying src=some (.slice e)) (he:P.underlying e=some (.int .u8)) (hd:P.underlying dst=some .string) {w:World} {base g n cap:Nat} {l:List UInt8}
  (h:w.ownsRow base e 1 (.slice (some ⟨g,0,none⟩) n cap) n (l.map bv)):(convert src dst (.slice (some ⟨g,0,none⟩) n cap)).run P w=.ok (.string ⟨l.toArray⟩) w:=by
 have hn:n=l.length:=(by have:=h.1;simpa using this.symm);subst hn;refine run_convert_bytes_back w src dst e ⟨g,0,none⟩ cap l hs he hd (λj hj=> ?_);exact h.cells (g:=g) rfl j _ (by rw[Vbb,Van hj];rfl)
theorem Z3c {P:Program} {ops:Array Oper} {o:Oper} {a:Act} {w w':World} {K:Act->World->Prop} {Q:Exit->Act->World->Prop} {E:Prop} {v':Value} (uI:o.guard=none) (s x:Operand) (t:TypeId)
  (ho:o.op=.call { callee:=.builtin .append,args:= #[s,x],argTypes:= #[t,t] }) (v u:Value) (hs:a.eval s=v) (hx:a.eval x=u)
  (hr:(Builtin.append_ #[t,t] o.type #[v,u]).run P w=.ok v' w') (h:K (a.put o.dst v') w'):
  if Region.wanted o (yielded ops a.tmps)=true then Oper.wp P o a w K Q else E:=by
 have hw:Region.wanted o (yielded ops a.tmps)=true:=(by simp[Region.wanted,uI]);rw[Vaf hw];unfold Oper.wp execOp;simp only[ho,resolve,invoke,builtin,Sem.run_bind,Sem.run_pure,Result.andThen_ok,List.map_toArray,Vcj,List.map_nil,hs,hx,hr];exact h
def At (w:World) (A:Option Addr) (vs:List Value):Prop:=
 ∀i (h:i<vs.length),∃b o,A=some ⟨b,o,none⟩/\b<w.heap.size/\w.cell? ⟨b,o+i,none⟩=some vs[i]
theorem At.nil (w:World) (A:Option Addr):At w A []:=λi h=>absurd h (Vc2 _)
theorem At.keep {w w':World} {A:Option Addr} {vs:List Value} {S:Nat->Prop} (h:At w A vs) (hf:Fr S w w') (hS:∀b o,A=some ⟨b,o,none⟩->¬S b):At w' A vs:=by
 intro i hi;obtain⟨b,o,hA,hb,h1⟩:=h i hi;exact⟨b,o,hA,Va5 hb hf.size,(hf.cell (p:=⟨b,_,none⟩) hb (hS b o hA)).trans h1⟩
theorem At.below {w w':World} {A:Option Addr} {vs:List Value} (h:At w A vs) (hb:Below w.heap.size w w'):At w' A vs:=
 h.keep (Fr.of_below (S:=nob) hb) (λ_ _ _ f=>f)
def AtB (B:Nat) (w:World) (A:Option Addr) (vs:List Value):Prop:=
 ∀i (h:i<vs.length),∃b o,A=some ⟨b,o,none⟩/\b<B/\w.cell? ⟨b,o+i,none⟩=some vs[i]
theorem AtB.below {B:Nat} {w w':World} {A:Option Addr} {vs:List Value} (h:AtB B w A vs) (hb:Below B w w'):AtB B w' A vs:=λi hi=>by
 obtain⟨b,o,hA,ab,h1⟩:=h i hi;exact⟨b,o,hA,ab,(hb.cell (p:=⟨b,_,none⟩) ab).trans h1⟩
theorem At.alloc {w:World} {A:Option Addr} {vs:List Value} (h:At w A vs) (o:Obj):At (w.alloc o) A vs:=h.below ((Vae _ _).alloc UZz o)
theorem At.drewN {w:World} {A:Option Addr} {vs:List Value} (h:At w A vs) (n:Nat):At (w.drewN n) A vs:=h
theorem At.drew {w:World} {A:Option Addr} {vs:List Value} (h:At w A vs):At w.drew A vs:=h
theorem At.mono {w w':World} {B:Nat} {A:Option Addr} {vs:List Value} (h:At w A vs) (hB:w.heap.size<=B) (hb:Below B w w'):At w' A vs:=h.below (hb.mono hB)
theorem Zl {w:World} {base e size n:Nat} {v:Value} {xs:List Value} (h:w.ownsRow base e size v n xs):∃A cap,v=.slice A n cap/\At w A xs:=by
 rcases h.2 with ⟨rfl,h0⟩|⟨g,cap,cur,rfl,hb,hg,hc,hm,hs,ht⟩
 ·have hx:xs=[]:=Vaj (by rw[h.1,h0];simp);subst hx;exact⟨none,0,by rw[h0],At.nil _ _⟩
 ·refine⟨_,cap,rfl,λi hi=>⟨g,0,rfl,(Array.getElem?_eq_some_iff.1 hg).1,?_⟩⟩;have hB:Bk w g e cur:=hg;have h1:=h.1;have h2:(cur.toList.take (n*size))[i]? =cur.toList[i]? :=List.getElem?_take_of_lt (by omega);rw[Vbo,hB.cell,<-Array.getElem?_toList,<-h2,ht,Van hi]
theorem Bk.at_ {w:World} {g:Nat} {t:TypeId} {cs:Array Value} (h:Bk w g t cs):At w (some ⟨g,0,none⟩) cs.toList:=λi hi=>⟨g,0,rfl,h.lt,by
 rw[Vbo,h.cell,<-Array.getElem?_toList,Van hi]⟩
def iv (n:Int):Value:=.int .i64 n
def sv (s:ByteArray):Value:=.string s
theorem At.get {w:World} {A:Option Addr} {vs:List Value} (h:At w A vs) (i:Nat) (v:Value) (hv:vs[i]? =some v):∃b o,A=some ⟨b,o,none⟩/\b<w.heap.size/\w.cell? ⟨b,o+i,none⟩=some v:=by
 obtain⟨hi,rfl⟩:=List.getElem?_eq_some_iff.1 hv;exact h i hi
theorem Zk {w:World} {base e size:Nat} :w.ownsRow base e size (.slice none 0 0) 0 []:=⟨by simp,.inl ⟨rfl,rfl⟩⟩
theorem ZjD {p:Prop} (h:Hid p):p:=h.o
end Wv
