import Derived.Test.YtnjkjoklnephcaaGreatDoorF00
import Derived.Laws.OwnMore
import Derived.Deep.AppendLies
import Derived.Deep.Draws
import Derived.Laws.Rows
import Derived.Maps.AppendAt
import Derived.OwnWalk
import Derived.Lib.Hide
import Derived.Laws.IdiomStrings
import Derived.Laws.BytesArg
import Derived.Laws.Bits128
import Derived.Maps.Own
import Derived.MapKept
import Derived.Deep.RegionLaw
import Derived.Deep.Slices
import Derived.ProofKit
import Derived.OpenShut
set_option linter.all false
set_option maxRecDepth 100000
set_option maxHeartbeats 0
section
variable{P Q:Prop}
theorem aO(h:P:=by grind):P:=h
theorem O(h:P:=by omega):P:=h
theorem nk(h:P:=by simp_all):P:=h
theorem Cx(h:P:=by simp[Value.ownBlock]):P:=h
theorem Pa(h:P:=by injection q with b4 c7 g;injection b4 with b4;injection b4 with b4;subst b4;simp[World.frozen?,R]):P:=h
theorem Ns(h:P:=by rcases q.2 with ⟨rfl,rfl⟩|⟨g,cap,l,rfl,_,_,k,_⟩;simp[Builtin.append_,run_underlying ht,Go.sizeOf,typeInfo,hi,Builtin.lenOf,Builtin.firstCells];simp[Builtin.append_,run_underlying ht,Go.sizeOf,typeInfo,hi,Builtin.lenOf,Builtin.firstCells,k,storeCells]):P:=h
end
namespace Wv
open Go Go.RowKit
variable{A:bN}{B base cap e n size:Nat}{a b c:aq}{p:Addr}{row:Option Nat}{v:aI}{vs xs:List aI}
theorem _root_.Go.RowKit.Hid.o{p:Prop}(h:Go.RowKit.Hid p):p:=h
theorem J {p:Prop} (h:p):Hid p:=h
structure Fr (S:Nat->Prop) (w w':World):Prop where
 os:w'.os=w.os
 tape:w'.tape=w.tape
 output:w'.output=w.output
 size:w.heap.size<=w'.heap.size
 block:∀k,k<w.heap.size->¬S k->w'.heap[k]? =w.heap[k]?
def nob:Nat->Prop:=λ_=>False
def only (b:Nat):Nat->Prop:=λk=>k=b
theorem Fr.refl (S:Nat->Prop) (w:aq):Fr S w w:=⟨rfl,rfl,rfl,aU,λ_ _ _=>rfl⟩
theorem Fr.trans {S:Nat->Prop} (h:Fr S a b) (k:Fr S b c):Fr S a c:=
 ⟨k.os.trans h.os,k.tape.trans h.tape,k.output.trans h.output,co h.size k.size,λi hi d=>(k.block i (eg hi h.size) d).trans (h.block i hi d)⟩
theorem Fr.trans' {S T:Nat->Prop} (h:Fr S a b) (k:Fr T b c) (g:∀i,i<a.heap.size->T i->S i):Fr S a c:=
 ⟨k.os.trans h.os,k.tape.trans h.tape,k.output.trans h.output,co h.size k.size,λi hi d=>(k.block i (eg hi h.size) (λt=>d (g i hi t))).trans (h.block i hi d)⟩
theorem Fr.mono {S T:Nat->Prop} {w w':aq} (h:Fr S w w') (j:∀k,S k->T k):Fr T w w':=
 ⟨h.os,h.tape,h.output,h.size,λk d g=>h.block k d (λs=>g (j k s))⟩
theorem Fr.of_nob {S:Nat->Prop} {w w':aq} (h:Fr nob w w'):Fr S w w':=h.mono λ_ f=>f.elim
theorem Fr.drew {S:Nat->Prop} {w:aq} (h:Fr S a w):Fr S a w.drew:=⟨h.os,h.tape,h.output,h.size,h.block⟩
theorem Fr.drewN {S:Nat->Prop} {w:aq} (h:Fr S a w) (n:Nat):Fr S a (w.drewN n):=⟨h.os,h.tape,h.output,h.size,h.block⟩
theorem Fr.alloc {S:Nat->Prop} {w:aq} (h:Fr S a w) (o:Obj):Fr S a (w.alloc o):=
 ⟨h.os,h.tape,h.output,co h.size (by simp),λk d g=>(Below.heap_alloc w o k (eg d h.size)).trans (h.block k d g)⟩
theorem Fr.setCell {S:Nat->Prop} {w:aq} (h:Fr S a w) (j:S p.block\/a<=p.block) (u:aI):Fr S a (w.setCell p u):=
 ⟨h.os,h.tape,h.output,by simpa [World.setCell] using h.size,λk d g=>(Below.heap_setCell w p u k aO).trans (h.block k d g)⟩
theorem Fr.below {S:Nat->Prop} {w w':aq} (h:Fr S a w) (hb:Below w w w'):Fr S a w':=
 h.trans ⟨hb.os,hb.tape,hb.output,hb.size,λk d _=>hb.block k d⟩
theorem Fr.of_below {S:Nat->Prop} {w w':aq} (hb:Below w w w'):Fr S w w':=(Fr.refl S w).below hb
theorem Fr.toBelow {w w':aq} (h:Fr nob w w'):Below w w w':=⟨h.os,h.tape,h.output,h.size,λk d=>h.block k d (λf=>f)⟩
theorem Fr.toBelow' {S:Nat->Prop} {w w':aq} (h:Fr S w w') (j:B<=w) (d:∀k,k<B->¬S k):Below B w w':=
 ⟨h.os,h.tape,h.output,h.size,λk g=>h.block k O (d k g)⟩
theorem Fr.grown {S:Nat->Prop} {w w':aq} (h:Fr S a w) (d:w.grownBy w' row) (l:∀k,row=some k->S k\/a.heap.size<=k):Fr S a w':=
 ⟨d.os.trans h.os,d.tape.trans h.tape,d.output.trans h.output,co h.size d.size,λk g j=>(d.block k (eg g h.size) (λe=>aO)).trans (h.block k g j)⟩
theorem Fr.cell {S:Nat->Prop} {w w':aq} (h:Fr S w w') (d:p.block<w) (g:¬S p.block):w'.cell? p=w.cell? p:=World.cell?_of_block (h.block _ d g)
theorem Fr.frozen {S:Nat->Prop} {w w':aq} (h:Fr S w w') (d:p.block<w) (g:¬S p.block):w'.frozen? p=w.frozen? p:=World.frozen?_of_block (h.block _ d g)
theorem mN {w:aq} (h:Below B a w) (n:Nat):Below B a (w.drewN n):=⟨h.os,h.tape,h.output,h.size,h.block⟩
theorem Mz {W w1:aq} (hb:Below W W w1):(∀b o,b<W.heap.size->w1.cell? ⟨b,o,none⟩=W.cell? ⟨b,o,none⟩)/\(∀b o,b<W.heap.size->w1.frozen? ⟨b,o,none⟩=W.frozen? ⟨b,o,none⟩):=
 ⟨λb o h=>hb.cell (p:=⟨b,o,none⟩) h,λb o h=>hb.frozen (p:=⟨b,o,none⟩) h⟩
def Bk (w:aq) (g:Nat) (t:TypeId) (cs:Array aI):Prop:=w.heap[g]? =some (.cells cs t (0,0))
section
variable {w w':aq} {g:Nat} {t:TypeId} {cs:Array aI}
theorem Bk.lt (h:Bk w g t cs):g<w:=by unfold Bk at h;grind
theorem Bk.cell (h:Bk w g t cs) (i:Nat):w.cell? (g,i)=cs[i]? :=by unfold Bk at h;simp[World.cell?,h]
theorem Bk.frozen (h:Bk w g t cs) (i:Nat):w.frozen? (g,i)=false:=by unfold Bk at h;simp[World.frozen?,h]
theorem Bk.new (w:aq) (t:TypeId) (cs:Array aI):Bk (w.alloc (.cells cs t)) w t cs:=heap_alloc_new w _
theorem Bk.drew (h:Bk w g t cs):Bk w.drew g t cs:=h
theorem Bk.drewN (h:Bk w g t cs) (n:Nat):Bk (w.drewN n) g t cs:=h
theorem Bk.alloc (h:Bk w g t cs) (o:Obj):Bk (w.alloc o) g t cs:=(Below.heap_alloc w o g h.lt).trans h
theorem Bk.put (h:Bk w g t cs) (i:Nat) (u:aI):Bk (w.setCell (g,i) u) g t (cs.setIfInBounds i u):=by unfold Bk at h⊢;simp[World.setCell,Array.getElem?_modify,h]
theorem Bk.off (h:Bk w g t cs) (d:g≠p.block) (u:aI):Bk (w.setCell p u) g t cs:=(Below.heap_setCell w p u g d).trans h
theorem Bk.fr {S:Nat->Prop} (h:Bk w g t cs) (d:Fr S w w') (j:¬S g):Bk w' g t cs:=(d.block g h.lt j).trans h
theorem Bk.below (h:Bk w g t cs) (hb:Below B w w') (d:g<B):Bk w' g t cs:=(hb.block g d).trans h
theorem Bk.grown (h:Bk w g t cs) (hb:w.grownBy w' row) (d:some g≠row):Bk w' g t cs:=(hb.block g h.lt d).trans h
theorem Bk.apart {j:Nat} {k:TypeId} {l:Array aI} (h:Bk w g t cs) (d:Bk w j k l) (p:t≠k):g≠j:=by rintro rfl;unfold Bk at h d;rw[h] at d;injection d with d;injection d with _ q;exact p q
theorem Z1 {e:TypeId} (h:w.ownsRow base e size v n xs) (p:Bk w g t cs) (d:e≠t):v.ownBlock≠some g:=by rcases h.2 with ⟨rfl,_⟩|⟨k,cap,j,rfl,_,q,_⟩;exact Cx;intro l;have:k=g:=(by simpa [Value.ownBlock] using l);subst this;exact Bk.apart (t:=e) q p d rfl
end
theorem Z6 {S:Nat->Prop} {w w':aq} {e:TypeId} (h:w.ownsRow base e size v n xs) (k:Fr S w w') (l:∀g,v.ownBlock=some g->¬S g):w'.ownsRow base e size v n xs:=by refine⟨h.1,?_⟩;rcases h.2 with p|⟨g,cap,d,rfl,hb,j,rest⟩;exact aO;refine .inr ⟨g,cap,d,rfl,hb,?_,rest⟩;rw[k.block g (Array.getElem?_eq_some_iff.1 j).1 (l g rfl)];exact j
theorem K4 {w:aq} {j:Nat} {e:TypeId} (h:w.ownsRow base e size v n xs) (hb:j<=base):w.ownsRow j e size v n xs:=by refine⟨h.1,?_⟩;rcases h.2 with k|⟨g,cap,d,rfl,l,rest⟩;exact aO;exact .inr ⟨g,cap,d,rfl,O,rest⟩
theorem zv {P:Program} {f:FuncId} {args:Array aI} {w:aq} (h:Calls P f args (w.drewN n) λe w'=>e=.returned v/\w.drewN n=w'):
  Calls P f args (w.drewN n) λe d=>e=.returned v/\∃m,d=w.drewN m:=h.mono λ_ _ ⟨g,j⟩=>⟨g,n,j.symm⟩
theorem MR {P:Program} {f:FuncId} {args:Array aI} {w:aq} {a:Nat} (h:Calls P f args (w.drewN (a+n)) λe w'=>e=.returned v/\w.drewN (a+n)=w'):
  Calls P f args (w.drewN (a+n)) λe d=>e=.returned v/\∃m,d=w.drewN (a+m):=h.mono λ_ _ ⟨g,j⟩=>⟨g,n,j.symm⟩
theorem HS {P:Program} {f:FuncId} {args:Array aI} {w:aq} (h:Calls P f args (w.drewN n) λe w'=>e=.returned v/\∃q,w'=(w.drewN n).drewN q):
  Calls P f args (w.drewN n) λe d=>e=.returned v/\∃m,d=w.drewN m:=h.mono λ_ _ ⟨g,q,j⟩=>⟨g,n+q,nk⟩
theorem HV {P:Program} {f:FuncId} {args:Array aI} {w:aq} {a:Nat} (h:Calls P f args (w.drewN (a+n)) λe w'=>e=.returned v/\∃q,w'=(w.drewN (a+n)).drewN q):
  Calls P f args (w.drewN (a+n)) λe d=>e=.returned v/\∃m,d=w.drewN (a+m):=h.mono λ_ _ ⟨g,q,j⟩=>⟨g,n+q,by rw[j,World.drewN_drewN,IG]⟩
theorem HN (n:Int):bits .and .i64 n 1=n % 2:=by have key:(BitVec.ofInt 64 n&&&BitVec.ofInt 64 1).toNat=(n % ((2 ^ 64:Nat):Int)).toNat % 2 ^ 1:=nk;show IntKind.i64.wrap ((BitVec.ofInt 64 n&&&BitVec.ofInt 64 1).toNat:Nat)=n % 2;rw[key,IntKind.wrap_i64];omega
theorem Z9E {P:Program} (g d e:TypeId) (k:P.underlying g=some (.slice e)) (j:P.underlying e=some (.int .u8)) (hd:P.underlying d=some .string) (w:aq) (x:Int):
  (convert g d (.slice (some (w,0)) 1 1)).run P (w.alloc (.cells #[.int .u8 x] e))=.ok (.string ⟨#[UInt8.ofNat x.toNat]⟩) (w.alloc (.cells #[.int .u8 x] e)):=by have:=run_convert_bytes_arg (P:=P) (w.alloc (.cells #[.int .u8 x] e)) g e k j w 0 1 1 [x] rfl (λi hi=>nk) d hd;rw[this];rfl
theorem Y5 {P:Program} (t e:TypeId) (z:aI) (bytes:Nat) (p:P.underlying t=some (.slice e)) (d:(P.info? e).map (λi=>(i.zero,i.size,i.bytes))=some (some z,1,bytes)) (g:z.cells= #[z])
  (m:Int) (n:Nat) (j:m=n) (hb:bytes*n<=281474976710656) (B:n<=9223372036854775807) (w:aq):
  (Instr.makeSlice t m m).run P w=.ok (.slice (some (w,0)) n n) (w.alloc (.cells (Array.replicate n z) e)):=by obtain⟨i,hi,q,l,y⟩:=info_parts d;subst j;have u:(i.bytes:Int)*(n:Int)<=281474976710656:=aO;have k:=run_make (P:=P) w t e i z p hi q .i64 .i64 (n:Int) (n:Int) O O u O;rw[k,ep,l,g];congr 3;apply Array.ext;simp[madeCells];simp[madeCells,Nat.mod_one]
def bv (b:cj):aI:=.int .u8 (b.toNat:Int)
def bc (l:ax):Array aI:=(l.map bv).toArray
theorem LX (l:ax) (i:Nat) (h:i<l):(bc l)[i]? =some (.int .u8 (l[i].toNat:Int)):=by simp[bc,bv,fb h]
theorem P7 (l:ax) (i:Nat) (x:Int) (h0:0<=x) (h1:x<256):(bc l).setIfInBounds i (.int .u8 x)=bc (l.set i (UInt8.ofNat x.toNat)):=by
 have:(.int .u8 x:aI)=bv (UInt8.ofNat x.toNat):=by unfold bv;have:x.toNat<256:=O;simp[Nat.mod_eq_of_lt this];omega
 rw[this];simp[bc,List.map_set]
theorem Z64 (n:Nat):Array.replicate n (.int .u8 0:aI)=bc (List.replicate n 0):=by simp[bc,bv]
theorem Zi3 {P:Program} (k d e:TypeId) (u:P.underlying k=some (.slice e)) (p:P.underlying e=some (.int .u8)) (hd:P.underlying d=some .string) (w:aq) (g n cap:Nat) (l r:ax)
  (hb:Bk w g e (bc (l++r))) (t:n=l):
  (convert k d (.slice (some (g,0)) n cap)).run P w=.ok (.string ⟨l.toArray⟩) w:=by subst t;refine run_convert_bytes_back w k d e ⟨g,0,none⟩ cap l u p hd (λj q=> ?_);have:(⟨g,0,none⟩:Addr).add j=⟨g,j,none⟩:=(by unfold Addr.add;grind);rw[this,hb.cell,LX (l++r) j aO,IF q]
theorem U_ {P:Program} {k:TypeId} {d:IntKind} (g:P.underlying k=some (.int d)) (e:Bool) (x:Int) (W:aq):(Instr.checkKey e 10000 k (.int d x)).run P W=.ok () W:=
 MapKept.run_checkKey (w:=W) g (show MapKept.IsKey (.int d) (.int d x) from rfl) e 9999
theorem Zg5 (w:aq) (o d:Obj):({ (w.alloc o) with heap:=(w.alloc o).heap.setIfInBounds w d } :aq)=w.alloc d:=by have h:(w.heap.push o).setIfInBounds w d=w.heap.push d:=aO;show({ w with heap:=(w.heap.push o).setIfInBounds w d } :aq)= { w with heap:=w.heap.push d };rw[h]
theorem Zn {P:Program} {t k e:TypeId} {d:IntKind} (p:P.underlying t=some (.map k e)) (g:P.underlying k=some (.int d)) (w:aq) (es:Array MapEntry) (c:Nat) (x:Int) (v:aI)
  (l:Instr.findNow (.int d) (.int d x) es.toList 0=some none):
  (Instr.mapUpdate t (.map (some w.heap.size)) (.int d x) v).run P (w.alloc (.map es c))=.ok () (w.alloc (.map (es.push ⟨.int d x,v,c⟩) (c+1))):=by have h1:(w.alloc (.map es c)).heap[w.heap.size]? =some (.map es c):=heap_alloc_new w _;have j:=λo=>MapKept.run_setObj_map (P:=P) o h1;unfold Instr.mapUpdate;simp only[Sem.run_bind,run_underlying p,Result.andThen_ok,MapKept.run_getObj_map h1,U_ g,MapKept.run_findKey g l,j,Zg5]
theorem Zbu {P:Program} {t k e:TypeId} {d:IntKind} (p:P.underlying t=some (.map k e)) (g:P.underlying k=some (.int d)) (w:aq) (r:Nat) (es:Array MapEntry) (c:Nat) (x:Int) (i:Nat) (v:aI)
  (l:w.heap[r]? =some (.map es c)) (j:Instr.findNow (.int d) (.int d x) es.toList 0=some (some (i,v))):
  (Instr.lookup t (.map (some r)) (.int d x) true).run P w=.ok (.tuple #[v,true]) w:=by unfold Instr.lookup;simp only[Sem.run_bind,Sem.run_pure,run_underlying p,Result.andThen_ok,MapKept.run_getObj_map l,U_ g,MapKept.run_findKey g j];rfl
theorem Dd {w:aq} {g:Nat} {e:TypeId} (h:w.ownsRow base e 1 (.slice (some (g,0)) n cap) n xs) (i:Nat) (hi:i<n) (u:aI):
  (w.setCell (g,i) u).ownsRow base e 1 (.slice (some (g,0)) n cap) n (xs.set i u):=by refine⟨by rw[od];exact h.1,?_⟩;rcases h.2 with ⟨F,_⟩|⟨E,z,j,q,hb,p,t,y,D,k⟩;exact O;injection q with d B l;injection d with d;injection d with d;subst d;subst l;refine .inr ⟨g,cap,j.setIfInBounds i u,rfl,hb,?_,t,y,aO,?_⟩;simp[World.setCell,Array.getElem?_modify,p];rw[<-k,Array.toList_setIfInBounds,List.take_set]
theorem Zq {w:aq} {e:TypeId} (h:w.ownsRow base e size v n xs) (d:v.ownBlock≠some p.block) (u:aI):(w.setCell p u).ownsRow base e size v n xs:=
 Z6 h ((Fr.refl (λk=>k=p.block) w).setCell (.inl rfl) u) (λg j e=>d aO)
theorem C9 {w:aq} {g:Nat} {e:TypeId} (h:w.ownsRow base e 1 (.slice (some (g,0)) n cap) n xs) (i:Nat) (u:aI) (j:xs[i]? =some u):
  w.cell? (g,i)=some u/\w.frozen? (g,i)=false:=by have h1:=h.cells (g:=g) rfl i u j;have:(⟨g,0,none⟩:Addr).add i=⟨g,i,none⟩:=(by unfold Addr.add;grind);rw[this] at h1;refine⟨h1,?_⟩;rcases h.2 with ⟨p,_⟩|⟨l,k,d,q,hb,R,_⟩;exact aO;exact Pa
theorem C' {w:aq} {e:TypeId} (h:w.ownsRow base e 1 v n xs) (t:0<n):∃g cap,v=.slice (some ⟨g,0,none⟩) n cap/\n<=cap:=by rcases h.2 with ⟨_,l⟩|⟨k,j,d,u,hb,q,p,_⟩;exact O;grind
theorem Ql (w:aq) (t:TypeId) (v:aI):∀(j:Nat) (u:aI),[v][j]? =some u->(w.alloc (.cells #[v] t)).cell? ((⟨w,0,none⟩:Addr).add j)=some u:=by
 intro j u d;cases j with
 |zero=>simp at d;subst d;have:(⟨w,0,none⟩:Addr).add 0=⟨w,0,none⟩:=rfl;rw[this,cell_of_row _ _ _ _ _ _ (heap_alloc_new w _)];rfl
 |succ j=>exact aO
def foot (b:Nat) (dv:aI):Nat->Prop:=λk=>k=b\/dv.ownBlock=some k
theorem Znq {P:Program} {w:aq} (t B e:TypeId) (z:aI) (bytes:Nat) (ht:P.underlying t=some (.slice e)) (D:(P.info? e).map (λi=>(i.zero,i.size,i.bytes))=some (some z,1,bytes)) (I:z.cells.size=1) {F:Nat} {u:aI} {m:Nat} {j:List aI} (q:w.ownsRow base e 1 v n xs) (p:w.ownsRow F e 1 u m j) (h1:∀y∈j,y.oneCell'=true)
  (M:n+m<=maxLen) (E:(n+m)*bytes<=140737488355328) (G:base<=w):
  ∃d w',(Builtin.append_ #[t,t] B #[v,u]).run P w=.ok d w'/\w'.ownsRow base e 1 d (n+m) (xs++j)/\w.grownBy w' v.ownBlock/\(d.ownBlock=v.ownBlock\/d.ownBlock=some w.heap.size):=by obtain⟨i,hi,a4,a2,L⟩:=info_parts D;rcases p.2 with ⟨rfl,a0⟩|⟨g,cap,l,rfl,hb,a7,k,a8,a6,a5⟩;subst a0;have a3:j=[]:=ia (by simpa using p.1);subst a3;refine⟨v,w,?_,by simpa using q,⟨rfl,rfl,rfl,aU,λ_ _ _=>rfl⟩,.inl rfl⟩;exact Ns;obtain⟨d,w',a1,Q,R,_,S⟩:=run_append_own_at (P:=P) w base t B e i z 1 bytes ht hi a4 a2 L I O v n xs q ⟨g,0,none⟩ m cap j p.1 (p.cells (g:=g) rfl) h1 M E G;exact⟨d,w',a1,Q,R,S⟩
theorem Z7 {w:aq} {e:TypeId} (h:w.ownsRow base e size v n xs):∃A M cap,v=.slice A M cap:=by rcases h.2 with ⟨j,_⟩|⟨g,cap,d,k,_⟩;exact⟨_,_,_,j⟩;exact⟨_,_,_,k⟩
theorem Z9F {P:Program} (k d e:TypeId) (u:P.underlying k=some (.slice e)) (p:P.underlying e=some (.int .u8)) (hd:P.underlying d=some .string) {w:aq} {g:Nat} {l:ax}
  (h:w.ownsRow base e 1 (.slice (some (g,0)) n cap) n (l.map bv)):(convert k d (.slice (some (g,0)) n cap)).run P w=.ok (.string ⟨l.toArray⟩) w:=by have t:n=l:=(by have:=h.1;simpa using this.symm);subst t;refine run_convert_bytes_back w k d e ⟨g,0,none⟩ cap l u p hd (λj q=> ?_);exact h.cells (g:=g) rfl j _ (by rw[jX,fb q];rfl)
theorem YG {P:Program} {d:Array Oper} {o:Oper} {a:Act} {w w':aq} {K:Act->aq->Prop} {Q:Exit->Act->aq->Prop} {E:Prop} {g:aI} (y:o.guard=none) (s x:Operand) (t:TypeId)
  (j:o.op=.call { callee:=.builtin .append,args:= #[s,x],argTypes:= #[t,t] }) (v u:aI) (l:a.eval s=v) (q:a.eval x=u)
  (k:(Builtin.append_ #[t,t] o.type #[v,u]).run P w=.ok g w') (h:K (a.put o.dst g) w'):
  if Region.wanted o (yielded d a.tmps)=true then Oper.wp P o a w K Q else E:=by have p:Region.wanted o (yielded d a.tmps)=true:=(by simp[Region.wanted,y]);rw[Vag p];unfold Oper.wp execOp;simp only[j,resolve,invoke,builtin,Sem.run_bind,Sem.run_pure,Result.andThen_ok,List.map_toArray,tR,List.map_nil,l,q,k];exact h
def At (w:aq) (A:bN) (vs:List aI):Prop:=
 ∀i (h:i<vs.length),∃b o,A=some ⟨b,o,none⟩/\b<w.heap.size/\w.cell? ⟨b,o+i,none⟩=some vs[i]
theorem At.nil (w:aq) (A:bN):At w A []:=λi h=>absurd h (vL _)
theorem At.keep {w w':aq} {S:Nat->Prop} (h:At w A vs) (g:Fr S w w') (j:∀b o,A=some ⟨b,o,none⟩->¬S b):At w' A vs:=by intro i hi;obtain⟨b,o,d,hb,h1⟩:=h i hi;exact⟨b,o,d,eg hb g.size,(g.cell (p:=⟨b,_,none⟩) hb (j b o d)).trans h1⟩
theorem At.below {w w':aq} (h:At w A vs) (hb:Below w w w'):At w' A vs:=
 h.keep (Fr.of_below (S:=nob) hb) (λ_ _ _ f=>f)
def Ii (B:Nat) (w:aq) (A:bN) (vs:List aI):Prop:=
 ∀i (h:i<vs.length),∃b o,A=some ⟨b,o,none⟩/\b<B/\w.cell? ⟨b,o+i,none⟩=some vs[i]
theorem Ii.below {w w':aq} (h:Ii B w A vs) (hb:Below B w w'):Ii B w' A vs:=λi hi=>by obtain⟨b,o,d,ab,h1⟩:=h i hi;exact⟨b,o,d,ab,(hb.cell (p:=⟨b,_,none⟩) ab).trans h1⟩
theorem At.alloc {w:aq} (h:At w A vs) (o:Obj):At (w.alloc o) A vs:=h.below ((bf _ _).alloc aU o)
theorem At.drewN {w:aq} (h:At w A vs) (n:Nat):At (w.drewN n) A vs:=h
theorem At.drew {w:aq} (h:At w A vs):At w.drew A vs:=h
theorem At.mono {w w':aq} (h:At w A vs) (d:w<=B) (hb:Below B w w'):At w' A vs:=h.below (hb.mono d)
theorem Zh {w:aq} (h:w.ownsRow base e size v n xs):∃A cap,v=.slice A n cap/\At w A xs:=by rcases h.2 with ⟨rfl,h0⟩|⟨g,cap,d,rfl,hb,j,t,u,y,p⟩;have q:xs=[]:=ia (by rw[h.1,h0];simp);subst q;exact⟨none,0,aO,At.nil _ _⟩;refine⟨_,cap,rfl,λi hi=>⟨g,0,rfl,(Array.getElem?_eq_some_iff.1 j).1,?_⟩⟩;have l:Bk w g e d:=j;have h1:=h.1;have k:(d.toList.take (n*size))[i]? =d.toList[i]? :=List.getElem?_take_of_lt O;rw[jK,l.cell,<-Array.getElem?_toList,<-k,p,fb hi]
theorem Bk.at_ {w:aq} {g:Nat} {t:TypeId} {cs:Array aI} (h:Bk w g t cs):At w (some ⟨g,0,none⟩) cs.toList:=λi hi=>⟨g,0,rfl,h.lt,by rw[jK,h.cell,<-Array.getElem?_toList,fb hi]⟩
def iv (n:Int):aI:=.int .i64 n
def sv (s:aT):aI:=.string s
theorem At.get {w:aq} (h:At w A vs) (i:Nat) (v:aI) (d:vs[i]? =some v):∃b o,A=some ⟨b,o,none⟩/\b<w.heap.size/\w.cell? ⟨b,o+i,none⟩=some v:=by obtain⟨hi,rfl⟩:=List.getElem?_eq_some_iff.1 d;exact h i hi
theorem Zl {w:aq} :w.ownsRow base e size (.slice none 0 0) 0 []:=⟨by simp,.inl ⟨rfl,rfl⟩⟩
theorem Zpb {p:Prop} (h:Hid p):p:=h.o
