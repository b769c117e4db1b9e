import Derived.Test.YtikecoijpkmnbaaGreatDoorJ00
import Derived.Laws.OwnMore
import Derived.Deep.AppendLies
import Derived.Deep.Draws
import Derived.Laws.Rows
import Derived.Maps.AppendAt
import Derived.OwnWalk
import Derived.Lib.Hide
import Derived.Laws.IdiomStrings
import Derived.Laws.BytesArg
import Derived.Laws.Bits128
import Derived.Maps.Own
import Derived.MapKept
import Derived.Deep.RegionLaw
import Derived.Deep.Slices
import Derived.ProofKit
import Derived.OpenShut
set_option linter.all false
set_option maxRecDepth 100000
set_option maxHeartbeats 0
section
variable{P Q:Prop}
theorem aO(h:P:=by grind):P:=h
theorem O(h:P:=by omega):P:=h
theorem nk(h:P:=by simp_all):P:=h
theorem W4f(h:P:=by simp[Value.ownBlock]):P:=h
theorem Pa(h:P:=by injection q with b4 c7 g;injection b4 with b4;injection b4 with b4;subst b4;simp[World.frozen?,R]):P:=h
theorem Ns(h:P:=by rcases q.2 with ⟨rfl,rfl⟩|⟨g,cap,l,rfl,_,_,k,_⟩;simp[Builtin.append_,run_underlying ht,Go.sizeOf,typeInfo,hi,Builtin.lenOf,Builtin.firstCells];simp[Builtin.append_,run_underlying ht,Go.sizeOf,typeInfo,hi,Builtin.lenOf,Builtin.firstCells,k,storeCells]):P:=h
end
namespace Wv
open Go Go.RowKit
variable{A:Wto}{B base cap e n size:Nat}{a b c:aq}{p:Addr}{row:Option Nat}{v:aI}{vs xs:List aI}
theorem _root_.Go.RowKit.Hid.o{p:Prop}(h:Go.RowKit.Hid p):p:=h
theorem J {p:Prop} (h:p):Hid p:=h
structure Fr (S:Nat->Prop) (w w':World):Prop where
 os:w'.os=w.os
 tape:w'.tape=w.tape
 output:w'.output=w.output
 size:w.heap.size<=w'.heap.size
 block:∀k,k<w.heap.size->¬S k->w'.heap[k]? =w.heap[k]?
def nob:Nat->Prop:=λ_=>False
def only (b:Nat):Nat->Prop:=λk=>k=b
theorem Fr.refl (S:Nat->Prop) (w:aq):Fr S w w:=⟨rfl,rfl,rfl,aU,λ_ _ _=>rfl⟩
theorem Fr.trans {S:Nat->Prop} (h:Fr S a b) (k:Fr S b c):Fr S a c:=
 ⟨k.os.trans h.os,k.tape.trans h.tape,k.output.trans h.output,co h.size k.size,λi hi g=>(k.block i (Vas hi h.size) g).trans (h.block i hi g)⟩
theorem Fr.trans' {S T:Nat->Prop} (h:Fr S a b) (k:Fr T b c) (l:∀i,i<a.heap.size->T i->S i):Fr S a c:=
 ⟨k.os.trans h.os,k.tape.trans h.tape,k.output.trans h.output,co h.size k.size,λi hi g=>(k.block i (Vas hi h.size) (λt=>g (l i hi t))).trans (h.block i hi g)⟩
theorem Fr.mono {S T:Nat->Prop} {w w':aq} (h:Fr S w w') (p:∀k,S k->T k):Fr T w w':=
 ⟨h.os,h.tape,h.output,h.size,λk g l=>h.block k g (λs=>l (p k s))⟩
theorem Fr.of_nob {S:Nat->Prop} {w w':aq} (h:Fr nob w w'):Fr S w w':=h.mono λ_ f=>f.elim
theorem Fr.drew {S:Nat->Prop} {w:aq} (h:Fr S a w):Fr S a w.drew:=⟨h.os,h.tape,h.output,h.size,h.block⟩
theorem Fr.drewN {S:Nat->Prop} {w:aq} (h:Fr S a w) (n:Nat):Fr S a (w.drewN n):=⟨h.os,h.tape,h.output,h.size,h.block⟩
theorem Fr.alloc {S:Nat->Prop} {w:aq} (h:Fr S a w) (o:Obj):Fr S a (w.alloc o):=
 ⟨h.os,h.tape,h.output,co h.size (by simp),λk g l=>(Below.heap_alloc w o k (Vas g h.size)).trans (h.block k g l)⟩
theorem Fr.setCell {S:Nat->Prop} {w:aq} (h:Fr S a w) (q:S p.block\/a<=p.block) (u:aI):Fr S a (w.setCell p u):=
 ⟨h.os,h.tape,h.output,by simpa [World.setCell] using h.size,λk g l=>(Below.heap_setCell w p u k aO).trans (h.block k g l)⟩
theorem Fr.below {S:Nat->Prop} {w w':aq} (h:Fr S a w) (hb:Below w w w'):Fr S a w':=
 h.trans ⟨hb.os,hb.tape,hb.output,hb.size,λk g _=>hb.block k g⟩
theorem Fr.of_below {S:Nat->Prop} {w w':aq} (hb:Below w w w'):Fr S w w':=(Fr.refl S w).below hb
theorem Fr.toBelow {w w':aq} (h:Fr nob w w'):Below w w w':=⟨h.os,h.tape,h.output,h.size,λk g=>h.block k g (λf=>f)⟩
theorem Fr.toBelow' {S:Nat->Prop} {w w':aq} (h:Fr S w w') (p:B<=w) (g:∀k,k<B->¬S k):Below B w w':=
 ⟨h.os,h.tape,h.output,h.size,λk l=>h.block k O (g k l)⟩
theorem Fr.grown {S:Nat->Prop} {w w':aq} (h:Fr S a w) (g:w.grownBy w' row) (q:∀k,row=some k->S k\/a.heap.size<=k):Fr S a w':=
 ⟨g.os.trans h.os,g.tape.trans h.tape,g.output.trans h.output,co h.size g.size,λk l p=>(g.block k (Vas l h.size) (λe=>aO)).trans (h.block k l p)⟩
theorem Fr.cell {S:Nat->Prop} {w w':aq} (h:Fr S w w') (g:p.block<w) (k:¬S p.block):w'.cell? p=w.cell? p:=World.cell?_of_block (h.block _ g k)
theorem Fr.frozen {S:Nat->Prop} {w w':aq} (h:Fr S w w') (g:p.block<w) (k:¬S p.block):w'.frozen? p=w.frozen? p:=World.frozen?_of_block (h.block _ g k)
theorem mN {w:aq} (h:Below B a w) (n:Nat):Below B a (w.drewN n):=⟨h.os,h.tape,h.output,h.size,h.block⟩
theorem Mz {W w1:aq} (hb:Below W W w1):(∀b o,b<W.heap.size->w1.cell? ⟨b,o,none⟩=W.cell? ⟨b,o,none⟩)/\(∀b o,b<W.heap.size->w1.frozen? ⟨b,o,none⟩=W.frozen? ⟨b,o,none⟩):=
 ⟨λb o h=>hb.cell (p:=⟨b,o,none⟩) h,λb o h=>hb.frozen (p:=⟨b,o,none⟩) h⟩
def Bk (w:aq) (g:Nat) (t:TypeId) (cs:Array aI):Prop:=w.heap[g]? =some (.cells cs t (0,0))
section
variable {w w':aq} {g:Nat} {t:TypeId} {cs:Array aI}
theorem Bk.lt (h:Bk w g t cs):g<w:=by unfold Bk at h;grind
theorem Bk.cell (h:Bk w g t cs) (i:Nat):w.cell? (g,i)=cs[i]? :=by unfold Bk at h;simp[World.cell?,h]
theorem Bk.frozen (h:Bk w g t cs) (i:Nat):w.frozen? (g,i)=false:=by unfold Bk at h;simp[World.frozen?,h]
theorem Bk.new (w:aq) (t:TypeId) (cs:Array aI):Bk (w.alloc (.cells cs t)) w t cs:=heap_alloc_new w _
theorem Bk.drew (h:Bk w g t cs):Bk w.drew g t cs:=h
theorem Bk.drewN (h:Bk w g t cs) (n:Nat):Bk (w.drewN n) g t cs:=h
theorem Bk.alloc (h:Bk w g t cs) (o:Obj):Bk (w.alloc o) g t cs:=(Below.heap_alloc w o g h.lt).trans h
theorem Bk.put (h:Bk w g t cs) (i:Nat) (u:aI):Bk (w.setCell (g,i) u) g t (cs.setIfInBounds i u):=by unfold Bk at h⊢;simp[World.setCell,Array.getElem?_modify,h]
theorem Bk.off (h:Bk w g t cs) (k:g≠p.block) (u:aI):Bk (w.setCell p u) g t cs:=(Below.heap_setCell w p u g k).trans h
theorem Bk.fr {S:Nat->Prop} (h:Bk w g t cs) (k:Fr S w w') (l:¬S g):Bk w' g t cs:=(k.block g h.lt l).trans h
theorem Bk.below (h:Bk w g t cs) (hb:Below B w w') (k:g<B):Bk w' g t cs:=(hb.block g k).trans h
theorem Bk.grown (h:Bk w g t cs) (hb:w.grownBy w' row) (k:some g≠row):Bk w' g t cs:=(hb.block g h.lt k).trans h
theorem Bk.apart {l:Nat} {p:TypeId} {q:Array aI} (h:Bk w g t cs) (k:Bk w l p q) (u:t≠p):g≠l:=by rintro rfl;unfold Bk at h k;rw[h] at k;injection k with k;injection k with _ y;exact u y
theorem Z1 {e:TypeId} (h:w.ownsRow base e size v n xs) (u:Bk w g t cs) (k:e≠t):v.ownBlock≠some g:=by rcases h.2 with ⟨rfl,_⟩|⟨p,cap,l,rfl,_,y,_⟩;exact W4f;intro q;have:p=g:=(by simpa [Value.ownBlock] using q);subst this;exact Bk.apart (t:=e) y u k rfl
end
theorem Z6 {S:Nat->Prop} {w w':aq} {e:TypeId} (h:w.ownsRow base e size v n xs) (p:Fr S w w') (q:∀g,v.ownBlock=some g->¬S g):w'.ownsRow base e size v n xs:=by refine⟨h.1,?_⟩;rcases h.2 with t|⟨g,cap,k,rfl,hb,l,rest⟩;exact aO;refine .inr ⟨g,cap,k,rfl,hb,?_,rest⟩;rw[p.block g (Array.getElem?_eq_some_iff.1 l).1 (q g rfl)];exact l
theorem K4 {w:aq} {l:Nat} {e:TypeId} (h:w.ownsRow base e size v n xs) (hb:l<=base):w.ownsRow l e size v n xs:=by refine⟨h.1,?_⟩;rcases h.2 with p|⟨g,cap,k,rfl,q,rest⟩;exact aO;exact .inr ⟨g,cap,k,rfl,O,rest⟩
theorem dq1 {P:Program} {f:FuncId} {args:Array aI} {w:aq} (h:Calls P f args (w.drewN n) λe w'=>e=.returned v/\w.drewN n=w'):
  Calls P f args (w.drewN n) λe g=>e=.returned v/\∃m,g=w.drewN m:=h.mono λ_ _ ⟨k,l⟩=>⟨k,n,l.symm⟩
theorem MR {P:Program} {f:FuncId} {args:Array aI} {w:aq} {a:Nat} (h:Calls P f args (w.drewN (a+n)) λe w'=>e=.returned v/\w.drewN (a+n)=w'):
  Calls P f args (w.drewN (a+n)) λe g=>e=.returned v/\∃m,g=w.drewN (a+m):=h.mono λ_ _ ⟨k,l⟩=>⟨k,n,l.symm⟩
theorem HS {P:Program} {f:FuncId} {args:Array aI} {w:aq} (h:Calls P f args (w.drewN n) λe w'=>e=.returned v/\∃q,w'=(w.drewN n).drewN q):
  Calls P f args (w.drewN n) λe g=>e=.returned v/\∃m,g=w.drewN m:=h.mono λ_ _ ⟨k,q,l⟩=>⟨k,n+q,nk⟩
theorem dq4 {P:Program} {f:FuncId} {args:Array aI} {w:aq} {a:Nat} (h:Calls P f args (w.drewN (a+n)) λe w'=>e=.returned v/\∃q,w'=(w.drewN (a+n)).drewN q):
  Calls P f args (w.drewN (a+n)) λe g=>e=.returned v/\∃m,g=w.drewN (a+m):=h.mono λ_ _ ⟨k,q,l⟩=>⟨k,n+q,by rw[l,World.drewN_drewN,IG]⟩
theorem HN (n:Int):bits .and .i64 n 1=n % 2:=by have key:(BitVec.ofInt 64 n&&&BitVec.ofInt 64 1).toNat=(n % ((2 ^ 64:Nat):Int)).toNat % 2 ^ 1:=nk;show IntKind.i64.wrap ((BitVec.ofInt 64 n&&&BitVec.ofInt 64 1).toNat:Nat)=n % 2;rw[key,IntKind.wrap_i64];omega
theorem U3 {P:Program} (k g e:TypeId) (p:P.underlying k=some (.slice e)) (l:P.underlying e=some (.int .u8)) (hd:P.underlying g=some .string) (w:aq) (x:Int):
  (convert k g (.slice (some (w,0)) 1 1)).run P (w.alloc (.cells #[.int .u8 x] e))=.ok (.string ⟨#[UInt8.ofNat x.toNat]⟩) (w.alloc (.cells #[.int .u8 x] e)):=by have:=run_convert_bytes_arg (P:=P) (w.alloc (.cells #[.int .u8 x] e)) k e p l w 0 1 1 [x] rfl (λi hi=>nk) g hd;rw[this];rfl
theorem Y5 {P:Program} (t e:TypeId) (z:aI) (bytes:Nat) (u:P.underlying t=some (.slice e)) (g:(P.info? e).map (λi=>(i.zero,i.size,i.bytes))=some (some z,1,bytes)) (k:z.cells= #[z])
  (m:Int) (n:Nat) (l:m=n) (hb:bytes*n<=281474976710656) (E:n<=9223372036854775807) (w:aq):
  (Instr.makeSlice t m m).run P w=.ok (.slice (some (w,0)) n n) (w.alloc (.cells (Array.replicate n z) e)):=by obtain⟨i,hi,y,q,D⟩:=info_parts g;subst l;have B:(i.bytes:Int)*(n:Int)<=281474976710656:=aO;have p:=run_make (P:=P) w t e i z u hi y .i64 .i64 (n:Int) (n:Int) O O B O;rw[p,ep,q,k];congr 3;apply Array.ext;simp[madeCells];simp[madeCells,Nat.mod_one]
def bv (b:cj):aI:=.int .u8 (b.toNat:Int)
def bc (l:ax):Array aI:=(l.map bv).toArray
theorem LX (l:ax) (i:Nat) (h:i<l):(bc l)[i]? =some (.int .u8 (l[i].toNat:Int)):=by simp[bc,bv,fb h]
theorem P7 (l:ax) (i:Nat) (x:Int) (h0:0<=x) (h1:x<256):(bc l).setIfInBounds i (.int .u8 x)=bc (l.set i (UInt8.ofNat x.toNat)):=by
 have:(.int .u8 x:aI)=bv (UInt8.ofNat x.toNat):=by unfold bv;have:x.toNat<256:=O;simp[Nat.mod_eq_of_lt this];omega
 rw[this];simp[bc,List.map_set]
theorem Z64 (n:Nat):Array.replicate n (.int .u8 0:aI)=bc (List.replicate n 0):=by simp[bc,bv]
theorem Zi3 {P:Program} (p k e:TypeId) (y:P.underlying p=some (.slice e)) (q:P.underlying e=some (.int .u8)) (hd:P.underlying k=some .string) (w:aq) (g n cap:Nat) (l r:ax)
  (hb:Bk w g e (bc (l++r))) (u:n=l):
  (convert p k (.slice (some (g,0)) n cap)).run P w=.ok (.string ⟨l.toArray⟩) w:=by subst u;refine run_convert_bytes_back w p k e ⟨g,0,none⟩ cap l y q hd (λj t=> ?_);have:(⟨g,0,none⟩:Addr).add j=⟨g,j,none⟩:=(by unfold Addr.add;grind);rw[this,hb.cell,LX (l++r) j aO,IF t]
theorem U_ {P:Program} {k:TypeId} {g:IntKind} (l:P.underlying k=some (.int g)) (e:Bool) (x:Int) (W:aq):(Instr.checkKey e 10000 k (.int g x)).run P W=.ok () W:=
 MapKept.run_checkKey (w:=W) l (show MapKept.IsKey (.int g) (.int g x) from rfl) e 9999
theorem Zg5 (w:aq) (o g:Obj):({ (w.alloc o) with heap:=(w.alloc o).heap.setIfInBounds w g } :aq)=w.alloc g:=by have h:(w.heap.push o).setIfInBounds w g=w.heap.push g:=aO;show({ w with heap:=(w.heap.push o).setIfInBounds w g } :aq)= { w with heap:=w.heap.push g };rw[h]
theorem Zn {P:Program} {t k e:TypeId} {g:IntKind} (u:P.underlying t=some (.map k e)) (l:P.underlying k=some (.int g)) (w:aq) (es:Array MapEntry) (c:Nat) (x:Int) (v:aI)
  (q:Instr.findNow (.int g) (.int g x) es.toList 0=some none):
  (Instr.mapUpdate t (.map (some w.heap.size)) (.int g x) v).run P (w.alloc (.map es c))=.ok () (w.alloc (.map (es.push ⟨.int g x,v,c⟩) (c+1))):=by have h1:(w.alloc (.map es c)).heap[w.heap.size]? =some (.map es c):=heap_alloc_new w _;have p:=λo=>MapKept.run_setObj_map (P:=P) o h1;unfold Instr.mapUpdate;simp only[Sem.run_bind,run_underlying u,Result.andThen_ok,MapKept.run_getObj_map h1,U_ l,MapKept.run_findKey l q,p,Zg5]
theorem Zbu {P:Program} {t k e:TypeId} {g:IntKind} (u:P.underlying t=some (.map k e)) (l:P.underlying k=some (.int g)) (w:aq) (r:Nat) (es:Array MapEntry) (c:Nat) (x:Int) (i:Nat) (v:aI)
  (q:w.heap[r]? =some (.map es c)) (p:Instr.findNow (.int g) (.int g x) es.toList 0=some (some (i,v))):
  (Instr.lookup t (.map (some r)) (.int g x) true).run P w=.ok (.tuple #[v,true]) w:=by unfold Instr.lookup;simp only[Sem.run_bind,Sem.run_pure,run_underlying u,Result.andThen_ok,MapKept.run_getObj_map q,U_ l,MapKept.run_findKey l p];rfl
theorem Dd {w:aq} {g:Nat} {e:TypeId} (h:w.ownsRow base e 1 (.slice (some (g,0)) n cap) n xs) (i:Nat) (hi:i<n) (u:aI):
  (w.setCell (g,i) u).ownsRow base e 1 (.slice (some (g,0)) n cap) n (xs.set i u):=by refine⟨by rw[od];exact h.1,?_⟩;rcases h.2 with ⟨I,_⟩|⟨G,D,l,y,hb,t,z,B,F,p⟩;exact O;injection y with k E q;injection k with k;injection k with k;subst k;subst q;refine .inr ⟨g,cap,l.setIfInBounds i u,rfl,hb,?_,z,B,aO,?_⟩;simp[World.setCell,Array.getElem?_modify,t];rw[<-p,Array.toList_setIfInBounds,List.take_set]
theorem Zq {w:aq} {e:TypeId} (h:w.ownsRow base e size v n xs) (l:v.ownBlock≠some p.block) (u:aI):(w.setCell p u).ownsRow base e size v n xs:=
 Z6 h ((Fr.refl (λk=>k=p.block) w).setCell (.inl rfl) u) (λg q e=>l aO)
theorem C9 {w:aq} {g:Nat} {e:TypeId} (h:w.ownsRow base e 1 (.slice (some (g,0)) n cap) n xs) (i:Nat) (u:aI) (l:xs[i]? =some u):
  w.cell? (g,i)=some u/\w.frozen? (g,i)=false:=by have h1:=h.cells (g:=g) rfl i u l;have:(⟨g,0,none⟩:Addr).add i=⟨g,i,none⟩:=(by unfold Addr.add;grind);rw[this] at h1;refine⟨h1,?_⟩;rcases h.2 with ⟨y,_⟩|⟨t,p,k,q,hb,R,_⟩;exact aO;exact Pa
theorem C' {w:aq} {e:TypeId} (h:w.ownsRow base e 1 v n xs) (y:0<n):∃g cap,v=.slice (some ⟨g,0,none⟩) n cap/\n<=cap:=by rcases h.2 with ⟨_,q⟩|⟨p,l,k,z,hb,u,t,_⟩;exact O;grind
theorem Ql (w:aq) (t:TypeId) (v:aI):∀(j:Nat) (u:aI),[v][j]? =some u->(w.alloc (.cells #[v] t)).cell? ((⟨w,0,none⟩:Addr).add j)=some u:=by
 intro j u g;cases j with
 |zero=>simp at g;subst g;have:(⟨w,0,none⟩:Addr).add 0=⟨w,0,none⟩:=rfl;rw[this,cell_of_row _ _ _ _ _ _ (heap_alloc_new w _)];rfl
 |succ j=>exact aO
def foot (b:Nat) (dv:aI):Nat->Prop:=λk=>k=b\/dv.ownBlock=some k
theorem Znq {P:Program} {w:aq} (t E e:TypeId) (z:aI) (bytes:Nat) (ht:P.underlying t=some (.slice e)) (F:(P.info? e).map (λi=>(i.zero,i.size,i.bytes))=some (some z,1,bytes)) (Q:z.cells.size=1) {I:Nat} {u:aI} {m:Nat} {B:List aI} (q:w.ownsRow base e 1 v n xs) (D:w.ownsRow I e 1 u m B) (h1:∀y∈B,y.oneCell'=true)
  (S:n+m<=maxLen) (G:(n+m)*bytes<=140737488355328) (M:base<=w):
  ∃p w',(Builtin.append_ #[t,t] E #[v,u]).run P w=.ok p w'/\w'.ownsRow base e 1 p (n+m) (xs++B)/\w.grownBy w' v.ownBlock/\(p.ownBlock=v.ownBlock\/p.ownBlock=some w.heap.size):=by obtain⟨i,hi,a7,a5,R⟩:=info_parts F;rcases D.2 with ⟨rfl,a3⟩|⟨g,cap,l,rfl,hb,b0,k,b1,a9,a8⟩;subst a3;have a6:B=[]:=ia (by simpa using D.1);subst a6;refine⟨v,w,?_,by simpa using q,⟨rfl,rfl,rfl,aU,λ_ _ _=>rfl⟩,.inl rfl⟩;exact Ns;obtain⟨p,w',a4,a0,a1,_,a2⟩:=run_append_own_at (P:=P) w base t E e i z 1 bytes ht hi a7 a5 R Q O v n xs q ⟨g,0,none⟩ m cap B D.1 (D.cells (g:=g) rfl) h1 S G M;exact⟨p,w',a4,a0,a1,a2⟩
theorem Z7 {w:aq} {e:TypeId} (h:w.ownsRow base e size v n xs):∃A M cap,v=.slice A M cap:=by rcases h.2 with ⟨l,_⟩|⟨g,cap,k,p,_⟩;exact⟨_,_,_,l⟩;exact⟨_,_,_,p⟩
theorem U4 {P:Program} (p k e:TypeId) (y:P.underlying p=some (.slice e)) (q:P.underlying e=some (.int .u8)) (hd:P.underlying k=some .string) {w:aq} {g:Nat} {l:ax}
  (h:w.ownsRow base e 1 (.slice (some (g,0)) n cap) n (l.map bv)):(convert p k (.slice (some (g,0)) n cap)).run P w=.ok (.string ⟨l.toArray⟩) w:=by have u:n=l:=(by have:=h.1;simpa using this.symm);subst u;refine run_convert_bytes_back w p k e ⟨g,0,none⟩ cap l y q hd (λj t=> ?_);exact h.cells (g:=g) rfl j _ (by rw[jX,fb t];rfl)
theorem YG {P:Program} {g:Array Oper} {o:Oper} {a:Act} {w w':aq} {K:Act->aq->Prop} {Q:Exit->Act->aq->Prop} {E:Prop} {k:aI} (B:o.guard=none) (s x:Operand) (t:TypeId)
  (l:o.op=.call { callee:=.builtin .append,args:= #[s,x],argTypes:= #[t,t] }) (v u:aI) (q:a.eval s=v) (z:a.eval x=u)
  (p:(Builtin.append_ #[t,t] o.type #[v,u]).run P w=.ok k w') (h:K (a.put o.dst k) w'):
  if Region.wanted o (yielded g a.tmps)=true then Oper.wp P o a w K Q else E:=by have y:Region.wanted o (yielded g a.tmps)=true:=(by simp[Region.wanted,B]);rw[Vag y];unfold Oper.wp execOp;simp only[l,resolve,invoke,builtin,Sem.run_bind,Sem.run_pure,Result.andThen_ok,List.map_toArray,tR,List.map_nil,q,z,p];exact h
def At (w:aq) (A:Wto) (vs:List aI):Prop:=
 ∀i (h:i<vs.length),∃b o,A=some ⟨b,o,none⟩/\b<w.heap.size/\w.cell? ⟨b,o+i,none⟩=some vs[i]
theorem At.nil (w:aq) (A:Wto):At w A []:=λi h=>absurd h (vL _)
theorem At.keep {w w':aq} {S:Nat->Prop} (h:At w A vs) (k:Fr S w w') (l:∀b o,A=some ⟨b,o,none⟩->¬S b):At w' A vs:=by intro i hi;obtain⟨b,o,g,hb,h1⟩:=h i hi;exact⟨b,o,g,Vas hb k.size,(k.cell (p:=⟨b,_,none⟩) hb (l b o g)).trans h1⟩
theorem At.below {w w':aq} (h:At w A vs) (hb:Below w w w'):At w' A vs:=
 h.keep (Fr.of_below (S:=nob) hb) (λ_ _ _ f=>f)
def Ii (B:Nat) (w:aq) (A:Wto) (vs:List aI):Prop:=
 ∀i (h:i<vs.length),∃b o,A=some ⟨b,o,none⟩/\b<B/\w.cell? ⟨b,o+i,none⟩=some vs[i]
theorem Ii.below {w w':aq} (h:Ii B w A vs) (hb:Below B w w'):Ii B w' A vs:=λi hi=>by obtain⟨b,o,g,ab,h1⟩:=h i hi;exact⟨b,o,g,ab,(hb.cell (p:=⟨b,_,none⟩) ab).trans h1⟩
theorem At.alloc {w:aq} (h:At w A vs) (o:Obj):At (w.alloc o) A vs:=h.below ((bf _ _).alloc aU o)
theorem At.drewN {w:aq} (h:At w A vs) (n:Nat):At (w.drewN n) A vs:=h
theorem At.drew {w:aq} (h:At w A vs):At w.drew A vs:=h
theorem At.mono {w w':aq} (h:At w A vs) (g:w<=B) (hb:Below B w w'):At w' A vs:=h.below (hb.mono g)
theorem Zh {w:aq} (h:w.ownsRow base e size v n xs):∃A cap,v=.slice A n cap/\At w A xs:=by rcases h.2 with ⟨rfl,h0⟩|⟨g,cap,k,rfl,hb,l,y,z,B,t⟩;have u:xs=[]:=ia (by rw[h.1,h0];simp);subst u;exact⟨none,0,aO,At.nil _ _⟩;refine⟨_,cap,rfl,λi hi=>⟨g,0,rfl,(Array.getElem?_eq_some_iff.1 l).1,?_⟩⟩;have q:Bk w g e k:=l;have h1:=h.1;have p:(k.toList.take (n*size))[i]? =k.toList[i]? :=List.getElem?_take_of_lt O;rw[jK,q.cell,<-Array.getElem?_toList,<-p,t,fb hi]
theorem Bk.at_ {w:aq} {g:Nat} {t:TypeId} {cs:Array aI} (h:Bk w g t cs):At w (some ⟨g,0,none⟩) cs.toList:=λi hi=>⟨g,0,rfl,h.lt,by rw[jK,h.cell,<-Array.getElem?_toList,fb hi]⟩
def iv (n:Int):aI:=.int .i64 n
def sv (s:aT):aI:=.string s
theorem At.get {w:aq} (h:At w A vs) (i:Nat) (v:aI) (g:vs[i]? =some v):∃b o,A=some ⟨b,o,none⟩/\b<w.heap.size/\w.cell? ⟨b,o+i,none⟩=some v:=by obtain⟨hi,rfl⟩:=List.getElem?_eq_some_iff.1 g;exact h i hi
theorem Zl {w:aq} :w.ownsRow base e size (.slice none 0 0) 0 []:=⟨by simp,.inl ⟨rfl,rfl⟩⟩
theorem Zpb {p:Prop} (h:Hid p):p:=h.o
