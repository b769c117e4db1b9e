import Derived.Test.YtchokmkfobandaaGreatDoorJ18
import Derived.Test.YtchokmkfobandaaGreatDoorJ22
import Derived.Lib.EndianBits
set_option linter.unusedVariables false
set_option linter.unusedSimpArgs false
set_option maxRecDepth 100000
set_option maxHeartbeats 8000000
namespace Go.Proofs.YtchokmkfobandaaGreatDoor
open Go.RowKit Go.Proofs Wv Wv.Vi Wv.Rc Wv.Mo Wv.Lz
theorem Z6w (w:World):
  Calls Tryz.prog 174 #[.int .i64 1] w λx w'=>x=.returned (.tuple #[.pointer (some ⟨w.heap.size+1,0,none⟩),.int .i64 0])/\Bk w' w.heap.size 3 (nc (tr0 1))/\Bk w' (w.heap.size+1) 157 #[.int .i64 1,.slice (some ⟨w.heap.size,0,none⟩) 2 2]/\Below w.heap.size w w':=by
 have Hp:=h_ (Z8Y w);go_enter Tryz.func174,Tryz.ntmps174;go_wp2_with fail;refine(Hp.o).mono ?_;rintro x w1 ⟨rfl,h1,h2,hb⟩;have H1:=h_ h1;have H2:=h_ h2;clear h1 h2;go_wp2;go_returns;exact⟨rfl,H1.o,H2.o,hb⟩
def bcs (g:Nat) (c:UInt8):Array Value:=(trc g 8).push (bv c)
theorem Zkp (g:Nat) (c:UInt8) {k:Nat} (h:k<8):(bcs g c)[2*k]? =some (.int .i64 8)/\(bcs g c)[2*k+1]? =some (.slice (some ⟨g,256*k,none⟩) 256 256):=by
 rcases(show k=0\/k=1\/k=2\/k=3\/k=4\/k=5\/k=6\/k=7 by omega) with rfl|rfl|rfl|rfl|rfl|rfl|rfl|rfl<;>exact⟨rfl,rfl⟩
theorem Z0m (g:Nat) (c:UInt8):(bcs g c)[16]? =some (.int .u8 (c.toNat:Int)):=rfl
theorem Zcp (g:Nat) (c d:UInt8):(bcs g c).setIfInBounds 16 (.int .u8 (d.toNat:Int))=bcs g d:=rfl
structure BtA (w:World) (b g:Nat) (ts:List Nat) (c:UInt8):Prop where
 st:Bk w b 234 (bcs g c)
 nd:Bk w g 3 (nc ts)
theorem BtA.tree {w:World} {b g:Nat} {ts:List Nat} {c:UInt8} (h:BtA w b g ts c) {k:Nat} (hk:k<8):TrA w b (2*k) g (256*k) 8 ts:=by
 obtain⟨t0,t1⟩:=Zkp g c hk;have c0:=h.st.cell (2*k);have c1:=h.st.cell (2*k+1);rw[t0] at c0;rw[t1] at c1;exact⟨c0,c1,h.nd,Bk.apart h.st h.nd (by decide),h.st.lt⟩
theorem BtA.fr {S:Nat->Prop} {w w':World} {b g:Nat} {ts:List Nat} {c:UInt8} (h:BtA w b g ts c) (hf:Fr S w w') (h1:¬S b) (h2:¬S g):BtA w' b g ts c:=⟨h.st.fr hf h1,h.nd.fr hf h2⟩
theorem BtA.below {w w':World} {b g:Nat} {ts:List Nat} {c:UInt8} (h:BtA w b g ts c) (hb:Below w.heap.size w w'):BtA w' b g ts c:=⟨h.st.below hb h.st.lt,h.nd.below hb h.nd.lt⟩
theorem slap (w:World) (g:Nat):(Instr.arrayAt 232 (.slice (some ⟨g,0,none⟩) 8 8)).run Tryz.prog w=.ok (.pointer (some ⟨g,0,none⟩)) w:=by kernel_rfl
theorem ZfI (g:Nat):Array.foldl (λcs x=>cs.setIfInBounds x.snd x.fst) (#[.int .i64 0,.slice none 0 0,.int .i64 0,.slice none 0 0,.int .i64 0,.slice none 0 0,.int .i64 0,.slice none 0 0,.int .i64 0,.slice none 0 0,.int .i64 0,.slice none 0 0,.int .i64 0,.slice none 0 0,.int .i64 0,.slice none 0 0,.int .u8 0]:Array Value) (trc g 8).zipIdx 0 16=bcs g 0:=by kernel_rfl
theorem Ziw:Tryz.prog.underlying 232=some (.array 8 157):=by kernel_rfl
theorem Z5f (w:World):
  Calls Tryz.prog 175 #[] w λx w'=>∃b,x=.returned (.pointer (some ⟨b,0,none⟩))/\w.heap.size<b/\BtA w' b w.heap.size (List.replicate 2048 1024) 0/\Below w.heap.size w w':=by
 have Hp:=h_ (Z8Z w);go_enter Tryz.func175,Tryz.ntmps175;go_wp2_with fail;refine(Hp.o).mono ?_;rintro x w1 ⟨rfl,h1,h2,hb⟩;have H1:=h_ h1;have H2:=h_ h2;have hsl:=slap w1 (w.heap.size+1);have Ii:=ZfI w.heap.size;have hs:=h2.lt;have hg:w1.heap[w.heap.size+1]? =some (.cells (trc w.heap.size 8) 157 (0,0)):=h2;obtain⟨BC,Ij⟩:∃x,bcs w.heap.size 0=x:=⟨_,rfl⟩;obtain⟨TC,sf⟩:∃x,trc w.heap.size 8=x:=⟨_,rfl⟩;rw[Ij,sf] at Ii;rw[sf] at hg;have hi:(Tryz.prog.info? 232).map (·.size)=some TC.size:=(by rw[<-sf];kernel_rfl);have Tl:=h_ Ij;have hz:TC.size=16:=(by rw[<-sf];rfl);clear h1 h2 Hp Ij sf;go_wp2_with (refine wpList_load_row rfl 232 _ rfl (w.heap.size+1) rfl 157 TC (0,0) _ hg Ziw rfl hi ?_);go_returns;exact⟨_,rfl,by omega,⟨by rw[Tl.o];exact Bk.new _ _ _,H1.o.alloc _⟩,hb.alloc hb.size _⟩
theorem BtA.drew {w:World} {b g:Nat} {ts:List Nat} {c:UInt8} (h:BtA w b g ts c):BtA w.drew b g ts c:=⟨h.st,h.nd⟩
theorem BtA.foot {w:World} {b g eb:Nat} {dv:Value} {ts:List Nat} {c:UInt8} {e:En} (h:BtA w b g ts c) (he:EnAt w eb dv e):¬foot eb dv b/\¬foot eb dv g:=by
 refine⟨λhs=> ?_,Z1h he h.nd⟩;rcases hs with hs|hs
 ·exact Bk.apart h.st he.1 (by decide) hs
 ·exact Z2 he.2 h.st (by decide) hs
theorem Zkq {ts:List (List Nat)} (h:∀t∈ts,TOk t/\t.length=256) (hl:ts.length=8):ts.flatten.length=2048:=by
 rw[ZbY (λt ht=>(h t ht).2),hl]
def Zix (b g eb:Nat) (dv:Value):Nat->Prop:=λk=>k=b\/Z13 g eb dv k
theorem Zcq {w:World} {b g eb:Nat} {dv:Value} {ts:List (List Nat)} {c0:UInt8} {e:En} (h:BtA w b g ts.flatten c0) (ht:∀t∈ts,TOk t/\t.length=256) (kL:ts.length=8) (he:EnAt w eb dv e) (hv:Val 0 e) (c:UInt8) (hl:e.out.length<=800000):
  Calls Tryz.prog 133 #[.pointer (some ⟨b,0,none⟩),.pointer (some ⟨eb,0,none⟩),.int .u8 (c.toNat:Int)] w λx w'=>x=.returned (.tuple #[])/\BtA w' b g (ts.set (c0.toNat/32) (tenc 8 c.toNat 1 (ts.getD (c0.toNat/32) []) e).1).flatten c/\∃cK,EnAt w' eb cK (tenc 8 c.toNat 1 (ts.getD (c0.toNat/32) []) e).2/\Fr (Zix b g eb dv) w w'/\Zo w dv cK:=by
 have lX:=Z60 c0;have hf:=h.foot he;have dt:=Zkq ht kL;have bO:=h.st.cell 16;rw[Z0m] at bO;obtain⟨k,hk⟩:∃k,c0.toNat/32=k:=⟨_,rfl⟩;rw[hk] at lX⊢;have i1:(c0.toNat:Int)/32=(k:Int):=(by omega);have vP:IntKind.i64.wrap ((c.toNat:Nat):Int)=((c.toNat:Nat):Int):=IntWalk.i64_in _ (by have:=c.toNat_lt;omega);have cL:2*k=k*2:=Vbt _ _;have He:=h_ (λ(W:World) (hW:BtA W b g ts.flatten c0) (Ea:EnAt W eb dv e)=>Z4Y (hW.tree lX) (by omega) (by rw[dt];omega) (by rw[dt];omega) (Z7Q (λt h=>(ht t h).1)) Ea (hW.foot Ea).1 hv c.toNat (by have:=c.toNat_lt;omega) hl);rw[<-vP,cL] at He;clear vP;have hlen:∀t∈ts,t.length=256:=λt h=>(ht t h).2;obtain⟨p1,p2⟩:=Z1N (L:=256) hlen (j:=k) (by omega);obtain⟨q1,q2⟩:=Z7N 8 (256*k) c.toNat 1 256 (t:=ts.flatten) (e:=e) (by rw[dt];omega) (by decide);rw[p1] at q1 q2;rw[p2 _ q2] at q1;have Hq:=h_ q1;have Ik:(k:Int)<8:=(by omega);have Il:(0:Int)<=(k:Int):=(by omega);have iu:=c.toNat_lt;obtain⟨m,hm⟩:∃m,c.toNat=m:=⟨_,rfl⟩;have aj:=Zcp g c0 c;rw[hm] at He Hq iu aj⊢;obtain⟨m0,eV⟩:∃m,c0.toNat=m:=⟨_,rfl⟩;rw[eV] at bO i1;have aA:=h_ aj;have H:=h_ h;have HE:=h_ he;have cD:=h.st.lt
 have cS:¬Z13 g eb dv b:=λhs=>by
  rcases hs with hs|hs
  ·exact Bk.apart h.st h.nd (by decide) hs
  ·exact hf.1 hs
 have iA:=hf.1;clear p1 p2 q1 q2 hlen hm eV aj h he hv ht hl dt hk hf;go_enter Tryz.func133,Tryz.ntmps133;go_wp2;go_region_with ((go_at_call 132;refine(He.o _ H.o.drew HE.o.drew).mono ?_;rintro r w1 ⟨rfl,Eb,mg,dU,aC,gy⟩))
 all_goals
  have fT:=H.o.st.drew.fr aC cS;have f16:=fT.frozen 16;have Im:=fT.cell 16;rw[Z0m] at Im;have uX:=Z2M (w1:=w1) iA gy cD;go_wp2;go_end0;have h2:=fT.put 16 (.int .u8 (m:Int));rw[aA.o] at h2;have hT:=Eb.nd;have hE:=dU.offG (m:=16) (x:=.int .u8 (m:Int)) uX;rw[Hq.o] at hT hE;have vW:=Bk.apart fT hT (by decide);exact⟨rfl,⟨h2,hT.off (p:=⟨b,16,none⟩) (Ne.symm vW) _⟩,mg,hE,((Fr.refl (Zix b g eb dv) w).drew.trans (aC.mono (λk hk=>.inr hk))).setCell (p:=⟨b,16,none⟩) (.inl (.inl rfl)) _,gy⟩
theorem Zcr {w:World} {b g eb:Nat} {ts:List (List Nat)} {c0:UInt8} {d:De} (h:BtA w b g ts.flatten c0) (ht:∀t∈ts,TOk t/\t.length=256) (kL:ts.length=8) (he:DAt w eb d) (hv:DV 0 d):
  Calls Tryz.prog 223 #[.pointer (some ⟨b,0,none⟩),.pointer (some ⟨eb,0,none⟩)] w λx w'=>x=.returned (.int .u8 (((UInt8.ofNat ((tdec 8 1 (ts.getD (c0.toNat/32) []) d).1-256)).toNat:Nat):Int))/\BtA w' b g (ts.set (c0.toNat/32) (tdec 8 1 (ts.getD (c0.toNat/32) []) d).2.1).flatten (UInt8.ofNat ((tdec 8 1 (ts.getD (c0.toNat/32) []) d).1-256))/\DAt w' eb (tdec 8 1 (ts.getD (c0.toNat/32) []) d).2.2/\Fr (λk=>k=b\/Z2m g eb k) w w':=by
 have lX:=Z60 c0;have dt:=Zkq ht kL;have bO:=h.st.cell 16;rw[Z0m] at bO;obtain⟨k,hk⟩:∃k,c0.toNat/32=k:=⟨_,rfl⟩;rw[hk] at lX⊢;have i1:(c0.toNat:Int)/32=(k:Int):=(by omega);have iA:b≠eb:=Bk.apart h.st he (by decide);have vW:b≠g:=Bk.apart h.st h.nd (by decide);have cL:2*k=k*2:=Vbt _ _;have ay:=Z7Q (λt h=>(ht t h).1);have He:=h_ (λ(W:World) (hW:BtA W b g ts.flatten c0) (Ea:DAt W eb d)=>Z4Z (hW.tree lX) (by omega) (by rw[dt];omega) (by rw[dt];omega) ay Ea iA hv);rw[cL] at He;have hlen:∀t∈ts,t.length=256:=λt h=>(ht t h).2;obtain⟨p1,p2⟩:=Z1N (L:=256) hlen (j:=k) (by omega);obtain⟨q1,q2⟩:=Z7O 8 (256*k) 1 256 (t:=ts.flatten) (d:=d) (by rw[dt];omega) (by decide);obtain⟨_,_,_,r1,r2⟩:=ZbX 8 (256*k) 1 256 ts.flatten d ay (by rw[dt];omega) (by decide) hv;rw[p1] at q1 q2;rw[p2 _ q2] at q1;rw[q1] at He r1 r2;simp only at He r1 r2;have e8:(2:Nat) ^ 8=256:=(by decide);rw[e8] at He r1 r2;have Ik:(k:Int)<8:=(by omega);have Il:(0:Int)<=(k:Int):=(by omega);obtain⟨z,hz⟩:∃z,(tdec 8 1 (ts.getD k []) d).1-256=z:=⟨_,rfl⟩;have Wm:z<256:=(by omega);rw[hz] at He⊢;have Io:(UInt8.ofNat z).toNat=z:=(by rw[UInt8.toNat_ofNat'];omega);have aj:=Zcp g c0 (UInt8.ofNat z);rw[Io] at aj⊢;obtain⟨m0,eV⟩:∃m,c0.toNat=m:=⟨_,rfl⟩;rw[eV] at bO i1;have MW:IntKind.u8.wrap (z:Int)=(z:Int):=(by rw[IntKind.wrap_u8];omega);have Tn:=h_ Io;have aA:=h_ aj;have H:=h_ h;have HE:=h_ he;have cD:=h.st.lt
 have cS:¬Z2m g eb b:=λhs=>by
  rcases hs with hs|hs
  ·exact vW hs
  ·exact iA hs
 have f16:=h.st.frozen 16;clear p1 p2 q1 q2 r1 r2 hlen hz eV aj h he hv ht dt hk ay Io cL e8;go_enter Tryz.func223,Tryz.ntmps223;go_wp2;go_region_with ((go_at_call 222;refine(He.o _ H.o.drew HE.o.drew).mono ?_;rintro r w1 ⟨rfl,Eb,dU,aC⟩;have To:=(H.o.st.drew.fr aC cS).frozen 16;have Ip:=(H.o.st.drew.fr aC cS).cell 16;rw[Z0m] at Ip))
 all_goals
  have fT:=H.o.st.drew.fr aC cS;have h2:=fT.put 16 (.int .u8 (z:Int));rw[aA.o] at h2;have Im:=h2.cell 16;rw[Z0m,Tn.o] at Im;have hT:=Eb.nd.off (p:=⟨b,16,none⟩) (Ne.symm vW) (.int .u8 (z:Int));have hE:=dU.offG (m:=16) (x:=.int .u8 (z:Int)) iA;have hF:Fr (λk=>k=b\/Z2m g eb k) w (w1.setCell ⟨b,16,none⟩ (.int .u8 (z:Int))):=((Fr.refl (λk=>k=b\/Z2m g eb k) w).drew.trans (aC.mono (λk hk=>.inr hk))).setCell (p:=⟨b,16,none⟩) (.inl (.inl rfl)) _;have H2:=h_ h2;clear h2 fT Eb dU aC;generalize w1.setCell ⟨b,16,none⟩ (.int .u8 (z:Int))=W2 at*;go_wp2;go_ret;exact⟨rfl,⟨H2.o,hT⟩,hE,hF⟩
end Go.Proofs.YtchokmkfobandaaGreatDoor
namespace Go.Proofs.YtchokmkfobandaaGreatDoor
open Go.RowKit Go.Proofs Wv Wv.Vi Wv.Fm
theorem Z6x (s:List UInt8) (hs:s.length<=1000000000) (w:World):
  Calls Tryz.prog 83 #[.string (bs s)] w λx w'=>x=.returned (.string (bs (QB s)))/\Below w.heap.size w w':=by
 have Hs:=h_ (Z2R s (by omega) w);have ab:=Z6a s;obtain⟨n,hn⟩:∃n,crcN s=n:=⟨_,rfl⟩;rw[hn] at Hs ab;obtain⟨a1,h1⟩:∃a,n % 256=a:=⟨_,rfl⟩;obtain⟨a2,h2⟩:∃a,n/256 % 256=a:=⟨_,rfl⟩;obtain⟨a3,h3⟩:∃a,n/65536 % 256=a:=⟨_,rfl⟩;obtain⟨a4,h4⟩:∃a,n/16777216=a:=⟨_,rfl⟩;have i1:(n:Int) % 256=(a1:Int):=(by omega);have i2:(n:Int)/256 % 256=(a2:Int):=(by omega);have i3:(n:Int)/65536 % 256=(a3:Int):=(by omega);have i4:(n:Int)/16777216=(a4:Int):=(by omega);have l1:a1<256:=(by omega);have l2:a2<256:=(by omega);have l3:a3<256:=(by omega);have l4:a4<256:=(by omega);have i5:(a4:Int) % 256=(a4:Int):=(by omega)
 have eD:(convert 115 9 (.slice (some ⟨w.heap.size,0,none⟩) 4 4)).run Tryz.prog (w.alloc (.cells #[.int .u8 (a1:Int),.int .u8 (a2:Int),.int .u8 (a3:Int),.int .u8 (a4:Int)] 5))=.ok (.string (bs [UInt8.ofNat a1,UInt8.ofNat a2,UInt8.ofNat a3,UInt8.ofNat a4])) (w.alloc (.cells #[.int .u8 (a1:Int),.int .u8 (a2:Int),.int .u8 (a3:Int),.int .u8 (a4:Int)] 5)):=by
  refine run_convert_bytes_back _ 115 9 5 ⟨w.heap.size,0,none⟩ 4 [UInt8.ofNat a1,UInt8.ofNat a2,UInt8.ofNat a3,UInt8.ofNat a4] Tryz.underlying115 Tryz.underlying5 Tryz.underlying9 (λj hj=> ?_);have PQ:j<4:=hj;rw[Go.WideShapes.add_plain,Vbo,(Bk.new w _ _).cell];have:j=0\/j=1\/j=2\/j=3:=(by omega);rcases this with rfl|rfl|rfl|rfl<;>simp[Nat.mod_eq_of_lt, *]
 have ad:(bs s).size<=1000000000:=(by rw[Z0];exact hs);have gb:(bs [UInt8.ofNat a1,UInt8.ofNat a2,UInt8.ofNat a3,UInt8.ofNat a4]).size=4:=rfl
 have Hr:=h_ (show bs s++bs [UInt8.ofNat a1,UInt8.ofNat a2,UInt8.ofNat a3,UInt8.ofNat a4]=bs (QB s) from by
  rw[Zg];unfold QB le4;rw[hn,<-h1,<-h2,<-h3,<-h4];have q:∀x:Nat,UInt8.ofNat (x % 256)=UInt8.ofNat x:=λx=>(by apply UInt8.toNat_inj.1;simp);rw[q,q,q])
 have hb:=h_ ((Vae w.heap.size w).alloc UZz (.cells #[.int .u8 (a1:Int),.int .u8 (a2:Int),.int .u8 (a3:Int),.int .u8 (a4:Int)] 5));clear hn h1 h2 h3 h4;generalize bs s=s1 at*;generalize bs [UInt8.ofNat a1,UInt8.ofNat a2,UInt8.ofNat a3,UInt8.ofNat a4]=s2 at*;go_enter Tryz.func83,Tryz.ntmps83;go_wp2_with fail;refine(Hs.o).mono ?_;rintro x w1 ⟨rfl,rfl⟩;go_wp2;go_ret;exact⟨Z0w Hr.o,hb.o⟩
def lst4 (b0 b1 b2:Nat):Nat->Nat
 |0=>0
 |1=>b0
 |2=>b0+256*b1
 |_=>b0+256*b1+65536*b2
def synN (s:List UInt8):Nat:=crcN (s.take (s.length-4)) ^^^ Z3N s
theorem ZfJ (s:List UInt8):Z3N s<4294967296:=by
 unfold Z3N;have h0:=(s.getD (s.length-4) 0).toNat_lt;have h1:=(s.getD (s.length-3) 0).toNat_lt;have h2:=(s.getD (s.length-2) 0).toNat_lt;have h3:=(s.getD (s.length-1) 0).toNat_lt;omega
theorem Z5g (a b:Nat):a ^^^ b=0↔a=b:=by
 constructor
 ·intro h;apply Nat.eq_of_testBit_eq;intro i;have:=congrArg (λn=>n.testBit i) h;simp only[Nat.testBit_xor,Nat.zero_testBit] at this;revert this;cases a.testBit i<;>cases b.testBit i<;>simp
 ·intro h;rw[h,Nat.xor_self]
theorem Zcs {s:List UInt8} (h:4<=s.length):QO s=decide (synN s=0):=by
 unfold QO synN;rw[Vao h,Bool.true_and,Vbl,Vas,Vas,Z5g]
theorem Z9f (s:List UInt8) (h4:4<=s.length) (hs:s.length<=1000000000) (w:World):
  Calls Tryz.prog 181 #[.string (bs s)] w λx w'=>x=.returned (.int .u32 (synN s:Nat))/\w=w':=by
 obtain⟨k,hk⟩:∃k,s.length=k+4:=⟨s.length-4,by omega⟩;have ad:(bs s).size=k+4:=(by rw[Z0,hk])
 have hg:∀j (h:k+j<s.length) (h2:k+j<(bs s).size),((bs s)[k+j]'h2).toNat=(s.getD (k+j) 0).toNat:=λj h h2=>by
  rw[Z6j s (k+j) h h2];simp[List.getD,h]
 have eu:Z3N s=(s.getD (k+0) 0).toNat+256*(s.getD (k+1) 0).toNat+65536*(s.getD (k+2) 0).toNat+16777216*(s.getD (k+3) 0).toNat:=by
  unfold Z3N;rw[hk,show k+4-4=k+0 by omega,show k+4-3=k+1 by omega,show k+4-2=k+2 by omega,show k+4-1=k+3 by omega]
 obtain⟨b0,aB⟩:∃b,(s.getD (k+0) 0).toNat=b:=⟨_,rfl⟩;obtain⟨b1,a7⟩:∃b,(s.getD (k+1) 0).toNat=b:=⟨_,rfl⟩;obtain⟨b2,a8⟩:∃b,(s.getD (k+2) 0).toNat=b:=⟨_,rfl⟩;obtain⟨b3,af⟩:∃b,(s.getD (k+3) 0).toNat=b:=⟨_,rfl⟩;have l0:b0<256:=(by rw[<-aB];exact Vbi _);have l1:b1<256:=(by rw[<-a7];exact Vbi _);have l2:b2<256:=(by rw[<-a8];exact Vbi _);have l3:b3<256:=(by rw[<-af];exact Vbi _);rw[aB,a7,a8,af] at eu;have yi:=h_ (λ(h2:k<(bs s).size)=>(hg 0 (by omega) h2).trans aB);have gA:=h_ (λ(h2:k+1<(bs s).size)=>(hg 1 (by omega) h2).trans a7);have yj:=h_ (λ(h2:k+2<(bs s).size)=>(hg 2 (by omega) h2).trans a8);have yk:=h_ (λ(h2:k+3<(bs s).size)=>(hg 3 (by omega) h2).trans af);have hex:(bs s).extract 0 k=bs (s.take k):=Z3l (bs s) k;have nH:=h_ (λW=>Z2R (s.take k) (by rw[Vau];omega) W);have B5:synN s=crcN (s.take k) ^^^ Z3N s:=(by unfold synN;rw[hk,Vb7]);have iu:=Z6a (s.take k);have fI:=ZfJ s;obtain⟨c,hc⟩:∃c,crcN (s.take k)=c:=⟨_,rfl⟩;obtain⟨l,hl⟩:∃l,Z3N s=l:=⟨_,rfl⟩;obtain⟨z,hz⟩:∃z,synN s=z:=⟨_,rfl⟩;rw[hc] at nH B5 iu;rw[hl] at B5 fI eu;rw[hz] at B5⊢;have hx:bits .xor .u32 (c:Int) (l:Int)=(z:Int):=(by rw[u32_xor_nat c l iu fI,B5]);have yl:=h_ eu;obtain⟨LS,L0,L1,L2,L3,L4⟩:∃f:Nat->Nat,f 0=0/\f 1=b0/\f 2=b0+256*b1/\f 3=b0+256*b1+65536*b2/\f 4=l:=⟨λi=>if i=4 then l else lst4 b0 b1 b2 i,rfl,rfl,rfl,rfl,rfl⟩;have L0:=h_ L0;have L1:=h_ L1;have L2:=h_ L2;have L3:=h_ L3;have L4:=h_ L4;generalize bs (s.take k)=T at*;generalize bs s=S at*;have cH:=h_ ad;have lX:k<=1000000000:=(by omega);have Iq:(S.size:Int)=(k:Int)+4:=(by rw[ad];omega);clear hg aB a7 a8 af B5 hc hl hz hk eu ad h4 hs;go_enter Tryz.func181,Tryz.ntmps181;go_wp2;clear Iq;go_loopw [4,9] (λs4 s9 wr=>∃i:Nat,i<=4/\s9=.int .i64 (i:Int)/\s4=.int .u32 (LS i:Int)/\wr=w) (λ_ s9 _=>(4-intOf s9).toNat);case atStart=>exact⟨0,by omega,rfl,by rw[L0.out];rfl,rfl⟩
 case round=>
  obtain⟨i,hi,rfl,rfl,rfl⟩:=hrel;have oj:k<S.size:=(by rw[cH.o];omega);have mo:k+1<S.size:=(by rw[cH.o];omega);have kH:k+2<S.size:=(by rw[cH.o];omega);have Wn:k+3<S.size:=(by rw[cH.o];omega);have cj:(0:Int)<=(k:Int):=(by omega);have iZ:(k:Int)<(S.size:Int):=(by omega);have MX:(k:Int)+1<(S.size:Int):=(by omega);have uP:(k:Int)+2<(S.size:Int):=(by omega);have Wo:(k:Int)+3<(S.size:Int):=(by omega);rcases(show i=0\/i=1\/i=2\/i=3\/i=4 by omega) with rfl|rfl|rfl|rfl|rfl
  ·have hg:∀h:k<S.size,(S[k]'h).toNat=b0:=yi.o
   have e1:bits .or .u32 0 (b0:Int)=(b0:Int):=by
    have:=u32_or_nat 0 b0 (by omega) (by omega);rw[Nat.zero_or] at this;exact this
   clear yi gA yj yk yl nH hx hex;rw[L0.out];go_wp2;go_roundw;case rel=>exact⟨1,by omega,rfl,by rw[L1.out];all_goals first|(congr 1;done)|(congr 1;omega),by first|rfl|trivial⟩
   case measure=>simp[intOf]
  ·have hg:∀h:k+1<S.size,(S[k+1]'h).toNat=b1:=gA.o
   have e1:bits .or .u32 (b0:Int) ((b1:Int)*256)=((b0+256*b1:Nat):Int):=by
    rw[u32_or8 _ _ (by omega) (by omega) (by omega) (by omega) (by omega)];all_goals omega
   clear yi gA yj yk yl nH hx hex;rw[L1.out];go_wp2;go_roundw;case rel=>exact⟨2,by omega,rfl,by rw[L2.out];all_goals first|(congr 1;done)|(congr 1;omega),by first|rfl|trivial⟩
   case measure=>simp[intOf]
  ·have hg:∀h:k+2<S.size,(S[k+2]'h).toNat=b2:=yj.o;obtain⟨y,hy⟩:∃y,b0+256*b1=y:=⟨_,rfl⟩
   have e1:bits .or .u32 (y:Int) ((b2:Int)*65536)=((y+65536*b2:Nat):Int):=by
    rw[u32_or16 _ _ (by omega) (by omega) (by omega) (by omega) (by omega)];all_goals omega
   clear yi gA yj yk yl nH hx hex;rw[L2.out];rw[hy];go_wp2;go_roundw;case rel=>exact⟨3,by omega,rfl,by rw[L3.out];all_goals first|(congr 1;done)|(congr 1;omega),by first|rfl|trivial⟩
   case measure=>simp[intOf]
  ·have hg:∀h:k+3<S.size,(S[k+3]'h).toNat=b3:=yk.o;obtain⟨y,hy⟩:∃y,b0+256*b1+65536*b2=y:=⟨_,rfl⟩
   have e1:bits .or .u32 (y:Int) ((b3:Int)*16777216)=(l:Int):=by
    rw[u32_or24 _ _ (by omega) (by omega) (by omega) (by omega) (by omega),yl.o];all_goals omega
   clear yi gA yj yk yl nH hx hex;rw[L3.out];rw[hy];go_wp2;go_roundw;case rel=>exact⟨4,by omega,rfl,by rw[L4.out];all_goals first|(congr 1;done)|(congr 1;omega),by first|rfl|trivial⟩
   case measure=>simp[intOf]
  ·rw[L4.out];clear yi gA yj yk yl;go_wp2_with fail;refine(nH.o _).mono ?_;rintro x w1 ⟨rfl,rfl⟩;go_wp2;go_ret;exact⟨rfl,rfl⟩
theorem XR (s:List UInt8) (hs:s.length<=1000000000) (w:World):
  Calls Tryz.prog 138 #[.string (bs s)] w λx w'=>(∃y,x=.returned (.tuple #[.string y,.int .i64 (if QO s=true then 0 else 12)]))/\w=w':=by
 have ad:(bs s).size=s.length:=Z0 s;by_cases h4:4<=s.length
 ·have Hs:=h_ (Z9f s h4 hs w);have ho:=Zcs h4;have E5:¬((bs s).size:Int)<4:=(by rw[ad];omega);have Wp:4<=(bs s).size:=(by rw[ad];exact h4);have ff:(bs s).size<=1000000000:=(by rw[ad];exact hs);rw[ho];obtain⟨z,hz⟩:∃z,synN s=z:=⟨_,rfl⟩;rw[hz] at Hs⊢;clear ho ad hz h4 hs;generalize bs s=S at*;by_cases du:z=0
  ·subst du;go_enter Tryz.func138,Tryz.ntmps138;go_wp2_with fail;refine(Hs.o).mono ?_;rintro x w1 ⟨rfl,rfl⟩;go_wp2;go_returns;exact⟨⟨_,rfl⟩,rfl⟩
  ·have Ec:((z:Int) !=0)=true:=Va0.2 (by omega);rw[Vad (by simpa using du)];go_enter Tryz.func138,Tryz.ntmps138;go_wp2_with fail;refine(Hs.o).mono ?_;rintro x w1 ⟨rfl,rfl⟩;go_wp2;go_returns;exact⟨⟨_,rfl⟩,rfl⟩
 ·have E5:((bs s).size:Int)<4:=(by rw[ad];omega);have ho:QO s=false:=(by unfold QO;rw[Vai h4,Bool.false_and]);rw[ho];clear ad ho h4 hs;generalize bs s=S at*;go_enter Tryz.func138,Tryz.ntmps138;go_wp2;go_returns;exact⟨⟨_,rfl⟩,rfl⟩
end Go.Proofs.YtchokmkfobandaaGreatDoor
