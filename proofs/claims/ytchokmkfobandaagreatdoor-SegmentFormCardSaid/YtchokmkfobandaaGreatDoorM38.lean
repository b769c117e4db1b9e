import Derived.Test.YtchokmkfobandaaGreatDoorM34
set_option linter.unusedVariables false
set_option linter.unusedSimpArgs false
set_option maxRecDepth 100000
set_option maxHeartbeats 8000000
namespace Go.Proofs.YtchokmkfobandaaGreatDoor
open Go.RowKit Go.Proofs Wv Wv.Vi Wv.Rc Wv.Mo Wv.Ru Wv.Lz Wv.Fm
theorem Z89 {w:World} {g:Nat} (a b:Nat) (ha:a<256) (hb:b<256) (h:Bk w g 5 #[.int .u8 (a:Int),.int .u8 (b:Int)]):
  (convert 115 9 (.slice (some ⟨g,0,none⟩) 2 2)).run Tryz.prog w=.ok (.string (bs [UInt8.ofNat a,UInt8.ofNat b])) w:=by
 refine run_convert_bytes_back w 115 9 5 ⟨g,0,none⟩ 2 [UInt8.ofNat a,UInt8.ofNat b] Tryz.underlying115 Tryz.underlying5 Tryz.underlying9 (λj hj=> ?_);have tM:j<2:=hj;rw[Go.WideShapes.add_plain,Vbo,h.cell];have:j=0\/j=1:=(by omega);rcases this with rfl|rfl<;>simp[Nat.mod_eq_of_lt, *]
theorem Zj3 {c t:List UInt8} (h:lzE c=some t):t.length<=600000:=by
 unfold lzE at h;split at h
 ·cases h
 ·rename_i hc;injection h with h;rw[<-h,Vab];have h9:=kof9 c.length;split
  ·simp;omega
  ·have key:∀(i:Nat) (l:List Pc),Parses c i l->∀x:Ms×En,(Xo l x).2.out.length<=x.2.out.length+135*(c.length-i):=by
    intro i l hp;induction hp with
    |done=>intro x;show x.2.out.length<=_;omega
    | @step i p l hk r ih=>
     intro x;obtain⟨o1,o2,o3⟩:=ZcX hk (by omega);have cG:=hk.pos;have h1:=ih (penc p x);have h2:=Z81 o1 o2 (by omega) x;rw[Z9t];omega
   have:=key 0 (parse c) (Qd c) (m0,e0);have e:(m0,e0).2.out.length=0:=rfl;rw[e] at this;unfold efin;rw[Vab,be4];simp only[Vaz,Vb6];omega
theorem Zgg (k:Nat) (c:List UInt8):ZA k c=match lzE c with
  |none=>none
  |some t=>some (Z2z k c t):=by
 unfold ZA;cases lzE c<;>rfl
theorem ZkM {w w2:World} {o:Obj} (a8:Below (w.alloc o).drew.heap.size (w.alloc o).drew w2):w2.heap[w.heap.size]? =some o/\Below w.heap.size w w2:=
 ⟨(a8.block w.heap.size (by show w.heap.size<(w.alloc o).heap.size;simp)).trans (heap_alloc_new w o),((Vae w.heap.size w).alloc UZz o).drew.trans (a8.mono (by show w.heap.size<=(w.alloc o).heap.size;simp))⟩
theorem Zdc {k:Nat} (hk:k<32) {c:List UInt8} (hc:c.length<=4096) {R:List UInt8} (hR:QC (165::UInt8.ofNat k::(num c.length++c))=R):
  (∀W:World,(convert 115 9 (.slice (some ⟨W.heap.size,0,none⟩) 2 2)).run Tryz.prog (W.alloc (.cells #[.int .u8 165,.int .u8 (k:Int)] 5))=.ok (.string (bs [165,UInt8.ofNat k])) (W.alloc (.cells #[.int .u8 165,.int .u8 (k:Int)] 5)))/\
  (∀(W w2:World),w2.heap[W.heap.size]? =some (.cells #[.int .u8 165,.int .u8 (k:Int)] 5)->(convert 115 9 (.slice (some ⟨W.heap.size,0,none⟩) 2 2)).run Tryz.prog w2=.ok (.string (bs [165,UInt8.ofNat k])) w2)/\
  (∀W:World,Calls Tryz.prog 54 #[.string (bs c)] W λx w'=>x=.returned (.string (bs (num c.length++c)))/\Below W.heap.size W w')/\
  (∀W:World,Calls Tryz.prog 83 #[.string (bs [165,UInt8.ofNat k]++bs (num c.length++c))] W λx w'=>x=.returned (.string (bs R))/\Below W.heap.size W w')/\(bs [165,UInt8.ofNat k]).size=2/\(bs (num c.length++c)).size<=10000:=by
 have UF:(165:UInt8)=UInt8.ofNat 165:=rfl;refine⟨λW=> ?_,λW w2 h=> ?_,λW=> ?_,λW=> ?_,rfl,?_⟩
 ·exact Z89 165 k (by omega) (by omega) (Bk.new W _ _)
 ·exact Z89 165 k (by omega) (by omega) h
 ·have h1:=XI (bs c) (by rw[Z0];omega) W;have h2:text (bs c)=num c.length++c:=(by unfold text;rw[Z0,Zd]);rw[h2] at h1;exact h1
 ·have:=Z6A (165::UInt8.ofNat k::(num c.length++c)) (by have:=kof9 c.length;simp only[Vaz,Vab];omega) W;rw[hR] at this;rw[Zf];exact this
 ·have:=kof9 c.length;rw[Z0,Vab];omega
theorem bel3 {w W1 w2 w3:World} (h1:Below w.heap.size w W1) (h2:Below W1.heap.size W1 w2) (h3:Below w2.heap.size w2 w3):Below w.heap.size w w3:=
 (h1.trans (h2.mono h1.size)).trans (h3.mono (Vas h1.size h2.size))
theorem Zln {w W1 w2 w3:World} {o:Obj} (h1:Below w.heap.size w W1) (h2:Below W1.heap.size W1 w2) (h3:Below (w2.alloc o).heap.size (w2.alloc o) w3):Below w.heap.size w w3:=
 bel3 h1 (h2.alloc h2.size o) h3
def frV (k:Nat) (c:List UInt8):Value:=.agg #[.int .i64 (k:Int),.string (bs c)]
theorem Z4d (k:Nat) (hk:k<16) (c:List UInt8) (hc:c.length<=1000000000) (w:World):
  Calls Tryz.prog 59 #[frV k c] w λx w'=>x=.returned (optV (ZA k c))/\Below w.heap.size w w':=by
 have ic:=h_ (λW=>Z10 c hc W);have hW:=Zgg k c;have he:bs ([]:List UInt8)=⟨#[]⟩:=rfl;have aD:=h_ ((Vae w.heap.size w).alloc UZz (.cells #[.int .i64 (k:Int),.string (bs c)] 36));have sJ:=h_ (Bk.new w 36 #[.int .i64 (k:Int),.string (bs c)]);have JU:¬(15:Int)<(k:Int):=(by omega);unfold frV;cases hE:lzE c with
 |none=>
  rw[hE] at hW ic;simp only at hW;rw[hW];have dJ:optV none=.tuple #[.string ⟨#[]⟩,.int .i64 9]:=rfl;rw[dJ] at ic⊢;generalize bs c=S at*;clear hE hW he dJ hc sJ;go_enter Tryz.func59,Tryz.ntmps59;go_wp2_with fail;refine(ic.o _).mono ?_;rintro x w1 ⟨rfl,a7⟩;have aW:=h_ (aD.o.trans (a7.mono (by simp)));clear a7 aD;go_wp2;go_returns;exact⟨rfl,aW.o⟩
 |some t=>
  rw[hE] at hW ic;simp only at hW;rw[hW];have dJ:optV (some t)=.tuple #[.string (bs t),.int .i64 0]:=rfl;have CM:optV (some (Z2z k c t))=.tuple #[.string (bs (Z2z k c t)),.int .i64 0]:=rfl;rw[dJ] at ic;rw[CM];have pC:=Z1j hE;have OY:(bs t).size=t.length:=Z0 t;have OZ:(bs c).size=c.length:=Z0 c;have P0:Z2z k c t=QC (165::UInt8.ofNat (XZ k c t)::(num (ZU c t).length++ZU c t)):=rfl;have cF:(ZU c t).length<=4096:=(by unfold ZU;split<;>omega);have uB:XZ k c t<32:=(by unfold XZ;split<;>omega);obtain⟨T1,T2,T3,T4,T5,T6⟩:=Zdc uB cF P0.symm;obtain⟨k2,cK⟩:∃x,XZ k c t=x:=⟨_,rfl⟩;rw[cK] at T1 T2 T4 T5 uB
  have bE:((t.length<c.length/\k2=k+16/\bs (ZU c t)=bs t)\/(¬t.length<c.length/\k2=k/\bs (ZU c t)=bs c)):=by
   rw[<-cK];unfold XZ ZU;by_cases h:t.length<c.length
   ·rw[Vaf h,Vaf h];exact .inl ⟨h,rfl,rfl⟩
   ·rw[Vad h,Vad h];exact .inr ⟨h,rfl,rfl⟩
  rw[<-OY,<-OZ] at bE;have MT:IntKind.u8.wrap (k2:Int)=(k2:Int):=(by rw[IntKind.wrap_u8];omega);have Ht:=h_ T3;have kH:=h_ T4;have H2:=h_ T2;have T9:=λW:World=>T2 W (W.alloc (.cells #[.int .u8 165,.int .u8 (k2:Int)] 5)).drew (heap_alloc_new W _)
  have cj:(bs t).size<=9000000000000000000/\(bs c).size<=9000000000000000000:=by
   have:=Zj3 hE;omega
  generalize bs (Z2z k c t)=RS at*;generalize bs [165,UInt8.ofNat k2]=S1 at*;generalize bs (num (ZU c t).length++ZU c t)=S2 at*;generalize bs (ZU c t)=BS at*;generalize bs t=TS at*;generalize bs c=S at*;obtain⟨GA,GD⟩:=cj;have dp:=h_ bE;clear hE hW he dJ CM hc P0 cK OY OZ T2 T3 T4 pC cF bE;go_enter Tryz.func59,Tryz.ntmps59;go_wp2_with fail;refine(ic.o _).mono ?_;rintro x w1 ⟨rfl,a7⟩;have JV:=sJ.o.below a7 (by simp);have q0:=JV.cell 0;have q1:=JV.cell 1;simp at q0 q1;have aW:=h_ (aD.o.trans (a7.mono (by simp)));clear a7 aD sJ JV ic;go_wp2;go_quiet (fail);go_upto_if 33 with fail;go_cut [6,7] (λs6 s7 wx=>s6=.int .i64 (k2:Int)/\s7=.string BS/\Hid (Below w.heap.size w wx))
  case first=>
   have fS:=h_ (bdN aW.o nq);rcases dp.o with ⟨h1,h2,h3⟩|⟨h1,h2,h3⟩
   ·have hd:decide (TS.size<S.size)=true:=Vam h1;have Be:(k:Int)+16=(k2:Int):=(by omega);subst h3;clear dp aW q0 q1 Ht kH H2 T9 T1 h2 MT;go_wp2;go_meet;case rel=>exact⟨rfl,rfl,fS⟩
   ·have hd:decide (TS.size<S.size)=false:=Vah h1;subst h3;subst h2;clear dp aW q0 q1 Ht kH H2 T9 T1;go_wp2;go_meet;case rel=>exact⟨rfl,rfl,fS⟩
  case rest=>
   obtain⟨rfl,rfl,HB⟩:=hcut;clear aW q0 q1 dp JU hk;go_wp2
   go_region_with (first
    |(go_at_call 54;refine(Ht.o _).mono ?_;rintro r w2 ⟨rfl,a8⟩;first|(have hy:=ZkM a8;have eH:=H2.o _ _ hy.1;have Hy:=h_ hy.2;clear a8 hy)|(have Hy:=h_ (lvB a8);clear a8))
    |(go_at_call 83;refine(kH.o _).mono ?_;rintro r w3 ⟨rfl,af⟩))
   all_goals
    have HF:Below w.heap.size w w3:=by
     first
      |exact bel3 HB.o Hy.o af
      |exact Zln HB.o Hy.o af
    clear af;go_wp2;go_returns;exact⟨rfl,HF⟩
def paV (data:List UInt8):Value:=match YD data with
 |none=>.tuple #[.agg #[.int .i64 0,.string ⟨#[]⟩],.int .i64 0,.bool false,.bool false]
 |some (k,c,n)=>.tuple #[frV k c,.int .i64 (n:Int),.bool (decide (16<=(data.getD 1 0).toNat)),.bool true]
theorem QL {data:List UInt8} (h:YD data=none):paV data=.tuple #[.agg #[.int .i64 0,.string ⟨#[]⟩],.int .i64 0,.bool false,.bool false]:=by unfold paV;rw[h]
theorem Zdd {data c:List UInt8} {k n:Nat} (h:YD data=some (k,c,n)):paV data=.tuple #[frV k c,.int .i64 (n:Int),.bool (decide (16<=(data.getD 1 0).toNat)),.bool true]:=by unfold paV;rw[h]
theorem Xz (w:World):
  Calls Tryz.prog 136 #[] w λx w'=>x=.returned (.tuple #[.agg #[.int .i64 0,.string ⟨#[]⟩],.int .i64 0,.bool false,.bool false])/\Below w.heap.size w w':=by
 have h0:=h_ (Bk.new w 36 #[.int .i64 0,.string ⟨#[]⟩]);have hb:=h_ ((Vae w.heap.size w).alloc UZz (.cells #[.int .i64 0,.string ⟨#[]⟩] 36));have z0:=h0.o.cell 0;have z1:=h0.o.cell 1;simp at z0 z1;go_enter Tryz.func136,Tryz.ntmps136;go_wp2_with ((with_reducible show bodyPost _ _ _ _ _ _);refine bodyPost_ret (v:=.tuple #[.agg #[.int .i64 0,.string ⟨#[]⟩],.int .i64 0,.bool false,.bool false]) (by simp[results,Tryz.results136,go_sem,z0,z1];try rfl) rfl ?_;exact⟨rfl,hb.o⟩)
theorem Zde {w W:World} (hb:Below (w.alloc (.cells #[.int .i64 0,.string ⟨#[]⟩] 36)).heap.size (w.alloc (.cells #[.int .i64 0,.string ⟨#[]⟩] 36)) W) (v0 v1:Value):
  (W.cell? ⟨w.heap.size,0,none⟩=some (.int .i64 0)/\W.cell? ⟨w.heap.size,1,none⟩=some (.string ⟨#[]⟩)/\W.frozen? ⟨w.heap.size,0,none⟩=false/\W.frozen? ⟨w.heap.size,1,none⟩=false)/\
  (((W.setCell ⟨w.heap.size,0,none⟩ v0).setCell ⟨w.heap.size,1,none⟩ v1).cell? ⟨w.heap.size,0,none⟩=some v0/\((W.setCell ⟨w.heap.size,0,none⟩ v0).setCell ⟨w.heap.size,1,none⟩ v1).cell? ⟨w.heap.size,1,none⟩=some v1)/\
  Below w.heap.size w ((W.setCell ⟨w.heap.size,0,none⟩ v0).setCell ⟨w.heap.size,1,none⟩ v1):=by
 have h0:=(Bk.new w 36 #[.int .i64 0,.string ⟨#[]⟩]).below hb (by simp);have h2:=(h0.put 0 v0).put 1 v1;have hB:=((Vae w.heap.size w).alloc UZz (.cells #[.int .i64 0,.string ⟨#[]⟩] 36)).trans (hb.mono (by simp));exact⟨⟨h0.cell 0,h0.cell 1,h0.frozen 0,h0.frozen 1⟩,⟨h2.cell 0,h2.cell 1⟩,(hB.setCell (p:=⟨w.heap.size,0,none⟩) UZz v0).setCell (p:=⟨w.heap.size,1,none⟩) UZz v1⟩
theorem Xq {w W:World} (hb:Below (w.heap.size+1) (w.alloc (.cells #[.int .i64 0,.string ⟨#[]⟩] 36)) W) (v0 v1:Value):
  (W.cell? ⟨w.heap.size,0,none⟩=some (.int .i64 0)/\W.cell? ⟨w.heap.size,1,none⟩=some (.string ⟨#[]⟩)/\W.frozen? ⟨w.heap.size,0,none⟩=false/\W.frozen? ⟨w.heap.size,1,none⟩=false)/\
  (((W.setCell ⟨w.heap.size,0,none⟩ v0).setCell ⟨w.heap.size,1,none⟩ v1).cell? ⟨w.heap.size,0,none⟩=some v0/\((W.setCell ⟨w.heap.size,0,none⟩ v0).setCell ⟨w.heap.size,1,none⟩ v1).cell? ⟨w.heap.size,1,none⟩=some v1)/\
  Below w.heap.size w ((W.setCell ⟨w.heap.size,0,none⟩ v0).setCell ⟨w.heap.size,1,none⟩ v1):=Zde (by rw[World.size_alloc];exact hb) v0 v1
theorem Zdf (S:ByteArray) (w:World) (o:Obj):
  Calls Tryz.prog 85 #[.string S] (w.alloc o) λe w'=>e=.returned (.pointer (some ⟨w.heap.size+1,0,none⟩))/\RV w' (w.heap.size+1) S 0/\Below (w.heap.size+1) (w.alloc o) w'/\w.heap.size+1<=w'.heap.size:=by
 have h:=ZN S (w.alloc o);rw[World.size_alloc] at h;refine h.mono ?_;rintro e w' ⟨h1,h2,h3⟩;exact⟨h1,h2,h3,by have:=h3.size;simpa using this⟩
theorem Yy {B b:Nat} {w w1 w2:World} (h:Below B w w1) (hs:B<=w1.heap.size) (hb:B<=b) (k:Fr (only b) w1 w2):Below B w w2:=
 h.trans (k.toBelow' hs (λj hj e=>by have:j=b:=e;omega))
theorem Qz (data:List UInt8) (hd:data.length<=1000000000) (h:data.length<2\/(2<=data.length/\(data.getD 0 0).toNat≠165)\/(2<=data.length/\(data.getD 0 0).toNat=165/\32<=(data.getD 1 0).toNat)) (w:World):
  Calls Tryz.prog 84 #[.string (bs data)] w λx w'=>x=.returned (.tuple #[.agg #[.int .i64 0,.string ⟨#[]⟩],.int .i64 0,.bool false,.bool false])/\Below w.heap.size w w':=by
 have gu:=h_ (λW=>Xz W);have aI:=h_ (λW hb=>Zde (w:=w) (W:=W) hb (.int .i64 0) (.string ⟨#[]⟩));have ad:(bs data).size=data.length:=Z0 data;have Hg:=h_ (QR data);have mT:(bs data).size<=1000000000:=(by omega)
 have bE:((bs data).size:Int)<2\/(¬((bs data).size:Int)<2/\∃(h0:0<(bs data).size) (h1:1<(bs data).size),(((((bs data)[0]'h0).toNat:Int) !=165)=true\/((((((bs data)[0]'h0).toNat:Int) !=165)=false)/\(32:Int)<=(((bs data)[1]'h1).toNat:Int)))):=by
  rcases h with h|⟨h1,h2⟩|⟨h1,h2,h3⟩
  ·exact .inl (by omega)
  ·refine .inr ⟨by omega,by omega,by omega,.inl ?_⟩;rw[Hg.o 0 (by omega) (by omega),Va1];omega
  ·refine .inr ⟨by omega,by omega,by omega,.inr ⟨?_,?_⟩⟩
   ·rw[Hg.o 0 (by omega) (by omega),h2];rfl
   ·rw[Hg.o 1 (by omega) (by omega)];omega
 generalize bs data=S at*;clear ad Hg hd h;rcases bE with hc|⟨hc,h0,h1,dN⟩
 ·go_enter Tryz.func84,Tryz.ntmps84;go_wp2_with fail;refine(gu.o _).mono ?_;rintro x wn ⟨rfl,cU⟩;obtain⟨⟨c0,c1,f0,f1⟩,⟨z0,z1⟩,hB⟩:=aI.o _ cU;have HB:=h_ hB;clear cU hB aI gu;go_wp2_with ((with_reducible show bodyPost _ _ _ _ _ _);refine bodyPost_ret (v:=.tuple #[.agg #[.int .i64 0,.string ⟨#[]⟩],.int .i64 0,.bool false,.bool false]) (by simp[results,Tryz.results84,go_sem,z0,z1];try rfl) rfl ?_;exact⟨rfl,HB.o⟩)
 ·rcases dN with dN|⟨dN,fE⟩
  ·go_enter Tryz.func84,Tryz.ntmps84;go_wp2_with fail;refine(gu.o _).mono ?_;rintro x wn ⟨rfl,cU⟩;obtain⟨⟨c0,c1,f0,f1⟩,⟨z0,z1⟩,hB⟩:=aI.o _ cU;have HB:=h_ hB;clear cU hB aI gu;go_wp2_with ((with_reducible show bodyPost _ _ _ _ _ _);refine bodyPost_ret (v:=.tuple #[.agg #[.int .i64 0,.string ⟨#[]⟩],.int .i64 0,.bool false,.bool false]) (by simp[results,Tryz.results84,go_sem,z0,z1];try rfl) rfl ?_;exact⟨rfl,HB.o⟩)
  ·go_enter Tryz.func84,Tryz.ntmps84;go_wp2_with fail;refine(gu.o _).mono ?_;rintro x wn ⟨rfl,cU⟩;obtain⟨⟨c0,c1,f0,f1⟩,⟨z0,z1⟩,hB⟩:=aI.o _ cU;have HB:=h_ hB;clear cU hB aI gu;go_wp2_with ((with_reducible show bodyPost _ _ _ _ _ _);refine bodyPost_ret (v:=.tuple #[.agg #[.int .i64 0,.string ⟨#[]⟩],.int .i64 0,.bool false,.bool false]) (by simp[results,Tryz.results84,go_sem,z0,z1];try rfl) rfl ?_;exact⟨rfl,HB.o⟩)
section
variable {S RS:ByteArray} {w:World}
theorem Z5x (hS:S.size<=1000000000) (kD:2<=S.size) (dW:∀h:0<S.size,(S[0]'h).toNat=165) {b8:Nat} (du:∀h:1<S.size,(S[1]'h).toNat=b8) (uC:b8<32) (hex:S.extract 2 S.size=RS) (iV:RS.size<=1000000000) {tb ts kb ks:ByteArray} {te ke:Nat} (gR:ZT RS 0 4096=(tb,ts,te)) (cj:ts.size<=1000000000) (ax:ZB ts te 4=(kb,ks,ke)) (UG:ke≠0):
  Calls Tryz.prog 84 #[.string S] w λx w'=>x=.returned (.tuple #[.agg #[.int .i64 0,.string ⟨#[]⟩],.int .i64 0,.bool false,.bool false])/\Below w.heap.size w w':=by
 have gu:=h_ (λW=>Xz W);have dq:=h_ (λW hb v0 v1=>Xq (w:=w) (W:=W) hb v0 v1);have aI:=h_ (λW hb=>Xq (w:=w) (W:=W) hb (.int .i64 0) (.string ⟨#[]⟩));have Hv:=h_ (Zdf RS w (.cells #[.int .i64 0,.string ⟨#[]⟩] 36));have tW:¬(S.size:Int)<2:=(by omega);have dz:(2:Int)<=(S.size:Int):=(by omega);have bW:(1:Int)<(S.size:Int):=(by omega);have fl:(0:Int)<(S.size:Int):=(by omega);have dc:0<S.size:=(by omega);have gJ:1<S.size:=(by omega);have ta:¬(32:Int)<=(b8:Int):=(by omega);have gG:=h_ (λ(W:World) (b:Nat) (h:RV W b RS 0)=>ZO h (by omega) 4096);rw[gR] at gG;have gI:=h_ (λ(W:World) (b:Nat) (h:RV W b ts te)=>Zu h (by omega) 4);rw[ax] at gI;simp only at gG gI;have UH:((ke:Int) !=0)=true:=(by rw[Va1];omega);clear gR ax UG dq cj iV;go_enter Tryz.func84,Tryz.ntmps84;go_wp2_with fail;refine(Hv.o).mono ?_;rintro x w1 ⟨rfl,h1,a7,aM⟩;go_wp2_with fail;refine(gG.o _ _ h1).mono ?_;rintro x w2 ⟨rfl,h2,ai⟩;have a8:=Yy a7 aM UZz ai;have cZ:=Vas aM ai.size;clear h1 ai a7 aM;go_wp2_with fail;refine(gI.o _ _ h2).mono ?_;rintro x w3 ⟨rfl,h3,aR⟩;have fC:=Yy a8 cZ UZz aR;have fM:=Vas cZ aR.size;clear h2 aR a8 cZ;have gZ:=h_ (Zb h3);go_wp2_with fail;refine(gZ.o).mono ?_;rintro x w4 ⟨rfl,rfl⟩;go_wp2_with fail;refine(gu.o _).mono ?_;rintro x wn ⟨rfl,cU⟩;have jC:=fC.trans (cU.mono fM);obtain⟨⟨c0,c1,f0,f1⟩,⟨z0,z1⟩,hB⟩:=aI.o _ jC;have HB:=h_ hB;clear cU jC hB aI gu fC fM;go_wp2_with ((with_reducible show bodyPost _ _ _ _ _ _);refine bodyPost_ret (v:=.tuple #[.agg #[.int .i64 0,.string ⟨#[]⟩],.int .i64 0,.bool false,.bool false]) (by simp[results,Tryz.results84,go_sem,z0,z1];try rfl) rfl ?_;exact⟨rfl,HB.o⟩)
theorem Z9F (hS:S.size<=1000000000) (kD:2<=S.size) (dW:∀h:0<S.size,(S[0]'h).toNat=165) {b8:Nat} (du:∀h:1<S.size,(S[1]'h).toNat=b8) (uC:b8<32) (hex:S.extract 2 S.size=RS) (iV:RS.size<=1000000000) {tb ts kb ks:ByteArray} (gR:ZT RS 0 4096=(tb,ts,0)) (cj:ts.size<=1000000000) (ax:ZB ts 0 4=(kb,ks,0)) {z:Nat} (hz:z+ks.size=S.size) (F:List UInt8) (hF:S.extract 0 z=bs F) (ko:F.length<=1000000000) (fX:QQ F=false):
  Calls Tryz.prog 84 #[.string S] w λx w'=>x=.returned (.tuple #[.agg #[.int .i64 0,.string ⟨#[]⟩],.int .i64 0,.bool false,.bool false])/\Below w.heap.size w w':=by
 have gu:=h_ (λW=>Xz W);have dq:=h_ (λW hb v0 v1=>Xq (w:=w) (W:=W) hb v0 v1);have aI:=h_ (λW hb=>Xq (w:=w) (W:=W) hb (.int .i64 0) (.string ⟨#[]⟩));have Hv:=h_ (Zdf RS w (.cells #[.int .i64 0,.string ⟨#[]⟩] 36));have tW:¬(S.size:Int)<2:=(by omega);have dz:(2:Int)<=(S.size:Int):=(by omega);have bW:(1:Int)<(S.size:Int):=(by omega);have fl:(0:Int)<(S.size:Int):=(by omega);have dc:0<S.size:=(by omega);have gJ:1<S.size:=(by omega);have ta:¬(32:Int)<=(b8:Int):=(by omega);have gG:=h_ (λ(W:World) (b:Nat) (h:RV W b RS 0)=>ZO h (by omega) 4096);rw[gR] at gG;have gI:=h_ (λ(W:World) (b:Nat) (h:RV W b ts 0)=>Zu h (by omega) 4);rw[ax] at gI;simp only at gG gI;have ig:=h_ (λ(W:World) (b:Nat) (h:RV W b ks 0)=>Zt h (by omega));have Ec:(S.size:Int)-(ks.size:Int)=(z:Int):=(by omega);have dA:(0:Int)<=(z:Int):=(by omega);have JW:(z:Int)<=(S.size:Int):=(by omega);have mI:=h_ (λW=>XQ F ko W);rw[fX,Vad (by decide)] at mI;generalize bs F=FS at*;clear gR ax dq cj iV fX ko hz;go_enter Tryz.func84,Tryz.ntmps84;go_wp2_with fail;refine(Hv.o).mono ?_;rintro x w1 ⟨rfl,h1,a7,aM⟩;go_wp2_with fail;refine(gG.o _ _ h1).mono ?_;rintro x w2 ⟨rfl,h2,ai⟩;have a8:=Yy a7 aM UZz ai;have cZ:=Vas aM ai.size;clear h1 ai a7 aM;go_wp2_with fail;refine(gI.o _ _ h2).mono ?_;rintro x w3 ⟨rfl,h3,aR⟩;have fC:=Yy a8 cZ UZz aR;have fM:=Vas cZ aR.size;clear h2 aR a8 cZ;have gZ:=h_ (Zb h3);go_wp2_with fail;refine(gZ.o).mono ?_;rintro x w4 ⟨rfl,rfl⟩;go_wp2_with fail;refine(ig.o _ _ h3).mono ?_;rintro x w4 ⟨rfl,rfl⟩;go_wp2_with fail;refine(mI.o _).mono ?_;rintro x w4 ⟨⟨y,rfl⟩,rfl⟩;clear h3 gZ Hv gG gI ig mI;go_wp2_with fail;refine(gu.o _).mono ?_;rintro x wn ⟨rfl,cU⟩;have jC:=fC.trans (cU.mono fM);obtain⟨⟨c0,c1,f0,f1⟩,⟨z0,z1⟩,hB⟩:=aI.o _ jC;have HB:=h_ hB;clear cU jC hB aI gu fC fM;go_wp2_with ((with_reducible show bodyPost _ _ _ _ _ _);refine bodyPost_ret (v:=.tuple #[.agg #[.int .i64 0,.string ⟨#[]⟩],.int .i64 0,.bool false,.bool false]) (by simp[results,Tryz.results84,go_sem,z0,z1];try rfl) rfl ?_;exact⟨rfl,HB.o⟩)
end
section
variable {S RS:ByteArray} {w:World}
theorem Z6Q (hS:S.size<=1000000000) (kD:2<=S.size) (dW:∀h:0<S.size,(S[0]'h).toNat=165) {b8:Nat} (du:∀h:1<S.size,(S[1]'h).toNat=b8) (uC:b8<32) (hex:S.extract 2 S.size=RS) (iV:RS.size<=1000000000) {body:List UInt8} {ts kb ks:ByteArray} (gR:ZT RS 0 4096=(bs body,ts,0)) (cj:ts.size<=1000000000) (ax:ZB ts 0 4=(kb,ks,0)) {z:Nat} (hz:z+ks.size=S.size) (F:List UInt8) (hF:S.extract 0 z=bs F) (ko:F.length<=1000000000) (fX:QQ F=true) (o5:16<=b8) (cF:body.length<=1000000000) (qO:(lzD body 4096).2≠0):
  Calls Tryz.prog 84 #[.string S] w λx w'=>x=.returned (.tuple #[.agg #[.int .i64 0,.string ⟨#[]⟩],.int .i64 0,.bool false,.bool false])/\Below w.heap.size w w':=by
 have gu:=h_ (λW=>Xz W);have dq:=h_ (λW hb v0 v1=>Xq (w:=w) (W:=W) hb v0 v1);have aI:=h_ (λW hb=>Xq (w:=w) (W:=W) hb (.int .i64 0) (.string ⟨#[]⟩));have Hv:=h_ (Zdf RS w (.cells #[.int .i64 0,.string ⟨#[]⟩] 36));have tW:¬(S.size:Int)<2:=(by omega);have dz:(2:Int)<=(S.size:Int):=(by omega);have bW:(1:Int)<(S.size:Int):=(by omega);have fl:(0:Int)<(S.size:Int):=(by omega);have dc:0<S.size:=(by omega);have gJ:1<S.size:=(by omega);have ta:¬(32:Int)<=(b8:Int):=(by omega);have gG:=h_ (λ(W:World) (b:Nat) (h:RV W b RS 0)=>ZO h (by omega) 4096);rw[gR] at gG;have gI:=h_ (λ(W:World) (b:Nat) (h:RV W b ts 0)=>Zu h (by omega) 4);rw[ax] at gI;simp only at gG gI;have ig:=h_ (λ(W:World) (b:Nat) (h:RV W b ks 0)=>Zt h (by omega));have Ec:(S.size:Int)-(ks.size:Int)=(z:Int):=(by omega);have dA:(0:Int)<=(z:Int):=(by omega);have JW:(z:Int)<=(S.size:Int):=(by omega);have mI:=h_ (λW=>XQ F ko W);rw[fX,Vaf rfl] at mI;have sc:(b8:Int) % 16=((b8 % 16:Nat):Int):=(by omega);have jH:(b8:Int).tmod 16=((b8 % 16:Nat):Int):=(by rw[Vb8 (by omega)];omega);have qP:=h_ (λW=>Z11 body cF 4096 W);obtain⟨⟨lc,le⟩,hl⟩:∃x,lzD body 4096=x:=⟨_,rfl⟩;rw[hl] at qP qO;unfold lzV at qP;simp only at qP qO;have hle:((le:Int) !=0)=true:=(by rw[Va1];omega);have qQ:(16:Int)<=(b8:Int):=(by omega);have CO:decide ((16:Int)<=(b8:Int))=true:=Vam qQ;generalize bs F=FS at*;generalize bs lc=LC at*;generalize bs body=BS at*;obtain⟨k,hk⟩:∃x,b8 % 16=x:=⟨_,rfl⟩;rw[hk] at sc jH;clear gR ax dq cj iV fX ko hz hl qO hk cF o5;go_enter Tryz.func84,Tryz.ntmps84;go_wp2_with fail;refine(Hv.o).mono ?_;rintro x w1 ⟨rfl,h1,a7,aM⟩;go_wp2_with fail;refine(gG.o _ _ h1).mono ?_;rintro x w2 ⟨rfl,h2,ai⟩;have a8:=Yy a7 aM UZz ai;have cZ:=Vas aM ai.size;clear h1 ai a7 aM;go_wp2_with fail;refine(gI.o _ _ h2).mono ?_;rintro x w3 ⟨rfl,h3,aR⟩;have fC:=Yy a8 cZ UZz aR;have fM:=Vas cZ aR.size;clear h2 aR a8 cZ;have gZ:=h_ (Zb h3);go_wp2_with fail;refine(gZ.o).mono ?_;rintro x w4 ⟨rfl,rfl⟩;go_wp2_with fail;refine(ig.o _ _ h3).mono ?_;rintro x w4 ⟨rfl,rfl⟩;go_wp2_with fail;refine(mI.o _).mono ?_;rintro x w4 ⟨⟨y,rfl⟩,rfl⟩;clear h3 gZ Hv gG gI ig mI;go_wp2_with fail;refine(qP.o _).mono ?_;rintro x w5 ⟨rfl,aB⟩;have uD:=fC.alloc fM (.cells #[.int .i64 (k:Int),.string BS] 36);have dO:w.heap.size+1<=(w3.alloc (.cells #[.int .i64 (k:Int),.string BS] 36)).heap.size:=(by rw[World.size_alloc];omega);have lG:=uD.trans (aB.mono dO);have ku:=Vas dO aB.size;clear fC fM uD dO aB;have fC:=lG;have fM:=ku;clear lG ku;go_wp2_with fail;refine(gu.o _).mono ?_;rintro x wn ⟨rfl,cU⟩;have jC:=fC.trans (cU.mono fM);obtain⟨⟨c0,c1,f0,f1⟩,⟨z0,z1⟩,hB⟩:=aI.o _ jC;have HB:=h_ hB;clear cU jC hB aI gu fC fM;go_wp2_with ((with_reducible show bodyPost _ _ _ _ _ _);refine bodyPost_ret (v:=.tuple #[.agg #[.int .i64 0,.string ⟨#[]⟩],.int .i64 0,.bool false,.bool false]) (by simp[results,Tryz.results84,go_sem,z0,z1];try rfl) rfl ?_;exact⟨rfl,HB.o⟩)
theorem Z6R (hS:S.size<=1000000000) (kD:2<=S.size) (dW:∀h:0<S.size,(S[0]'h).toNat=165) {b8:Nat} (du:∀h:1<S.size,(S[1]'h).toNat=b8) (uC:b8<32) (hex:S.extract 2 S.size=RS) (iV:RS.size<=1000000000) {c:List UInt8} {ts kb ks:ByteArray} (gR:ZT RS 0 4096=(bs c,ts,0)) (cj:ts.size<=1000000000) (ax:ZB ts 0 4=(kb,ks,0)) {z:Nat} (hz:z+ks.size=S.size) (F:List UInt8) (hF:S.extract 0 z=bs F) (ko:F.length<=1000000000) (fX:QQ F=true) (o5:b8<16) (ir:c.length<=1000000000):
  Calls Tryz.prog 84 #[.string S] w λx w'=>x=.returned (if decide (ZA (b8 % 16) c=some F)=true then .tuple #[frV (b8 % 16) c,.int .i64 (z:Int),.bool false,.bool true] else .tuple #[.agg #[.int .i64 0,.string ⟨#[]⟩],.int .i64 0,.bool false,.bool false])/\Below w.heap.size w w':=by
 have gu:=h_ (λW=>Xz W);have dq:=h_ (λW hb v0 v1=>Xq (w:=w) (W:=W) hb v0 v1);have aI:=h_ (λW hb=>Xq (w:=w) (W:=W) hb (.int .i64 0) (.string ⟨#[]⟩));have Hv:=h_ (Zdf RS w (.cells #[.int .i64 0,.string ⟨#[]⟩] 36));have tW:¬(S.size:Int)<2:=(by omega);have dz:(2:Int)<=(S.size:Int):=(by omega);have bW:(1:Int)<(S.size:Int):=(by omega);have fl:(0:Int)<(S.size:Int):=(by omega);have dc:0<S.size:=(by omega);have gJ:1<S.size:=(by omega);have ta:¬(32:Int)<=(b8:Int):=(by omega);have gG:=h_ (λ(W:World) (b:Nat) (h:RV W b RS 0)=>ZO h (by omega) 4096);rw[gR] at gG;have gI:=h_ (λ(W:World) (b:Nat) (h:RV W b ts 0)=>Zu h (by omega) 4);rw[ax] at gI;simp only at gG gI;have ig:=h_ (λ(W:World) (b:Nat) (h:RV W b ks 0)=>Zt h (by omega));have Ec:(S.size:Int)-(ks.size:Int)=(z:Int):=(by omega);have dA:(0:Int)<=(z:Int):=(by omega);have JW:(z:Int)<=(S.size:Int):=(by omega);have mI:=h_ (λW=>XQ F ko W);rw[fX,Vaf rfl] at mI;have sc:(b8:Int) % 16=((b8 % 16:Nat):Int):=(by omega);have jH:(b8:Int).tmod 16=((b8 % 16:Nat):Int):=(by rw[Vb8 (by omega)];omega);have mD:=h_ (λW=>Z4d (b8 % 16) (by omega) c ir W)
 have iM:(decide (ZA (b8 % 16) c=some F)=true/\optV (ZA (b8 % 16) c)=.tuple #[.string (bs F),.int .i64 0])\/(decide (ZA (b8 % 16) c=some F)=false/\optV (ZA (b8 % 16) c)=.tuple #[.string ⟨#[]⟩,.int .i64 9])\/(decide (ZA (b8 % 16) c=some F)=false/\∃v,optV (ZA (b8 % 16) c)=.tuple #[.string (bs v),.int .i64 0]/\v≠F):=by
  cases hw:ZA (b8 % 16) c with
  |none=>exact .inr (.inl ⟨by simp,rfl⟩)
  |some v=>
   by_cases h:v=F
   ·subst h;exact .inl ⟨by simp,rfl⟩
   ·exact .inr (.inr ⟨by simp[h],v,rfl,h⟩)
 obtain⟨ok,bH⟩:∃x,decide (ZA (b8 % 16) c=some F)=x:=⟨_,rfl⟩;rw[bH] at iM⊢
 have qR:∃(O:ByteArray) (we:Int),optV (ZA (b8 % 16) c)=.tuple #[.string O,.int .i64 we]/\((ok=true/\(we !=0)=false/\(O.toList !=(bs F).toList)=false/\(O.toList==(bs F).toList)=true)\/(ok=false/\(we !=0)=true)\/(ok=false/\(we !=0)=false/\(O.toList !=(bs F).toList)=true/\(O.toList==(bs F).toList)=false)):=by
  rcases iM with ⟨h1,h2⟩|⟨h1,h2⟩|⟨h1,v,h2,h3⟩
  ·exact⟨_,_,h2,.inl ⟨h1,rfl,by simp,by simp⟩⟩
  ·exact⟨_,_,h2,.inr (.inl ⟨h1,rfl⟩)⟩
  ·obtain⟨n1,n2⟩:=Z88 v F;rw[Vah h3] at n1 n2;exact⟨_,_,h2,.inr (.inr ⟨h1,rfl,n1,n2⟩)⟩
 obtain⟨O,we,hO,aH⟩:=qR;rw[hO] at mD;unfold frV at mD⊢;have qQ:¬(16:Int)<=(b8:Int):=(by omega);have CO:decide ((16:Int)<=(b8:Int))=false:=Vah qQ;generalize bs F=FS at*;generalize bs c=CS at*;obtain⟨k,hk⟩:∃x,b8 % 16=x:=⟨_,rfl⟩;rw[hk] at sc jH mD⊢;clear gR ax cj iV fX ko hz hk ir o5 iM bH hO;go_enter Tryz.func84,Tryz.ntmps84;go_wp2_with fail;refine(Hv.o).mono ?_;rintro x w1 ⟨rfl,h1,a7,aM⟩;go_wp2_with fail;refine(gG.o _ _ h1).mono ?_;rintro x w2 ⟨rfl,h2,ai⟩;have a8:=Yy a7 aM UZz ai;have cZ:=Vas aM ai.size;clear h1 ai a7 aM;go_wp2_with fail;refine(gI.o _ _ h2).mono ?_;rintro x w3 ⟨rfl,h3,aR⟩;have fC:=Yy a8 cZ UZz aR;have fM:=Vas cZ aR.size;clear h2 aR a8 cZ;have gZ:=h_ (Zb h3);go_wp2_with fail;refine(gZ.o).mono ?_;rintro x w4 ⟨rfl,rfl⟩;go_wp2_with fail;refine(ig.o _ _ h3).mono ?_;rintro x w4 ⟨rfl,rfl⟩;go_wp2_with fail;refine(mI.o _).mono ?_;rintro x w4 ⟨⟨y,rfl⟩,rfl⟩;clear h3 gZ Hv gG gI ig mI;go_wp2_with fail;refine(mD.o _).mono ?_;rintro x w5 ⟨rfl,aB⟩;have tc:=(Bk.new w3 36 #[.int .i64 (k:Int),.string CS]).below aB (by simp);have q0:=tc.cell 0;have q1:=tc.cell 1;simp at q0 q1;have uD:=fC.alloc fM (.cells #[.int .i64 (k:Int),.string CS] 36);have dO:w.heap.size+1<=(w3.alloc (.cells #[.int .i64 (k:Int),.string CS] 36)).heap.size:=(by rw[World.size_alloc];omega);have lG:=uD.trans (aB.mono dO);have ku:=Vas dO aB.size;clear fC fM uD dO aB tc mD;have fC:=lG;have fM:=ku;clear lG ku;rcases aH with ⟨bH,CP,JX,xj⟩|⟨bH,CP⟩|⟨bH,CP,JX,xj⟩
 ·subst bH;have hR:=dq.o _ fC (.int .i64 (k:Int)) (.string CS);obtain⟨⟨c0,c1,f0,f1⟩,⟨z0,z1⟩,hB⟩:=hR;have HB:=h_ hB;clear hB fC fM gu aI dq;go_wp2_with ((with_reducible show bodyPost _ _ _ _ _ _);refine bodyPost_ret (v:=.tuple #[.agg #[.int .i64 (k:Int),.string CS],.int .i64 (z:Int),.bool false,.bool true]) (by simp[results,Tryz.results84,go_sem,z0,z1];try rfl) rfl ?_;exact⟨rfl,HB.o⟩)
 ·subst bH;clear dq;go_wp2_with fail;refine(gu.o _).mono ?_;rintro x wn ⟨rfl,cU⟩;have jC:=fC.trans (cU.mono fM);obtain⟨⟨c0,c1,f0,f1⟩,⟨z0,z1⟩,hB⟩:=aI.o _ jC;have HB:=h_ hB;clear cU jC hB aI gu fC fM;go_wp2_with ((with_reducible show bodyPost _ _ _ _ _ _);refine bodyPost_ret (v:=.tuple #[.agg #[.int .i64 0,.string ⟨#[]⟩],.int .i64 0,.bool false,.bool false]) (by simp[results,Tryz.results84,go_sem,z0,z1];try rfl) rfl ?_;exact⟨rfl,HB.o⟩)
 ·subst bH;clear dq;go_wp2_with fail;refine(gu.o _).mono ?_;rintro x wn ⟨rfl,cU⟩;have jC:=fC.trans (cU.mono fM);obtain⟨⟨c0,c1,f0,f1⟩,⟨z0,z1⟩,hB⟩:=aI.o _ jC;have HB:=h_ hB;clear cU jC hB aI gu fC fM;go_wp2_with ((with_reducible show bodyPost _ _ _ _ _ _);refine bodyPost_ret (v:=.tuple #[.agg #[.int .i64 0,.string ⟨#[]⟩],.int .i64 0,.bool false,.bool false]) (by simp[results,Tryz.results84,go_sem,z0,z1];try rfl) rfl ?_;exact⟨rfl,HB.o⟩)
theorem Z6S (hS:S.size<=1000000000) (kD:2<=S.size) (dW:∀h:0<S.size,(S[0]'h).toNat=165) {b8:Nat} (du:∀h:1<S.size,(S[1]'h).toNat=b8) (uC:b8<32) (hex:S.extract 2 S.size=RS) (iV:RS.size<=1000000000) {body:List UInt8} {ts kb ks:ByteArray} (gR:ZT RS 0 4096=(bs body,ts,0)) (cj:ts.size<=1000000000) (ax:ZB ts 0 4=(kb,ks,0)) {z:Nat} (hz:z+ks.size=S.size) (F:List UInt8) (hF:S.extract 0 z=bs F) (ko:F.length<=1000000000) (fX:QQ F=true) (o5:16<=b8) (cF:body.length<=1000000000) {c:List UInt8} (qO:lzD body 4096=(c,0)) (ir:c.length<=1000000000):
  Calls Tryz.prog 84 #[.string S] w λx w'=>x=.returned (if decide (ZA (b8 % 16) c=some F)=true then .tuple #[frV (b8 % 16) c,.int .i64 (z:Int),.bool true,.bool true] else .tuple #[.agg #[.int .i64 0,.string ⟨#[]⟩],.int .i64 0,.bool false,.bool false])/\Below w.heap.size w w':=by
 have gu:=h_ (λW=>Xz W);have dq:=h_ (λW hb v0 v1=>Xq (w:=w) (W:=W) hb v0 v1);have aI:=h_ (λW hb=>Xq (w:=w) (W:=W) hb (.int .i64 0) (.string ⟨#[]⟩));have Hv:=h_ (Zdf RS w (.cells #[.int .i64 0,.string ⟨#[]⟩] 36));have tW:¬(S.size:Int)<2:=(by omega);have dz:(2:Int)<=(S.size:Int):=(by omega);have bW:(1:Int)<(S.size:Int):=(by omega);have fl:(0:Int)<(S.size:Int):=(by omega);have dc:0<S.size:=(by omega);have gJ:1<S.size:=(by omega);have ta:¬(32:Int)<=(b8:Int):=(by omega);have gG:=h_ (λ(W:World) (b:Nat) (h:RV W b RS 0)=>ZO h (by omega) 4096);rw[gR] at gG;have gI:=h_ (λ(W:World) (b:Nat) (h:RV W b ts 0)=>Zu h (by omega) 4);rw[ax] at gI;simp only at gG gI;have ig:=h_ (λ(W:World) (b:Nat) (h:RV W b ks 0)=>Zt h (by omega));have Ec:(S.size:Int)-(ks.size:Int)=(z:Int):=(by omega);have dA:(0:Int)<=(z:Int):=(by omega);have JW:(z:Int)<=(S.size:Int):=(by omega);have mI:=h_ (λW=>XQ F ko W);rw[fX,Vaf rfl] at mI;have sc:(b8:Int) % 16=((b8 % 16:Nat):Int):=(by omega);have jH:(b8:Int).tmod 16=((b8 % 16:Nat):Int):=(by rw[Vb8 (by omega)];omega);have mD:=h_ (λW=>Z4d (b8 % 16) (by omega) c ir W)
 have iM:(decide (ZA (b8 % 16) c=some F)=true/\optV (ZA (b8 % 16) c)=.tuple #[.string (bs F),.int .i64 0])\/(decide (ZA (b8 % 16) c=some F)=false/\optV (ZA (b8 % 16) c)=.tuple #[.string ⟨#[]⟩,.int .i64 9])\/(decide (ZA (b8 % 16) c=some F)=false/\∃v,optV (ZA (b8 % 16) c)=.tuple #[.string (bs v),.int .i64 0]/\v≠F):=by
  cases hw:ZA (b8 % 16) c with
  |none=>exact .inr (.inl ⟨by simp,rfl⟩)
  |some v=>
   by_cases h:v=F
   ·subst h;exact .inl ⟨by simp,rfl⟩
   ·exact .inr (.inr ⟨by simp[h],v,rfl,h⟩)
 obtain⟨ok,bH⟩:∃x,decide (ZA (b8 % 16) c=some F)=x:=⟨_,rfl⟩;rw[bH] at iM⊢
 have qR:∃(O:ByteArray) (we:Int),optV (ZA (b8 % 16) c)=.tuple #[.string O,.int .i64 we]/\((ok=true/\(we !=0)=false/\(O.toList !=(bs F).toList)=false/\(O.toList==(bs F).toList)=true)\/(ok=false/\(we !=0)=true)\/(ok=false/\(we !=0)=false/\(O.toList !=(bs F).toList)=true/\(O.toList==(bs F).toList)=false)):=by
  rcases iM with ⟨h1,h2⟩|⟨h1,h2⟩|⟨h1,v,h2,h3⟩
  ·exact⟨_,_,h2,.inl ⟨h1,rfl,by simp,by simp⟩⟩
  ·exact⟨_,_,h2,.inr (.inl ⟨h1,rfl⟩)⟩
  ·obtain⟨n1,n2⟩:=Z88 v F;rw[Vah h3] at n1 n2;exact⟨_,_,h2,.inr (.inr ⟨h1,rfl,n1,n2⟩)⟩
 obtain⟨O,we,hO,aH⟩:=qR;rw[hO] at mD;unfold frV at mD⊢;have qQ:(16:Int)<=(b8:Int):=(by omega);have CO:decide ((16:Int)<=(b8:Int))=true:=Vam qQ;have qP:=h_ (λW=>Z11 body cF 4096 W);rw[qO] at qP;unfold lzV at qP;simp only at qP;have z0:((0:Nat):Int)=0:=rfl;rw[z0] at qP;generalize bs F=FS at*;generalize bs c=CS at*;generalize bs body=BS at*;obtain⟨k,hk⟩:∃x,b8 % 16=x:=⟨_,rfl⟩;rw[hk] at sc jH mD⊢;clear gR ax cj iV fX ko hz hk ir o5 iM bH hO qO cF z0;go_enter Tryz.func84,Tryz.ntmps84;go_wp2_with fail;refine(Hv.o).mono ?_;rintro x w1 ⟨rfl,h1,a7,aM⟩;go_wp2_with fail;refine(gG.o _ _ h1).mono ?_;rintro x w2 ⟨rfl,h2,ai⟩;have a8:=Yy a7 aM UZz ai;have cZ:=Vas aM ai.size;clear h1 ai a7 aM;go_wp2_with fail;refine(gI.o _ _ h2).mono ?_;rintro x w3 ⟨rfl,h3,aR⟩;have fC:=Yy a8 cZ UZz aR;have fM:=Vas cZ aR.size;clear h2 aR a8 cZ;have gZ:=h_ (Zb h3);go_wp2_with fail;refine(gZ.o).mono ?_;rintro x w4 ⟨rfl,rfl⟩;go_wp2_with fail;refine(ig.o _ _ h3).mono ?_;rintro x w4 ⟨rfl,rfl⟩;go_wp2_with fail;refine(mI.o _).mono ?_;rintro x w4 ⟨⟨y,rfl⟩,rfl⟩;clear h3 gZ Hv gG gI ig mI;go_wp2_with fail;refine(qP.o _).mono ?_;rintro x w5 ⟨rfl,aB⟩;have tc:=(Bk.new w3 36 #[.int .i64 (k:Int),.string BS]).below aB (by simp);have q0:=tc.cell 0;have q1:=tc.cell 1;have p1:=tc.frozen 1;simp at q0 q1;have uD:=fC.alloc fM (.cells #[.int .i64 (k:Int),.string BS] 36);have dO:w.heap.size+1<=(w3.alloc (.cells #[.int .i64 (k:Int),.string BS] 36)).heap.size:=(by rw[World.size_alloc];omega);have lG:=(uD.trans (aB.mono dO)).setCell (p:=⟨w3.heap.size,1,none⟩) fM (.string CS);have ku:w.heap.size+1<=(w5.setCell ⟨w3.heap.size,1,none⟩ (.string CS)).heap.size:=(by simpa using Vas dO aB.size);have tf:=tc.put 1 (.string CS);have r0:=tf.cell 0;have r1:=tf.cell 1;simp at r0 r1;have JY:=h_ tf;clear fC fM uD dO aB tc tf qP;go_wp2_with fail;generalize w5.setCell ⟨w3.heap.size,1,none⟩ (.string CS)=W6 at*;refine(mD.o _).mono ?_;rintro x w7 ⟨rfl,eA⟩;have xk:=JY.o.below eA JY.o.lt;have v0:=xk.cell 0;have v1:=xk.cell 1;simp at v0 v1;have fC:=lG.trans (eA.mono ku);have fM:=Vas ku eA.size;clear lG ku eA xk mD JY q0 q1 p1 r0 r1;rcases aH with ⟨bH,CP,JX,xj⟩|⟨bH,CP⟩|⟨bH,CP,JX,xj⟩
 ·subst bH;have hR:=dq.o _ fC (.int .i64 (k:Int)) (.string CS);obtain⟨⟨c0,c1,f0,f1⟩,⟨z0,z1⟩,hB⟩:=hR;have HB:=h_ hB;clear hB fC fM gu aI dq;go_wp2_with ((with_reducible show bodyPost _ _ _ _ _ _);refine bodyPost_ret (v:=.tuple #[.agg #[.int .i64 (k:Int),.string CS],.int .i64 (z:Int),.bool true,.bool true]) (by simp[results,Tryz.results84,go_sem,z0,z1];try rfl) rfl ?_;exact⟨rfl,HB.o⟩)
 ·subst bH;clear dq;go_wp2_with fail;refine(gu.o _).mono ?_;rintro x wn ⟨rfl,cU⟩;have jC:=fC.trans (cU.mono fM);obtain⟨⟨c0,c1,f0,f1⟩,⟨z0,z1⟩,hB⟩:=aI.o _ jC;have HB:=h_ hB;clear cU jC hB aI gu fC fM;go_wp2_with ((with_reducible show bodyPost _ _ _ _ _ _);refine bodyPost_ret (v:=.tuple #[.agg #[.int .i64 0,.string ⟨#[]⟩],.int .i64 0,.bool false,.bool false]) (by simp[results,Tryz.results84,go_sem,z0,z1];try rfl) rfl ?_;exact⟨rfl,HB.o⟩)
 ·subst bH;clear dq;go_wp2_with fail;refine(gu.o _).mono ?_;rintro x wn ⟨rfl,cU⟩;have jC:=fC.trans (cU.mono fM);obtain⟨⟨c0,c1,f0,f1⟩,⟨z0,z1⟩,hB⟩:=aI.o _ jC;have HB:=h_ hB;clear cU jC hB aI gu fC fM;go_wp2_with ((with_reducible show bodyPost _ _ _ _ _ _);refine bodyPost_ret (v:=.tuple #[.agg #[.int .i64 0,.string ⟨#[]⟩],.int .i64 0,.bool false,.bool false]) (by simp[results,Tryz.results84,go_sem,z0,z1];try rfl) rfl ?_;exact⟨rfl,HB.o⟩)
end
theorem Z6T (a b:UInt8) (r:List UInt8):YD (a::b::r)=if a≠165\/32<=b.toNat then none else match ZG r 4096 with
  |none=>none
  |some (body,r2)=>if r2.length<4 then none else if QQ ((a::b::r).take ((a::b::r).length-(r2.length-4)))=false then none else
   match conT b.toNat body with
   |none=>none
   |some c=>if ZA (b.toNat % 16) c=some ((a::b::r).take ((a::b::r).length-(r2.length-4))) then some (b.toNat % 16,c,(a::b::r).length-(r2.length-4)) else none:=rfl
theorem Zdg (data:List UInt8) (hd:data.length<=1000000000) (w:World):
  Calls Tryz.prog 84 #[.string (bs data)] w λx w'=>x=.returned (paV data)/\Below w.heap.size w w':=by
 match data,hd with
 |[],hd=>
  rw[QL rfl];exact Qz [] hd (.inl (by decide)) w
 |[a],hd=>
  rw[QL rfl];exact Qz [a] hd (.inl (by simp)) w
 |a::b::r,hd=>
  have hf:=Z6T a b r;by_cases qS:a=165
  ·by_cases uC:32<=b.toNat
   ·rw[Vaf (.inr uC)] at hf;rw[QL hf];exact Qz _ hd (.inr (.inr ⟨by simp,by rw[qS];rfl,uC⟩)) w
   ·rw[Vad (by rintro(h|h);exact h qS;exact uC h)] at hf;have hS:(bs (a::b::r)).size<=1000000000:=(by rw[Z0];exact hd);have kD:2<=(bs (a::b::r)).size:=(by rw[Z0];simp);have dW:∀h:0<(bs (a::b::r)).size,((bs (a::b::r))[0]'h).toNat=165:=λh=>(by rw[QR _ 0 (by simp) h,qS];rfl);have du:∀h:1<(bs (a::b::r)).size,((bs (a::b::r))[1]'h).toNat=b.toNat:=λh=>(by rw[QR _ 1 (by simp) h];rfl);have hex:(bs (a::b::r)).extract 2 (bs (a::b::r)).size=bs r:=Qp (bs (a::b::r)) 2;have hl:(a::b::r).length=r.length+2:=rfl;have iV:(bs r).size<=1000000000:=(by rw[Z0];omega);cases ht:ZG r 4096 with
    |none=>
     rw[ht] at hf;simp only at hf;rw[QL hf];obtain⟨e,eK,cR⟩:=Z8X ht;exact Z5x hS kD dW du (by omega) hex iV (show ZT (bs r) 0 4096=(bs [],bs r,e) from cR) iV (Z2Q eK 4) eK
    |some q=>
     obtain⟨body,r2⟩:=q;rw[ht] at hf;simp only at hf;obtain⟨k1,k2,k3,k4⟩:=Z6i ht;have CQ:ZT (bs r) 0 4096=(bs body,bs r2,0):=k1;have cj:(bs r2).size<=1000000000:=(by rw[Z0];omega);by_cases gN:r2.length<4
     ·rw[Vaf gN] at hf;rw[QL hf];exact Z5x hS kD dW du (by omega) hex iV CQ cj (show ZB (bs r2) 0 4=(bs [],bs r2,12) from ZbU (n:=4) gN) (by decide)
     ·rw[Vad gN] at hf;have ax:ZB (bs r2) 0 4=(bs (r2.take 4),bs (r2.drop 4),0):=Z1S (n:=4) (by omega);obtain⟨z,hz⟩:∃z,(a::b::r).length-(r2.length-4)=z:=⟨_,rfl⟩;rw[hz] at hf;have gy:z+(bs (r2.drop 4)).size=(bs (a::b::r)).size:=(by rw[Z0,Z0,Va2];omega);have hF:(bs (a::b::r)).extract 0 z=bs ((a::b::r).take z):=Z3t (bs (a::b::r)) z;have ko:((a::b::r).take z).length<=1000000000:=(by rw[Vau];omega);cases fX:QQ ((a::b::r).take z) with
      |false=>
       rw[fX,Vaf rfl] at hf;rw[QL hf];exact Z9F hS kD dW du (by omega) hex iV CQ cj ax gy _ hF ko fX
      |true=>
       rw[fX,Vad (by decide)] at hf
       have fin:∀(c:List UInt8) (sm:Bool),conT b.toNat body=some c->sm=decide (16<=b.toNat)->((if decide (ZA (b.toNat % 16) c=some ((a::b::r).take z))=true then .tuple #[frV (b.toNat % 16) c,.int .i64 (z:Int),.bool sm,.bool true] else .tuple #[.agg #[.int .i64 0,.string ⟨#[]⟩],.int .i64 0,.bool false,.bool false]:Value))=paV (a::b::r):=by
        intro c sm hc mT;rw[hc] at hf;simp only at hf;by_cases hw:ZA (b.toNat % 16) c=some ((a::b::r).take z)
        ·rw[Vaf hw] at hf;rw[Vaf (Vam hw),Zdd hf,mT];rfl
        ·rw[Vad hw] at hf;rw[Vad (by simpa using hw),QL hf]
       have cF:body.length<=1000000000:=(by omega);by_cases o5:16<=b.toNat
       ·by_cases qO:(lzD body 4096).2=0
        ·have hc:conT b.toNat body=some (lzD body 4096).1:=(by unfold conT;rw[Vaf o5,Vaf qO]);have CR:lzD body 4096=((lzD body 4096).1,0):=(by rw[<-qO]);have ir:=Z1j (Zk5 CR);rw[<-fin _ true hc (by simp[o5])];exact Z6S hS kD dW du (by omega) hex iV CQ cj ax gy _ hF ko fX o5 cF CR (by omega)
        ·have hc:conT b.toNat body=none:=(by unfold conT;rw[Vaf o5,Vad qO]);rw[hc] at hf;simp only at hf;rw[QL hf];exact Z6Q hS kD dW du (by omega) hex iV CQ cj ax gy _ hF ko fX o5 cF qO
       ·have hc:conT b.toNat body=some body:=(by unfold conT;rw[Vad o5]);rw[<-fin _ false hc (by simp[o5])];exact Z6R hS kD dW du (by omega) hex iV CQ cj ax gy _ hF ko fX (by omega) cF
  ·rw[Vaf (.inl qS)] at hf;rw[QL hf];refine Qz _ hd (.inr (.inl ⟨by simp,?_⟩)) w;show a.toNat≠165;intro h;exact qS (UInt8.toNat_inj.1 h)
def uwV (data:List UInt8):Value:=match YD data with
 |none=>.tuple #[.agg #[.int .i64 0,.string ⟨#[]⟩],.int .i64 0,.int .i64 12]
 |some (k,c,n)=>.tuple #[frV k c,.int .i64 (n:Int),.int .i64 0]
theorem Z9G (data:List UInt8) (hd:data.length<=1000000000) (w:World):
  Calls Tryz.prog 60 #[.string (bs data)] w λx w'=>x=.returned (uwV data)/\Below w.heap.size w w':=by
 have Hp:=h_ (λW=>Zdg data hd W);have aI:=h_ (λW hb v0 v1=>Zde (w:=w) (W:=W) hb v0 v1);cases hf:YD data with
 |none=>
  have hu:uwV data=.tuple #[.agg #[.int .i64 0,.string ⟨#[]⟩],.int .i64 0,.int .i64 12]:=(by unfold uwV;rw[hf]);rw[QL hf] at Hp;rw[hu];generalize bs data=S at*;clear hf hu hd;go_enter Tryz.func60,Tryz.ntmps60;go_wp2_with fail;refine(Hp.o _).mono ?_;rintro x w1 ⟨rfl,a7⟩;obtain⟨⟨c0,c1,f0,f1⟩,⟨z0,z1⟩,hB⟩:=aI.o _ a7 (.int .i64 0) (.string ⟨#[]⟩);have HB:=h_ (hB.alloc hB.size (.cells #[.int .i64 0,.string ⟨#[]⟩] 36));have ab:=a7.size;rw[World.size_alloc] at ab;have dz:w.heap.size<w1.heap.size:=(by omega);clear a7 hB aI Hp;go_wp2_with ((with_reducible show bodyPost _ _ _ _ _ _);refine bodyPost_ret (v:=.tuple #[.agg #[.int .i64 0,.string ⟨#[]⟩],.int .i64 0,.int .i64 12]) (by simp[results,Tryz.results60,go_sem,z0,z1,dz];try rfl) rfl ?_;exact⟨rfl,HB.o⟩)
 |some q=>
  obtain⟨k,c,n⟩:=q;have hu:uwV data=.tuple #[.agg #[.int .i64 (k:Int),.string (bs c)],.int .i64 (n:Int),.int .i64 0]:=(by unfold uwV;rw[hf];rfl);rw[Zdd hf] at Hp;unfold frV at Hp;rw[hu];generalize decide (16<=(data.getD 1 0).toNat)=sm at*;generalize bs data=S at*;generalize bs c=CS at*;clear hf hu hd;go_enter Tryz.func60,Tryz.ntmps60;go_wp2_with fail;refine(Hp.o _).mono ?_;rintro x w1 ⟨rfl,a7⟩;obtain⟨⟨c0,c1,f0,f1⟩,⟨z0,z1⟩,hB⟩:=aI.o _ a7 (.int .i64 (k:Int)) (.string CS);have HB:=h_ (hB.alloc hB.size (.cells #[.int .i64 (k:Int),.string CS] 36));have ab:=a7.size;rw[World.size_alloc] at ab;have dz:w.heap.size<w1.heap.size:=(by omega);clear a7 hB aI Hp;go_wp2_with ((with_reducible show bodyPost _ _ _ _ _ _);refine bodyPost_ret (v:=.tuple #[.agg #[.int .i64 (k:Int),.string CS],.int .i64 (n:Int),.int .i64 0]) (by simp[results,Tryz.results60,go_sem,z0,z1,dz];try rfl) rfl ?_;exact⟨rfl,HB.o⟩)
end Go.Proofs.YtchokmkfobandaaGreatDoor
