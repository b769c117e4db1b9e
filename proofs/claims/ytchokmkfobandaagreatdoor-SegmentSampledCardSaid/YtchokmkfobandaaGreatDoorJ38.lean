import Derived.Test.YtchokmkfobandaaGreatDoorJ34
set_option linter.unusedVariables false
set_option linter.unusedSimpArgs false
set_option maxRecDepth 100000
set_option maxHeartbeats 8000000
namespace Go.Proofs.YtchokmkfobandaaGreatDoor
open Go.RowKit Go.Proofs Wv Wv.Vi Wv.Rc Wv.Mo Wv.Ru Wv.Lz Wv.Fm
theorem Z89 {w:World} {g:Nat} (a b:Nat) (ha:a<256) (hb:b<256) (h:Bk w g 5 #[.int .u8 (a:Int),.int .u8 (b:Int)]):
  (convert 115 9 (.slice (some ⟨g,0,none⟩) 2 2)).run Tryz.prog w=.ok (.string (bs [UInt8.ofNat a,UInt8.ofNat b])) w:=by
 refine run_convert_bytes_back w 115 9 5 ⟨g,0,none⟩ 2 [UInt8.ofNat a,UInt8.ofNat b] Tryz.underlying115 Tryz.underlying5 Tryz.underlying9 (λj hj=> ?_);have tM:j<2:=hj;rw[Go.WideShapes.add_plain,Vbo,h.cell];have:j=0\/j=1:=(by omega);rcases this with rfl|rfl<;>simp[Nat.mod_eq_of_lt, *]
theorem ZiY {c t:List UInt8} (h:lzE c=some t):t.length<=600000:=by
 unfold lzE at h;split at h
 ·cases h
 ·rename_i hc;injection h with h;rw[<-h,Vab];have h9:=kof9 c.length;split
  ·simp;omega
  ·have key:∀(i:Nat) (l:List Pc),Parses c i l->∀x:Ms×En,(Xp l x).2.out.length<=x.2.out.length+135*(c.length-i):=by
    intro i l hp;induction hp with
    |done=>intro x;show x.2.out.length<=_;omega
    | @step i p l hk r ih=>
     intro x;obtain⟨o1,o2,o3⟩:=ZcX hk (by omega);have bU:=hk.pos;have h1:=ih (penc p x);have h2:=Z81 o1 o2 (by omega) x;rw[Z9t];omega
   have:=key 0 (parse c) (Qb c) (m0,e0);have e:(m0,e0).2.out.length=0:=rfl;rw[e] at this;unfold efin;rw[Vab,be4];simp only[Vaz,Vcc];omega
theorem Zgb (k:Nat) (c:List UInt8):ZB k c=match lzE c with
  |none=>none
  |some t=>some (Z2s k c t):=by
 unfold ZB;cases lzE c<;>rfl
theorem ZkI {w w2:World} {o:Obj} (a8:Below (w.alloc o).drew.heap.size (w.alloc o).drew w2):w2.heap[w.heap.size]? =some o/\Below w.heap.size w w2:=
 ⟨(a8.block w.heap.size (by show w.heap.size<(w.alloc o).heap.size;simp)).trans (heap_alloc_new w o),((Vae w.heap.size w).alloc UZz o).drew.trans (a8.mono (by show w.heap.size<=(w.alloc o).heap.size;simp))⟩
theorem Zdc {k:Nat} (hk:k<32) {c:List UInt8} (hc:c.length<=4096) {R:List UInt8} (hR:QB (165::UInt8.ofNat k::(num c.length++c))=R):
  (∀W:World,(convert 115 9 (.slice (some ⟨W.heap.size,0,none⟩) 2 2)).run Tryz.prog (W.alloc (.cells #[.int .u8 165,.int .u8 (k:Int)] 5))=.ok (.string (bs [165,UInt8.ofNat k])) (W.alloc (.cells #[.int .u8 165,.int .u8 (k:Int)] 5)))/\
  (∀(W w2:World),w2.heap[W.heap.size]? =some (.cells #[.int .u8 165,.int .u8 (k:Int)] 5)->(convert 115 9 (.slice (some ⟨W.heap.size,0,none⟩) 2 2)).run Tryz.prog w2=.ok (.string (bs [165,UInt8.ofNat k])) w2)/\
  (∀W:World,Calls Tryz.prog 54 #[.string (bs c)] W λx w'=>x=.returned (.string (bs (num c.length++c)))/\Below W.heap.size W w')/\
  (∀W:World,Calls Tryz.prog 83 #[.string (bs [165,UInt8.ofNat k]++bs (num c.length++c))] W λx w'=>x=.returned (.string (bs R))/\Below W.heap.size W w')/\(bs [165,UInt8.ofNat k]).size=2/\(bs (num c.length++c)).size<=10000:=by
 have UR:(165:UInt8)=UInt8.ofNat 165:=rfl;refine⟨λW=> ?_,λW w2 h=> ?_,λW=> ?_,λW=> ?_,rfl,?_⟩
 ·exact Z89 165 k (by omega) (by omega) (Bk.new W _ _)
 ·exact Z89 165 k (by omega) (by omega) h
 ·have h1:=XJ (bs c) (by rw[Z0];omega) W;have h2:text (bs c)=num c.length++c:=(by unfold text;rw[Z0,Ze]);rw[h2] at h1;exact h1
 ·have:=Z6x (165::UInt8.ofNat k::(num c.length++c)) (by have:=kof9 c.length;simp only[Vaz,Vab];omega) W;rw[hR] at this;rw[Zg];exact this
 ·have:=kof9 c.length;rw[Z0,Vab];omega
theorem bel3 {w W1 w2 w3:World} (h1:Below w.heap.size w W1) (h2:Below W1.heap.size W1 w2) (h3:Below w2.heap.size w2 w3):Below w.heap.size w w3:=
 (h1.trans (h2.mono h1.size)).trans (h3.mono (Vaq h1.size h2.size))
theorem Zlk {w W1 w2 w3:World} {o:Obj} (h1:Below w.heap.size w W1) (h2:Below W1.heap.size W1 w2) (h3:Below (w2.alloc o).heap.size (w2.alloc o) w3):Below w.heap.size w w3:=
 bel3 h1 (h2.alloc h2.size o) h3
def frV (k:Nat) (c:List UInt8):Value:=.agg #[.int .i64 (k:Int),.string (bs c)]
theorem Z46 (k:Nat) (hk:k<16) (c:List UInt8) (hc:c.length<=1000000000) (w:World):
  Calls Tryz.prog 59 #[frV k c] w λx w'=>x=.returned (optV (ZB k c))/\Below w.heap.size w w':=by
 have ic:=h_ (λW=>Z0V c hc W);have hW:=Zgb k c;have he:bs ([]:List UInt8)=⟨#[]⟩:=rfl;have aB:=h_ ((Vae w.heap.size w).alloc UZz (.cells #[.int .i64 (k:Int),.string (bs c)] 36));have sH:=h_ (Bk.new w 36 #[.int .i64 (k:Int),.string (bs c)]);have JT:¬(15:Int)<(k:Int):=(by omega);unfold frV;cases hE:lzE c with
 |none=>
  rw[hE] at hW ic;simp only at hW;rw[hW];have dE:optV none=.tuple #[.string ⟨#[]⟩,.int .i64 9]:=rfl;rw[dE] at ic⊢;generalize bs c=S at*;clear hE hW he dE hc sH;go_enter Tryz.func59,Tryz.ntmps59;go_wp2_with fail;refine(ic.o _).mono ?_;rintro x w1 ⟨rfl,a7⟩;have aS:=h_ (aB.o.trans (a7.mono (by simp)));clear a7 aB;go_wp2;go_returns;exact⟨rfl,aS.o⟩
 |some t=>
  rw[hE] at hW ic;simp only at hW;rw[hW];have dE:optV (some t)=.tuple #[.string (bs t),.int .i64 0]:=rfl;have CD:optV (some (Z2s k c t))=.tuple #[.string (bs (Z2s k c t)),.int .i64 0]:=rfl;rw[dE] at ic;rw[CD];have pw:=Z1e hE;have P6:(bs t).size=t.length:=Z0 t;have P7:(bs c).size=c.length:=Z0 c;have P8:Z2s k c t=QB (165::UInt8.ofNat (XX k c t)::(num (ZS c t).length++ZS c t)):=rfl;have cD:(ZS c t).length<=4096:=(by unfold ZS;split<;>omega);have uz:XX k c t<32:=(by unfold XX;split<;>omega);obtain⟨T1,T2,T3,T4,T5,T6⟩:=Zdc uz cD P8.symm;obtain⟨k2,cL⟩:∃x,XX k c t=x:=⟨_,rfl⟩;rw[cL] at T1 T2 T4 T5 uz
  have bz:((t.length<c.length/\k2=k+16/\bs (ZS c t)=bs t)\/(¬t.length<c.length/\k2=k/\bs (ZS c t)=bs c)):=by
   rw[<-cL];unfold XX ZS;by_cases h:t.length<c.length
   ·rw[Vaf h,Vaf h];exact .inl ⟨h,rfl,rfl⟩
   ·rw[Vad h,Vad h];exact .inr ⟨h,rfl,rfl⟩
  rw[<-P6,<-P7] at bz;have MW:IntKind.u8.wrap (k2:Int)=(k2:Int):=(by rw[IntKind.wrap_u8];omega);have Ht:=h_ T3;have kK:=h_ T4;have H2:=h_ T2;have T9:=λW:World=>T2 W (W.alloc (.cells #[.int .u8 165,.int .u8 (k2:Int)] 5)).drew (heap_alloc_new W _)
  have cZ:(bs t).size<=9000000000000000000/\(bs c).size<=9000000000000000000:=by
   have:=ZiY hE;omega
  generalize bs (Z2s k c t)=RS at*;generalize bs [165,UInt8.ofNat k2]=S1 at*;generalize bs (num (ZS c t).length++ZS c t)=S2 at*;generalize bs (ZS c t)=BS at*;generalize bs t=TS at*;generalize bs c=S at*;obtain⟨GA,GD⟩:=cZ;have dh:=h_ bz;clear hE hW he dE CD hc P8 cL P6 P7 T2 T3 T4 pw cD bz;go_enter Tryz.func59,Tryz.ntmps59;go_wp2_with fail;refine(ic.o _).mono ?_;rintro x w1 ⟨rfl,a7⟩;have JU:=sH.o.below a7 (by simp);have q0:=JU.cell 0;have q1:=JU.cell 1;simp at q0 q1;have aS:=h_ (aB.o.trans (a7.mono (by simp)));clear a7 aB sH JU ic;go_wp2;go_quiet (fail);go_upto_if 33 with fail;go_cut [6,7] (λs6 s7 wx=>s6=.int .i64 (k2:Int)/\s7=.string BS/\Hid (Below w.heap.size w wx))
  case first=>
   have gQ:=h_ (bdN aS.o nq);rcases dh.o with ⟨h1,h2,h3⟩|⟨h1,h2,h3⟩
   ·have hd:decide (TS.size<S.size)=true:=Vao h1;have B0:(k:Int)+16=(k2:Int):=(by omega);subst h3;clear dh aS q0 q1 Ht kK H2 T9 T1 h2 MW;go_wp2;go_meet;case rel=>exact⟨rfl,rfl,gQ⟩
   ·have hd:decide (TS.size<S.size)=false:=Vai h1;subst h3;subst h2;clear dh aS q0 q1 Ht kK H2 T9 T1;go_wp2;go_meet;case rel=>exact⟨rfl,rfl,gQ⟩
  case rest=>
   obtain⟨rfl,rfl,HB⟩:=hcut;clear aS q0 q1 dh JT hk;go_wp2
   go_region_with (first
    |(go_at_call 54;refine(Ht.o _).mono ?_;rintro r w2 ⟨rfl,a8⟩;first|(have hy:=ZkI a8;have eD:=H2.o _ _ hy.1;have Hy:=h_ hy.2;clear a8 hy)|(have Hy:=h_ (lvB a8);clear a8))
    |(go_at_call 83;refine(kK.o _).mono ?_;rintro r w3 ⟨rfl,af⟩))
   all_goals
    have HF:Below w.heap.size w w3:=by
     first
      |exact bel3 HB.o Hy.o af
      |exact Zlk HB.o Hy.o af
    clear af;go_wp2;go_returns;exact⟨rfl,HF⟩
def paV (data:List UInt8):Value:=match YD data with
 |none=>.tuple #[.agg #[.int .i64 0,.string ⟨#[]⟩],.int .i64 0,.bool false,.bool false]
 |some (k,c,n)=>.tuple #[frV k c,.int .i64 (n:Int),.bool (decide (16<=(data.getD 1 0).toNat)),.bool true]
theorem QJ {data:List UInt8} (h:YD data=none):paV data=.tuple #[.agg #[.int .i64 0,.string ⟨#[]⟩],.int .i64 0,.bool false,.bool false]:=by unfold paV;rw[h]
theorem Zdd {data c:List UInt8} {k n:Nat} (h:YD data=some (k,c,n)):paV data=.tuple #[frV k c,.int .i64 (n:Int),.bool (decide (16<=(data.getD 1 0).toNat)),.bool true]:=by unfold paV;rw[h]
theorem XA (w:World):
  Calls Tryz.prog 136 #[] w λx w'=>x=.returned (.tuple #[.agg #[.int .i64 0,.string ⟨#[]⟩],.int .i64 0,.bool false,.bool false])/\Below w.heap.size w w':=by
 have h0:=h_ (Bk.new w 36 #[.int .i64 0,.string ⟨#[]⟩]);have hb:=h_ ((Vae w.heap.size w).alloc UZz (.cells #[.int .i64 0,.string ⟨#[]⟩] 36));have z0:=h0.o.cell 0;have z1:=h0.o.cell 1;simp at z0 z1;go_enter Tryz.func136,Tryz.ntmps136;go_wp2_with ((with_reducible show bodyPost _ _ _ _ _ _);refine bodyPost_ret (v:=.tuple #[.agg #[.int .i64 0,.string ⟨#[]⟩],.int .i64 0,.bool false,.bool false]) (by simp[results,Tryz.results136,go_sem,z0,z1];try rfl) rfl ?_;exact⟨rfl,hb.o⟩)
theorem Zde {w W:World} (hb:Below (w.alloc (.cells #[.int .i64 0,.string ⟨#[]⟩] 36)).heap.size (w.alloc (.cells #[.int .i64 0,.string ⟨#[]⟩] 36)) W) (v0 v1:Value):
  (W.cell? ⟨w.heap.size,0,none⟩=some (.int .i64 0)/\W.cell? ⟨w.heap.size,1,none⟩=some (.string ⟨#[]⟩)/\W.frozen? ⟨w.heap.size,0,none⟩=false/\W.frozen? ⟨w.heap.size,1,none⟩=false)/\
  (((W.setCell ⟨w.heap.size,0,none⟩ v0).setCell ⟨w.heap.size,1,none⟩ v1).cell? ⟨w.heap.size,0,none⟩=some v0/\((W.setCell ⟨w.heap.size,0,none⟩ v0).setCell ⟨w.heap.size,1,none⟩ v1).cell? ⟨w.heap.size,1,none⟩=some v1)/\
  Below w.heap.size w ((W.setCell ⟨w.heap.size,0,none⟩ v0).setCell ⟨w.heap.size,1,none⟩ v1):=by
 have h0:=(Bk.new w 36 #[.int .i64 0,.string ⟨#[]⟩]).below hb (by simp);have h2:=(h0.put 0 v0).put 1 v1;have hB:=((Vae w.heap.size w).alloc UZz (.cells #[.int .i64 0,.string ⟨#[]⟩] 36)).trans (hb.mono (by simp));exact⟨⟨h0.cell 0,h0.cell 1,h0.frozen 0,h0.frozen 1⟩,⟨h2.cell 0,h2.cell 1⟩,(hB.setCell (p:=⟨w.heap.size,0,none⟩) UZz v0).setCell (p:=⟨w.heap.size,1,none⟩) UZz v1⟩
theorem Xr {w W:World} (hb:Below (w.heap.size+1) (w.alloc (.cells #[.int .i64 0,.string ⟨#[]⟩] 36)) W) (v0 v1:Value):
  (W.cell? ⟨w.heap.size,0,none⟩=some (.int .i64 0)/\W.cell? ⟨w.heap.size,1,none⟩=some (.string ⟨#[]⟩)/\W.frozen? ⟨w.heap.size,0,none⟩=false/\W.frozen? ⟨w.heap.size,1,none⟩=false)/\
  (((W.setCell ⟨w.heap.size,0,none⟩ v0).setCell ⟨w.heap.size,1,none⟩ v1).cell? ⟨w.heap.size,0,none⟩=some v0/\((W.setCell ⟨w.heap.size,0,none⟩ v0).setCell ⟨w.heap.size,1,none⟩ v1).cell? ⟨w.heap.size,1,none⟩=some v1)/\
  Below w.heap.size w ((W.setCell ⟨w.heap.size,0,none⟩ v0).setCell ⟨w.heap.size,1,none⟩ v1):=Zde (by rw[World.size_alloc];exact hb) v0 v1
theorem Zdf (S:ByteArray) (w:World) (o:Obj):
  Calls Tryz.prog 85 #[.string S] (w.alloc o) λe w'=>e=.returned (.pointer (some ⟨w.heap.size+1,0,none⟩))/\RV w' (w.heap.size+1) S 0/\Below (w.heap.size+1) (w.alloc o) w'/\w.heap.size+1<=w'.heap.size:=by
 have h:=ZN S (w.alloc o);rw[World.size_alloc] at h;refine h.mono ?_;rintro e w' ⟨h1,h2,h3⟩;exact⟨h1,h2,h3,by have:=h3.size;simpa using this⟩
theorem Yx {B b:Nat} {w w1 w2:World} (h:Below B w w1) (hs:B<=w1.heap.size) (hb:B<=b) (k:Fr (only b) w1 w2):Below B w w2:=
 h.trans (k.toBelow' hs (λj hj e=>by have:j=b:=e;omega))
theorem Qy (data:List UInt8) (hd:data.length<=1000000000) (h:data.length<2\/(2<=data.length/\(data.getD 0 0).toNat≠165)\/(2<=data.length/\(data.getD 0 0).toNat=165/\32<=(data.getD 1 0).toNat)) (w:World):
  Calls Tryz.prog 84 #[.string (bs data)] w λx w'=>x=.returned (.tuple #[.agg #[.int .i64 0,.string ⟨#[]⟩],.int .i64 0,.bool false,.bool false])/\Below w.heap.size w w':=by
 have gu:=h_ (λW=>XA W);have aG:=h_ (λW hb=>Zde (w:=w) (W:=W) hb (.int .i64 0) (.string ⟨#[]⟩));have ad:(bs data).size=data.length:=Z0 data;have Hg:=h_ (QP data);have lQ:(bs data).size<=1000000000:=(by omega)
 have bz:((bs data).size:Int)<2\/(¬((bs data).size:Int)<2/\∃(h0:0<(bs data).size) (h1:1<(bs data).size),(((((bs data)[0]'h0).toNat:Int) !=165)=true\/((((((bs data)[0]'h0).toNat:Int) !=165)=false)/\(32:Int)<=(((bs data)[1]'h1).toNat:Int)))):=by
  rcases h with h|⟨h1,h2⟩|⟨h1,h2,h3⟩
  ·exact .inl (by omega)
  ·refine .inr ⟨by omega,by omega,by omega,.inl ?_⟩;rw[Hg.o 0 (by omega) (by omega),Va0];omega
  ·refine .inr ⟨by omega,by omega,by omega,.inr ⟨?_,?_⟩⟩
   ·rw[Hg.o 0 (by omega) (by omega),h2];rfl
   ·rw[Hg.o 1 (by omega) (by omega)];omega
 generalize bs data=S at*;clear ad Hg hd h;rcases bz with hc|⟨hc,h0,h1,dI⟩
 ·go_enter Tryz.func84,Tryz.ntmps84;go_wp2_with fail;refine(gu.o _).mono ?_;rintro x wn ⟨rfl,cS⟩;obtain⟨⟨c0,c1,f0,f1⟩,⟨z0,z1⟩,hB⟩:=aG.o _ cS;have HB:=h_ hB;clear cS hB aG gu;go_wp2_with ((with_reducible show bodyPost _ _ _ _ _ _);refine bodyPost_ret (v:=.tuple #[.agg #[.int .i64 0,.string ⟨#[]⟩],.int .i64 0,.bool false,.bool false]) (by simp[results,Tryz.results84,go_sem,z0,z1];try rfl) rfl ?_;exact⟨rfl,HB.o⟩)
 ·rcases dI with dI|⟨dI,fE⟩
  ·go_enter Tryz.func84,Tryz.ntmps84;go_wp2_with fail;refine(gu.o _).mono ?_;rintro x wn ⟨rfl,cS⟩;obtain⟨⟨c0,c1,f0,f1⟩,⟨z0,z1⟩,hB⟩:=aG.o _ cS;have HB:=h_ hB;clear cS hB aG gu;go_wp2_with ((with_reducible show bodyPost _ _ _ _ _ _);refine bodyPost_ret (v:=.tuple #[.agg #[.int .i64 0,.string ⟨#[]⟩],.int .i64 0,.bool false,.bool false]) (by simp[results,Tryz.results84,go_sem,z0,z1];try rfl) rfl ?_;exact⟨rfl,HB.o⟩)
  ·go_enter Tryz.func84,Tryz.ntmps84;go_wp2_with fail;refine(gu.o _).mono ?_;rintro x wn ⟨rfl,cS⟩;obtain⟨⟨c0,c1,f0,f1⟩,⟨z0,z1⟩,hB⟩:=aG.o _ cS;have HB:=h_ hB;clear cS hB aG gu;go_wp2_with ((with_reducible show bodyPost _ _ _ _ _ _);refine bodyPost_ret (v:=.tuple #[.agg #[.int .i64 0,.string ⟨#[]⟩],.int .i64 0,.bool false,.bool false]) (by simp[results,Tryz.results84,go_sem,z0,z1];try rfl) rfl ?_;exact⟨rfl,HB.o⟩)
section
variable {S RS:ByteArray} {w:World}
theorem Z5s (hS:S.size<=1000000000) (kH:2<=S.size) (dS:∀h:0<S.size,(S[0]'h).toNat=165) {b8:Nat} (dm:∀h:1<S.size,(S[1]'h).toNat=b8) (uA:b8<32) (hex:S.extract 2 S.size=RS) (jc:RS.size<=1000000000) {tb ts kb ks:ByteArray} {te ke:Nat} (gS:ZR RS 0 4096=(tb,ts,te)) (cZ:ts.size<=1000000000) (ay:ZC ts te 4=(kb,ks,ke)) (US:ke≠0):
  Calls Tryz.prog 84 #[.string S] w λx w'=>x=.returned (.tuple #[.agg #[.int .i64 0,.string ⟨#[]⟩],.int .i64 0,.bool false,.bool false])/\Below w.heap.size w w':=by
 have gu:=h_ (λW=>XA W);have di:=h_ (λW hb v0 v1=>Xr (w:=w) (W:=W) hb v0 v1);have aG:=h_ (λW hb=>Xr (w:=w) (W:=W) hb (.int .i64 0) (.string ⟨#[]⟩));have Hv:=h_ (Zdf RS w (.cells #[.int .i64 0,.string ⟨#[]⟩] 36));have tU:¬(S.size:Int)<2:=(by omega);have dt:(2:Int)<=(S.size:Int):=(by omega);have cC:(1:Int)<(S.size:Int):=(by omega);have ig:(0:Int)<(S.size:Int):=(by omega);have dP:0<S.size:=(by omega);have gJ:1<S.size:=(by omega);have sY:¬(32:Int)<=(b8:Int):=(by omega);have gG:=h_ (λ(W:World) (b:Nat) (h:RV W b RS 0)=>ZO h (by omega) 4096);rw[gS] at gG;have fP:=h_ (λ(W:World) (b:Nat) (h:RV W b ts te)=>Zu h (by omega) 4);rw[ay] at fP;simp only at gG fP;have UT:((ke:Int) !=0)=true:=(by rw[Va0];omega);clear gS ay US di cZ jc;go_enter Tryz.func84,Tryz.ntmps84;go_wp2_with fail;refine(Hv.o).mono ?_;rintro x w1 ⟨rfl,h1,a7,aM⟩;go_wp2_with fail;refine(gG.o _ _ h1).mono ?_;rintro x w2 ⟨rfl,h2,ai⟩;have a8:=Yx a7 aM UZz ai;have cV:=Vaq aM ai.size;clear h1 ai a7 aM;go_wp2_with fail;refine(fP.o _ _ h2).mono ?_;rintro x w3 ⟨rfl,h3,aO⟩;have fC:=Yx a8 cV UZz aO;have fM:=Vaq cV aO.size;clear h2 aO a8 cV;have gZ:=h_ (Za h3);go_wp2_with fail;refine(gZ.o).mono ?_;rintro x w4 ⟨rfl,rfl⟩;go_wp2_with fail;refine(gu.o _).mono ?_;rintro x wn ⟨rfl,cS⟩;have jI:=fC.trans (cS.mono fM);obtain⟨⟨c0,c1,f0,f1⟩,⟨z0,z1⟩,hB⟩:=aG.o _ jI;have HB:=h_ hB;clear cS jI hB aG gu fC fM;go_wp2_with ((with_reducible show bodyPost _ _ _ _ _ _);refine bodyPost_ret (v:=.tuple #[.agg #[.int .i64 0,.string ⟨#[]⟩],.int .i64 0,.bool false,.bool false]) (by simp[results,Tryz.results84,go_sem,z0,z1];try rfl) rfl ?_;exact⟨rfl,HB.o⟩)
theorem Z9F (hS:S.size<=1000000000) (kH:2<=S.size) (dS:∀h:0<S.size,(S[0]'h).toNat=165) {b8:Nat} (dm:∀h:1<S.size,(S[1]'h).toNat=b8) (uA:b8<32) (hex:S.extract 2 S.size=RS) (jc:RS.size<=1000000000) {tb ts kb ks:ByteArray} (gS:ZR RS 0 4096=(tb,ts,0)) (cZ:ts.size<=1000000000) (ay:ZC ts 0 4=(kb,ks,0)) {z:Nat} (hz:z+ks.size=S.size) (F:List UInt8) (hF:S.extract 0 z=bs F) (kA:F.length<=1000000000) (fX:QO F=false):
  Calls Tryz.prog 84 #[.string S] w λx w'=>x=.returned (.tuple #[.agg #[.int .i64 0,.string ⟨#[]⟩],.int .i64 0,.bool false,.bool false])/\Below w.heap.size w w':=by
 have gu:=h_ (λW=>XA W);have di:=h_ (λW hb v0 v1=>Xr (w:=w) (W:=W) hb v0 v1);have aG:=h_ (λW hb=>Xr (w:=w) (W:=W) hb (.int .i64 0) (.string ⟨#[]⟩));have Hv:=h_ (Zdf RS w (.cells #[.int .i64 0,.string ⟨#[]⟩] 36));have tU:¬(S.size:Int)<2:=(by omega);have dt:(2:Int)<=(S.size:Int):=(by omega);have cC:(1:Int)<(S.size:Int):=(by omega);have ig:(0:Int)<(S.size:Int):=(by omega);have dP:0<S.size:=(by omega);have gJ:1<S.size:=(by omega);have sY:¬(32:Int)<=(b8:Int):=(by omega);have gG:=h_ (λ(W:World) (b:Nat) (h:RV W b RS 0)=>ZO h (by omega) 4096);rw[gS] at gG;have fP:=h_ (λ(W:World) (b:Nat) (h:RV W b ts 0)=>Zu h (by omega) 4);rw[ay] at fP;simp only at gG fP;have il:=h_ (λ(W:World) (b:Nat) (h:RV W b ks 0)=>Zt h (by omega));have Ec:(S.size:Int)-(ks.size:Int)=(z:Int):=(by omega);have du:(0:Int)<=(z:Int):=(by omega);have JV:(z:Int)<=(S.size:Int):=(by omega);have mF:=h_ (λW=>XR F kA W);rw[fX,Vad (by decide)] at mF;generalize bs F=FS at*;clear gS ay di cZ jc fX kA hz;go_enter Tryz.func84,Tryz.ntmps84;go_wp2_with fail;refine(Hv.o).mono ?_;rintro x w1 ⟨rfl,h1,a7,aM⟩;go_wp2_with fail;refine(gG.o _ _ h1).mono ?_;rintro x w2 ⟨rfl,h2,ai⟩;have a8:=Yx a7 aM UZz ai;have cV:=Vaq aM ai.size;clear h1 ai a7 aM;go_wp2_with fail;refine(fP.o _ _ h2).mono ?_;rintro x w3 ⟨rfl,h3,aO⟩;have fC:=Yx a8 cV UZz aO;have fM:=Vaq cV aO.size;clear h2 aO a8 cV;have gZ:=h_ (Za h3);go_wp2_with fail;refine(gZ.o).mono ?_;rintro x w4 ⟨rfl,rfl⟩;go_wp2_with fail;refine(il.o _ _ h3).mono ?_;rintro x w4 ⟨rfl,rfl⟩;go_wp2_with fail;refine(mF.o _).mono ?_;rintro x w4 ⟨⟨y,rfl⟩,rfl⟩;clear h3 gZ Hv gG fP il mF;go_wp2_with fail;refine(gu.o _).mono ?_;rintro x wn ⟨rfl,cS⟩;have jI:=fC.trans (cS.mono fM);obtain⟨⟨c0,c1,f0,f1⟩,⟨z0,z1⟩,hB⟩:=aG.o _ jI;have HB:=h_ hB;clear cS jI hB aG gu fC fM;go_wp2_with ((with_reducible show bodyPost _ _ _ _ _ _);refine bodyPost_ret (v:=.tuple #[.agg #[.int .i64 0,.string ⟨#[]⟩],.int .i64 0,.bool false,.bool false]) (by simp[results,Tryz.results84,go_sem,z0,z1];try rfl) rfl ?_;exact⟨rfl,HB.o⟩)
end
section
variable {S RS:ByteArray} {w:World}
theorem Z6N (hS:S.size<=1000000000) (kH:2<=S.size) (dS:∀h:0<S.size,(S[0]'h).toNat=165) {b8:Nat} (dm:∀h:1<S.size,(S[1]'h).toNat=b8) (uA:b8<32) (hex:S.extract 2 S.size=RS) (jc:RS.size<=1000000000) {body:List UInt8} {ts kb ks:ByteArray} (gS:ZR RS 0 4096=(bs body,ts,0)) (cZ:ts.size<=1000000000) (ay:ZC ts 0 4=(kb,ks,0)) {z:Nat} (hz:z+ks.size=S.size) (F:List UInt8) (hF:S.extract 0 z=bs F) (kA:F.length<=1000000000) (fX:QO F=true) (nV:16<=b8) (cD:body.length<=1000000000) (qJ:(lzD body 4096).2≠0):
  Calls Tryz.prog 84 #[.string S] w λx w'=>x=.returned (.tuple #[.agg #[.int .i64 0,.string ⟨#[]⟩],.int .i64 0,.bool false,.bool false])/\Below w.heap.size w w':=by
 have gu:=h_ (λW=>XA W);have di:=h_ (λW hb v0 v1=>Xr (w:=w) (W:=W) hb v0 v1);have aG:=h_ (λW hb=>Xr (w:=w) (W:=W) hb (.int .i64 0) (.string ⟨#[]⟩));have Hv:=h_ (Zdf RS w (.cells #[.int .i64 0,.string ⟨#[]⟩] 36));have tU:¬(S.size:Int)<2:=(by omega);have dt:(2:Int)<=(S.size:Int):=(by omega);have cC:(1:Int)<(S.size:Int):=(by omega);have ig:(0:Int)<(S.size:Int):=(by omega);have dP:0<S.size:=(by omega);have gJ:1<S.size:=(by omega);have sY:¬(32:Int)<=(b8:Int):=(by omega);have gG:=h_ (λ(W:World) (b:Nat) (h:RV W b RS 0)=>ZO h (by omega) 4096);rw[gS] at gG;have fP:=h_ (λ(W:World) (b:Nat) (h:RV W b ts 0)=>Zu h (by omega) 4);rw[ay] at fP;simp only at gG fP;have il:=h_ (λ(W:World) (b:Nat) (h:RV W b ks 0)=>Zt h (by omega));have Ec:(S.size:Int)-(ks.size:Int)=(z:Int):=(by omega);have du:(0:Int)<=(z:Int):=(by omega);have JV:(z:Int)<=(S.size:Int):=(by omega);have mF:=h_ (λW=>XR F kA W);rw[fX,Vaf rfl] at mF;have sa:(b8:Int) % 16=((b8 % 16:Nat):Int):=(by omega);have jN:(b8:Int).tmod 16=((b8 % 16:Nat):Int):=(by rw[Vcf (by omega)];omega);have qK:=h_ (λW=>Z0W body cD 4096 W);obtain⟨⟨lc,le⟩,hl⟩:∃x,lzD body 4096=x:=⟨_,rfl⟩;rw[hl] at qK qJ;unfold lzV at qK;simp only at qK qJ;have hle:((le:Int) !=0)=true:=(by rw[Va0];omega);have qL:(16:Int)<=(b8:Int):=(by omega);have CE:decide ((16:Int)<=(b8:Int))=true:=Vao qL;generalize bs F=FS at*;generalize bs lc=LC at*;generalize bs body=BS at*;obtain⟨k,hk⟩:∃x,b8 % 16=x:=⟨_,rfl⟩;rw[hk] at sa jN;clear gS ay di cZ jc fX kA hz hl qJ hk cD nV;go_enter Tryz.func84,Tryz.ntmps84;go_wp2_with fail;refine(Hv.o).mono ?_;rintro x w1 ⟨rfl,h1,a7,aM⟩;go_wp2_with fail;refine(gG.o _ _ h1).mono ?_;rintro x w2 ⟨rfl,h2,ai⟩;have a8:=Yx a7 aM UZz ai;have cV:=Vaq aM ai.size;clear h1 ai a7 aM;go_wp2_with fail;refine(fP.o _ _ h2).mono ?_;rintro x w3 ⟨rfl,h3,aO⟩;have fC:=Yx a8 cV UZz aO;have fM:=Vaq cV aO.size;clear h2 aO a8 cV;have gZ:=h_ (Za h3);go_wp2_with fail;refine(gZ.o).mono ?_;rintro x w4 ⟨rfl,rfl⟩;go_wp2_with fail;refine(il.o _ _ h3).mono ?_;rintro x w4 ⟨rfl,rfl⟩;go_wp2_with fail;refine(mF.o _).mono ?_;rintro x w4 ⟨⟨y,rfl⟩,rfl⟩;clear h3 gZ Hv gG fP il mF;go_wp2_with fail;refine(qK.o _).mono ?_;rintro x w5 ⟨rfl,aH⟩;have uB:=fC.alloc fM (.cells #[.int .i64 (k:Int),.string BS] 36);have dJ:w.heap.size+1<=(w3.alloc (.cells #[.int .i64 (k:Int),.string BS] 36)).heap.size:=(by rw[World.size_alloc];omega);have lH:=uB.trans (aH.mono dJ);have kB:=Vaq dJ aH.size;clear fC fM uB dJ aH;have fC:=lH;have fM:=kB;clear lH kB;go_wp2_with fail;refine(gu.o _).mono ?_;rintro x wn ⟨rfl,cS⟩;have jI:=fC.trans (cS.mono fM);obtain⟨⟨c0,c1,f0,f1⟩,⟨z0,z1⟩,hB⟩:=aG.o _ jI;have HB:=h_ hB;clear cS jI hB aG gu fC fM;go_wp2_with ((with_reducible show bodyPost _ _ _ _ _ _);refine bodyPost_ret (v:=.tuple #[.agg #[.int .i64 0,.string ⟨#[]⟩],.int .i64 0,.bool false,.bool false]) (by simp[results,Tryz.results84,go_sem,z0,z1];try rfl) rfl ?_;exact⟨rfl,HB.o⟩)
theorem Z6O (hS:S.size<=1000000000) (kH:2<=S.size) (dS:∀h:0<S.size,(S[0]'h).toNat=165) {b8:Nat} (dm:∀h:1<S.size,(S[1]'h).toNat=b8) (uA:b8<32) (hex:S.extract 2 S.size=RS) (jc:RS.size<=1000000000) {c:List UInt8} {ts kb ks:ByteArray} (gS:ZR RS 0 4096=(bs c,ts,0)) (cZ:ts.size<=1000000000) (ay:ZC ts 0 4=(kb,ks,0)) {z:Nat} (hz:z+ks.size=S.size) (F:List UInt8) (hF:S.extract 0 z=bs F) (kA:F.length<=1000000000) (fX:QO F=true) (nV:b8<16) (iu:c.length<=1000000000):
  Calls Tryz.prog 84 #[.string S] w λx w'=>x=.returned (if decide (ZB (b8 % 16) c=some F)=true then .tuple #[frV (b8 % 16) c,.int .i64 (z:Int),.bool false,.bool true] else .tuple #[.agg #[.int .i64 0,.string ⟨#[]⟩],.int .i64 0,.bool false,.bool false])/\Below w.heap.size w w':=by
 have gu:=h_ (λW=>XA W);have di:=h_ (λW hb v0 v1=>Xr (w:=w) (W:=W) hb v0 v1);have aG:=h_ (λW hb=>Xr (w:=w) (W:=W) hb (.int .i64 0) (.string ⟨#[]⟩));have Hv:=h_ (Zdf RS w (.cells #[.int .i64 0,.string ⟨#[]⟩] 36));have tU:¬(S.size:Int)<2:=(by omega);have dt:(2:Int)<=(S.size:Int):=(by omega);have cC:(1:Int)<(S.size:Int):=(by omega);have ig:(0:Int)<(S.size:Int):=(by omega);have dP:0<S.size:=(by omega);have gJ:1<S.size:=(by omega);have sY:¬(32:Int)<=(b8:Int):=(by omega);have gG:=h_ (λ(W:World) (b:Nat) (h:RV W b RS 0)=>ZO h (by omega) 4096);rw[gS] at gG;have fP:=h_ (λ(W:World) (b:Nat) (h:RV W b ts 0)=>Zu h (by omega) 4);rw[ay] at fP;simp only at gG fP;have il:=h_ (λ(W:World) (b:Nat) (h:RV W b ks 0)=>Zt h (by omega));have Ec:(S.size:Int)-(ks.size:Int)=(z:Int):=(by omega);have du:(0:Int)<=(z:Int):=(by omega);have JV:(z:Int)<=(S.size:Int):=(by omega);have mF:=h_ (λW=>XR F kA W);rw[fX,Vaf rfl] at mF;have sa:(b8:Int) % 16=((b8 % 16:Nat):Int):=(by omega);have jN:(b8:Int).tmod 16=((b8 % 16:Nat):Int):=(by rw[Vcf (by omega)];omega);have mz:=h_ (λW=>Z46 (b8 % 16) (by omega) c iu W)
 have iR:(decide (ZB (b8 % 16) c=some F)=true/\optV (ZB (b8 % 16) c)=.tuple #[.string (bs F),.int .i64 0])\/(decide (ZB (b8 % 16) c=some F)=false/\optV (ZB (b8 % 16) c)=.tuple #[.string ⟨#[]⟩,.int .i64 9])\/(decide (ZB (b8 % 16) c=some F)=false/\∃v,optV (ZB (b8 % 16) c)=.tuple #[.string (bs v),.int .i64 0]/\v≠F):=by
  cases hw:ZB (b8 % 16) c with
  |none=>exact .inr (.inl ⟨by simp,rfl⟩)
  |some v=>
   by_cases h:v=F
   ·subst h;exact .inl ⟨by simp,rfl⟩
   ·exact .inr (.inr ⟨by simp[h],v,rfl,h⟩)
 obtain⟨ok,bH⟩:∃x,decide (ZB (b8 % 16) c=some F)=x:=⟨_,rfl⟩;rw[bH] at iR⊢
 have qM:∃(O:ByteArray) (we:Int),optV (ZB (b8 % 16) c)=.tuple #[.string O,.int .i64 we]/\((ok=true/\(we !=0)=false/\(O.toList !=(bs F).toList)=false/\(O.toList==(bs F).toList)=true)\/(ok=false/\(we !=0)=true)\/(ok=false/\(we !=0)=false/\(O.toList !=(bs F).toList)=true/\(O.toList==(bs F).toList)=false)):=by
  rcases iR with ⟨h1,h2⟩|⟨h1,h2⟩|⟨h1,v,h2,h3⟩
  ·exact⟨_,_,h2,.inl ⟨h1,rfl,by simp,by simp⟩⟩
  ·exact⟨_,_,h2,.inr (.inl ⟨h1,rfl⟩)⟩
  ·obtain⟨n1,n2⟩:=Z88 v F;rw[Vai h3] at n1 n2;exact⟨_,_,h2,.inr (.inr ⟨h1,rfl,n1,n2⟩)⟩
 obtain⟨O,we,hO,au⟩:=qM;rw[hO] at mz;unfold frV at mz⊢;have qL:¬(16:Int)<=(b8:Int):=(by omega);have CE:decide ((16:Int)<=(b8:Int))=false:=Vai qL;generalize bs F=FS at*;generalize bs c=CS at*;obtain⟨k,hk⟩:∃x,b8 % 16=x:=⟨_,rfl⟩;rw[hk] at sa jN mz⊢;clear gS ay cZ jc fX kA hz hk iu nV iR bH hO;go_enter Tryz.func84,Tryz.ntmps84;go_wp2_with fail;refine(Hv.o).mono ?_;rintro x w1 ⟨rfl,h1,a7,aM⟩;go_wp2_with fail;refine(gG.o _ _ h1).mono ?_;rintro x w2 ⟨rfl,h2,ai⟩;have a8:=Yx a7 aM UZz ai;have cV:=Vaq aM ai.size;clear h1 ai a7 aM;go_wp2_with fail;refine(fP.o _ _ h2).mono ?_;rintro x w3 ⟨rfl,h3,aO⟩;have fC:=Yx a8 cV UZz aO;have fM:=Vaq cV aO.size;clear h2 aO a8 cV;have gZ:=h_ (Za h3);go_wp2_with fail;refine(gZ.o).mono ?_;rintro x w4 ⟨rfl,rfl⟩;go_wp2_with fail;refine(il.o _ _ h3).mono ?_;rintro x w4 ⟨rfl,rfl⟩;go_wp2_with fail;refine(mF.o _).mono ?_;rintro x w4 ⟨⟨y,rfl⟩,rfl⟩;clear h3 gZ Hv gG fP il mF;go_wp2_with fail;refine(mz.o _).mono ?_;rintro x w5 ⟨rfl,aH⟩;have sZ:=(Bk.new w3 36 #[.int .i64 (k:Int),.string CS]).below aH (by simp);have q0:=sZ.cell 0;have q1:=sZ.cell 1;simp at q0 q1;have uB:=fC.alloc fM (.cells #[.int .i64 (k:Int),.string CS] 36);have dJ:w.heap.size+1<=(w3.alloc (.cells #[.int .i64 (k:Int),.string CS] 36)).heap.size:=(by rw[World.size_alloc];omega);have lH:=uB.trans (aH.mono dJ);have kB:=Vaq dJ aH.size;clear fC fM uB dJ aH sZ mz;have fC:=lH;have fM:=kB;clear lH kB;rcases au with ⟨bH,CF,JW,xj⟩|⟨bH,CF⟩|⟨bH,CF,JW,xj⟩
 ·subst bH;have hR:=di.o _ fC (.int .i64 (k:Int)) (.string CS);obtain⟨⟨c0,c1,f0,f1⟩,⟨z0,z1⟩,hB⟩:=hR;have HB:=h_ hB;clear hB fC fM gu aG di;go_wp2_with ((with_reducible show bodyPost _ _ _ _ _ _);refine bodyPost_ret (v:=.tuple #[.agg #[.int .i64 (k:Int),.string CS],.int .i64 (z:Int),.bool false,.bool true]) (by simp[results,Tryz.results84,go_sem,z0,z1];try rfl) rfl ?_;exact⟨rfl,HB.o⟩)
 ·subst bH;clear di;go_wp2_with fail;refine(gu.o _).mono ?_;rintro x wn ⟨rfl,cS⟩;have jI:=fC.trans (cS.mono fM);obtain⟨⟨c0,c1,f0,f1⟩,⟨z0,z1⟩,hB⟩:=aG.o _ jI;have HB:=h_ hB;clear cS jI hB aG gu fC fM;go_wp2_with ((with_reducible show bodyPost _ _ _ _ _ _);refine bodyPost_ret (v:=.tuple #[.agg #[.int .i64 0,.string ⟨#[]⟩],.int .i64 0,.bool false,.bool false]) (by simp[results,Tryz.results84,go_sem,z0,z1];try rfl) rfl ?_;exact⟨rfl,HB.o⟩)
 ·subst bH;clear di;go_wp2_with fail;refine(gu.o _).mono ?_;rintro x wn ⟨rfl,cS⟩;have jI:=fC.trans (cS.mono fM);obtain⟨⟨c0,c1,f0,f1⟩,⟨z0,z1⟩,hB⟩:=aG.o _ jI;have HB:=h_ hB;clear cS jI hB aG gu fC fM;go_wp2_with ((with_reducible show bodyPost _ _ _ _ _ _);refine bodyPost_ret (v:=.tuple #[.agg #[.int .i64 0,.string ⟨#[]⟩],.int .i64 0,.bool false,.bool false]) (by simp[results,Tryz.results84,go_sem,z0,z1];try rfl) rfl ?_;exact⟨rfl,HB.o⟩)
theorem Z6P (hS:S.size<=1000000000) (kH:2<=S.size) (dS:∀h:0<S.size,(S[0]'h).toNat=165) {b8:Nat} (dm:∀h:1<S.size,(S[1]'h).toNat=b8) (uA:b8<32) (hex:S.extract 2 S.size=RS) (jc:RS.size<=1000000000) {body:List UInt8} {ts kb ks:ByteArray} (gS:ZR RS 0 4096=(bs body,ts,0)) (cZ:ts.size<=1000000000) (ay:ZC ts 0 4=(kb,ks,0)) {z:Nat} (hz:z+ks.size=S.size) (F:List UInt8) (hF:S.extract 0 z=bs F) (kA:F.length<=1000000000) (fX:QO F=true) (nV:16<=b8) (cD:body.length<=1000000000) {c:List UInt8} (qJ:lzD body 4096=(c,0)) (iu:c.length<=1000000000):
  Calls Tryz.prog 84 #[.string S] w λx w'=>x=.returned (if decide (ZB (b8 % 16) c=some F)=true then .tuple #[frV (b8 % 16) c,.int .i64 (z:Int),.bool true,.bool true] else .tuple #[.agg #[.int .i64 0,.string ⟨#[]⟩],.int .i64 0,.bool false,.bool false])/\Below w.heap.size w w':=by
 have gu:=h_ (λW=>XA W);have di:=h_ (λW hb v0 v1=>Xr (w:=w) (W:=W) hb v0 v1);have aG:=h_ (λW hb=>Xr (w:=w) (W:=W) hb (.int .i64 0) (.string ⟨#[]⟩));have Hv:=h_ (Zdf RS w (.cells #[.int .i64 0,.string ⟨#[]⟩] 36));have tU:¬(S.size:Int)<2:=(by omega);have dt:(2:Int)<=(S.size:Int):=(by omega);have cC:(1:Int)<(S.size:Int):=(by omega);have ig:(0:Int)<(S.size:Int):=(by omega);have dP:0<S.size:=(by omega);have gJ:1<S.size:=(by omega);have sY:¬(32:Int)<=(b8:Int):=(by omega);have gG:=h_ (λ(W:World) (b:Nat) (h:RV W b RS 0)=>ZO h (by omega) 4096);rw[gS] at gG;have fP:=h_ (λ(W:World) (b:Nat) (h:RV W b ts 0)=>Zu h (by omega) 4);rw[ay] at fP;simp only at gG fP;have il:=h_ (λ(W:World) (b:Nat) (h:RV W b ks 0)=>Zt h (by omega));have Ec:(S.size:Int)-(ks.size:Int)=(z:Int):=(by omega);have du:(0:Int)<=(z:Int):=(by omega);have JV:(z:Int)<=(S.size:Int):=(by omega);have mF:=h_ (λW=>XR F kA W);rw[fX,Vaf rfl] at mF;have sa:(b8:Int) % 16=((b8 % 16:Nat):Int):=(by omega);have jN:(b8:Int).tmod 16=((b8 % 16:Nat):Int):=(by rw[Vcf (by omega)];omega);have mz:=h_ (λW=>Z46 (b8 % 16) (by omega) c iu W)
 have iR:(decide (ZB (b8 % 16) c=some F)=true/\optV (ZB (b8 % 16) c)=.tuple #[.string (bs F),.int .i64 0])\/(decide (ZB (b8 % 16) c=some F)=false/\optV (ZB (b8 % 16) c)=.tuple #[.string ⟨#[]⟩,.int .i64 9])\/(decide (ZB (b8 % 16) c=some F)=false/\∃v,optV (ZB (b8 % 16) c)=.tuple #[.string (bs v),.int .i64 0]/\v≠F):=by
  cases hw:ZB (b8 % 16) c with
  |none=>exact .inr (.inl ⟨by simp,rfl⟩)
  |some v=>
   by_cases h:v=F
   ·subst h;exact .inl ⟨by simp,rfl⟩
   ·exact .inr (.inr ⟨by simp[h],v,rfl,h⟩)
 obtain⟨ok,bH⟩:∃x,decide (ZB (b8 % 16) c=some F)=x:=⟨_,rfl⟩;rw[bH] at iR⊢
 have qM:∃(O:ByteArray) (we:Int),optV (ZB (b8 % 16) c)=.tuple #[.string O,.int .i64 we]/\((ok=true/\(we !=0)=false/\(O.toList !=(bs F).toList)=false/\(O.toList==(bs F).toList)=true)\/(ok=false/\(we !=0)=true)\/(ok=false/\(we !=0)=false/\(O.toList !=(bs F).toList)=true/\(O.toList==(bs F).toList)=false)):=by
  rcases iR with ⟨h1,h2⟩|⟨h1,h2⟩|⟨h1,v,h2,h3⟩
  ·exact⟨_,_,h2,.inl ⟨h1,rfl,by simp,by simp⟩⟩
  ·exact⟨_,_,h2,.inr (.inl ⟨h1,rfl⟩)⟩
  ·obtain⟨n1,n2⟩:=Z88 v F;rw[Vai h3] at n1 n2;exact⟨_,_,h2,.inr (.inr ⟨h1,rfl,n1,n2⟩)⟩
 obtain⟨O,we,hO,au⟩:=qM;rw[hO] at mz;unfold frV at mz⊢;have qL:(16:Int)<=(b8:Int):=(by omega);have CE:decide ((16:Int)<=(b8:Int))=true:=Vao qL;have qK:=h_ (λW=>Z0W body cD 4096 W);rw[qJ] at qK;unfold lzV at qK;simp only at qK;have z0:((0:Nat):Int)=0:=rfl;rw[z0] at qK;generalize bs F=FS at*;generalize bs c=CS at*;generalize bs body=BS at*;obtain⟨k,hk⟩:∃x,b8 % 16=x:=⟨_,rfl⟩;rw[hk] at sa jN mz⊢;clear gS ay cZ jc fX kA hz hk iu nV iR bH hO qJ cD z0;go_enter Tryz.func84,Tryz.ntmps84;go_wp2_with fail;refine(Hv.o).mono ?_;rintro x w1 ⟨rfl,h1,a7,aM⟩;go_wp2_with fail;refine(gG.o _ _ h1).mono ?_;rintro x w2 ⟨rfl,h2,ai⟩;have a8:=Yx a7 aM UZz ai;have cV:=Vaq aM ai.size;clear h1 ai a7 aM;go_wp2_with fail;refine(fP.o _ _ h2).mono ?_;rintro x w3 ⟨rfl,h3,aO⟩;have fC:=Yx a8 cV UZz aO;have fM:=Vaq cV aO.size;clear h2 aO a8 cV;have gZ:=h_ (Za h3);go_wp2_with fail;refine(gZ.o).mono ?_;rintro x w4 ⟨rfl,rfl⟩;go_wp2_with fail;refine(il.o _ _ h3).mono ?_;rintro x w4 ⟨rfl,rfl⟩;go_wp2_with fail;refine(mF.o _).mono ?_;rintro x w4 ⟨⟨y,rfl⟩,rfl⟩;clear h3 gZ Hv gG fP il mF;go_wp2_with fail;refine(qK.o _).mono ?_;rintro x w5 ⟨rfl,aH⟩;have sZ:=(Bk.new w3 36 #[.int .i64 (k:Int),.string BS]).below aH (by simp);have q0:=sZ.cell 0;have q1:=sZ.cell 1;have p1:=sZ.frozen 1;simp at q0 q1;have uB:=fC.alloc fM (.cells #[.int .i64 (k:Int),.string BS] 36);have dJ:w.heap.size+1<=(w3.alloc (.cells #[.int .i64 (k:Int),.string BS] 36)).heap.size:=(by rw[World.size_alloc];omega);have lH:=(uB.trans (aH.mono dJ)).setCell (p:=⟨w3.heap.size,1,none⟩) fM (.string CS);have kB:w.heap.size+1<=(w5.setCell ⟨w3.heap.size,1,none⟩ (.string CS)).heap.size:=(by simpa using Vaq dJ aH.size);have ta:=sZ.put 1 (.string CS);have r0:=ta.cell 0;have r1:=ta.cell 1;simp at r0 r1;have JX:=h_ ta;clear fC fM uB dJ aH sZ ta qK;go_wp2_with fail;generalize w5.setCell ⟨w3.heap.size,1,none⟩ (.string CS)=W6 at*;refine(mz.o _).mono ?_;rintro x w7 ⟨rfl,eM⟩;have xk:=JX.o.below eM JX.o.lt;have v0:=xk.cell 0;have v1:=xk.cell 1;simp at v0 v1;have fC:=lH.trans (eM.mono kB);have fM:=Vaq kB eM.size;clear lH kB eM xk mz JX q0 q1 p1 r0 r1;rcases au with ⟨bH,CF,JW,xj⟩|⟨bH,CF⟩|⟨bH,CF,JW,xj⟩
 ·subst bH;have hR:=di.o _ fC (.int .i64 (k:Int)) (.string CS);obtain⟨⟨c0,c1,f0,f1⟩,⟨z0,z1⟩,hB⟩:=hR;have HB:=h_ hB;clear hB fC fM gu aG di;go_wp2_with ((with_reducible show bodyPost _ _ _ _ _ _);refine bodyPost_ret (v:=.tuple #[.agg #[.int .i64 (k:Int),.string CS],.int .i64 (z:Int),.bool true,.bool true]) (by simp[results,Tryz.results84,go_sem,z0,z1];try rfl) rfl ?_;exact⟨rfl,HB.o⟩)
 ·subst bH;clear di;go_wp2_with fail;refine(gu.o _).mono ?_;rintro x wn ⟨rfl,cS⟩;have jI:=fC.trans (cS.mono fM);obtain⟨⟨c0,c1,f0,f1⟩,⟨z0,z1⟩,hB⟩:=aG.o _ jI;have HB:=h_ hB;clear cS jI hB aG gu fC fM;go_wp2_with ((with_reducible show bodyPost _ _ _ _ _ _);refine bodyPost_ret (v:=.tuple #[.agg #[.int .i64 0,.string ⟨#[]⟩],.int .i64 0,.bool false,.bool false]) (by simp[results,Tryz.results84,go_sem,z0,z1];try rfl) rfl ?_;exact⟨rfl,HB.o⟩)
 ·subst bH;clear di;go_wp2_with fail;refine(gu.o _).mono ?_;rintro x wn ⟨rfl,cS⟩;have jI:=fC.trans (cS.mono fM);obtain⟨⟨c0,c1,f0,f1⟩,⟨z0,z1⟩,hB⟩:=aG.o _ jI;have HB:=h_ hB;clear cS jI hB aG gu fC fM;go_wp2_with ((with_reducible show bodyPost _ _ _ _ _ _);refine bodyPost_ret (v:=.tuple #[.agg #[.int .i64 0,.string ⟨#[]⟩],.int .i64 0,.bool false,.bool false]) (by simp[results,Tryz.results84,go_sem,z0,z1];try rfl) rfl ?_;exact⟨rfl,HB.o⟩)
end
theorem Z6Q (a b:UInt8) (r:List UInt8):YD (a::b::r)=if a≠165\/32<=b.toNat then none else match ZH r 4096 with
  |none=>none
  |some (body,r2)=>if r2.length<4 then none else if QO ((a::b::r).take ((a::b::r).length-(r2.length-4)))=false then none else
   match conT b.toNat body with
   |none=>none
   |some c=>if ZB (b.toNat % 16) c=some ((a::b::r).take ((a::b::r).length-(r2.length-4))) then some (b.toNat % 16,c,(a::b::r).length-(r2.length-4)) else none:=rfl
theorem Zdg (data:List UInt8) (hd:data.length<=1000000000) (w:World):
  Calls Tryz.prog 84 #[.string (bs data)] w λx w'=>x=.returned (paV data)/\Below w.heap.size w w':=by
 match data,hd with
 |[],hd=>
  rw[QJ rfl];exact Qy [] hd (.inl (by decide)) w
 |[a],hd=>
  rw[QJ rfl];exact Qy [a] hd (.inl (by simp)) w
 |a::b::r,hd=>
  have hf:=Z6Q a b r;by_cases qN:a=165
  ·by_cases uA:32<=b.toNat
   ·rw[Vaf (.inr uA)] at hf;rw[QJ hf];exact Qy _ hd (.inr (.inr ⟨by simp,by rw[qN];rfl,uA⟩)) w
   ·rw[Vad (by rintro(h|h);exact h qN;exact uA h)] at hf;have hS:(bs (a::b::r)).size<=1000000000:=(by rw[Z0];exact hd);have kH:2<=(bs (a::b::r)).size:=(by rw[Z0];simp);have dS:∀h:0<(bs (a::b::r)).size,((bs (a::b::r))[0]'h).toNat=165:=λh=>(by rw[QP _ 0 (by simp) h,qN];rfl);have dm:∀h:1<(bs (a::b::r)).size,((bs (a::b::r))[1]'h).toNat=b.toNat:=λh=>(by rw[QP _ 1 (by simp) h];rfl);have hex:(bs (a::b::r)).extract 2 (bs (a::b::r)).size=bs r:=Qn (bs (a::b::r)) 2;have hl:(a::b::r).length=r.length+2:=rfl;have jc:(bs r).size<=1000000000:=(by rw[Z0];omega);cases ht:ZH r 4096 with
    |none=>
     rw[ht] at hf;simp only at hf;rw[QJ hf];obtain⟨e,dU,cO⟩:=Z8W ht;exact Z5s hS kH dS dm (by omega) hex jc (show ZR (bs r) 0 4096=(bs [],bs r,e) from cO) jc (Z2J dU 4) dU
    |some q=>
     obtain⟨body,r2⟩:=q;rw[ht] at hf;simp only at hf;obtain⟨k1,k2,k3,k4⟩:=Z6e ht;have CG:ZR (bs r) 0 4096=(bs body,bs r2,0):=k1;have cZ:(bs r2).size<=1000000000:=(by rw[Z0];omega);by_cases gO:r2.length<4
     ·rw[Vaf gO] at hf;rw[QJ hf];exact Z5s hS kH dS dm (by omega) hex jc CG cZ (show ZC (bs r2) 0 4=(bs [],bs r2,12) from ZbT (n:=4) gO) (by decide)
     ·rw[Vad gO] at hf;have ay:ZC (bs r2) 0 4=(bs (r2.take 4),bs (r2.drop 4),0):=Z1M (n:=4) (by omega);obtain⟨z,hz⟩:∃z,(a::b::r).length-(r2.length-4)=z:=⟨_,rfl⟩;rw[hz] at hf;have gx:z+(bs (r2.drop 4)).size=(bs (a::b::r)).size:=(by rw[Z0,Z0,Va2];omega);have hF:(bs (a::b::r)).extract 0 z=bs ((a::b::r).take z):=Z3l (bs (a::b::r)) z;have kA:((a::b::r).take z).length<=1000000000:=(by rw[Vau];omega);cases fX:QO ((a::b::r).take z) with
      |false=>
       rw[fX,Vaf rfl] at hf;rw[QJ hf];exact Z9F hS kH dS dm (by omega) hex jc CG cZ ay gx _ hF kA fX
      |true=>
       rw[fX,Vad (by decide)] at hf
       have fin:∀(c:List UInt8) (sm:Bool),conT b.toNat body=some c->sm=decide (16<=b.toNat)->((if decide (ZB (b.toNat % 16) c=some ((a::b::r).take z))=true then .tuple #[frV (b.toNat % 16) c,.int .i64 (z:Int),.bool sm,.bool true] else .tuple #[.agg #[.int .i64 0,.string ⟨#[]⟩],.int .i64 0,.bool false,.bool false]:Value))=paV (a::b::r):=by
        intro c sm hc lQ;rw[hc] at hf;simp only at hf;by_cases hw:ZB (b.toNat % 16) c=some ((a::b::r).take z)
        ·rw[Vaf hw] at hf;rw[Vaf (Vao hw),Zdd hf,lQ];rfl
        ·rw[Vad hw] at hf;rw[Vad (by simpa using hw),QJ hf]
       have cD:body.length<=1000000000:=(by omega);by_cases nV:16<=b.toNat
       ·by_cases qJ:(lzD body 4096).2=0
        ·have hc:conT b.toNat body=some (lzD body 4096).1:=(by unfold conT;rw[Vaf nV,Vaf qJ]);have CH:lzD body 4096=((lzD body 4096).1,0):=(by rw[<-qJ]);have iu:=Z1e (Zk1 CH);rw[<-fin _ true hc (by simp[nV])];exact Z6P hS kH dS dm (by omega) hex jc CG cZ ay gx _ hF kA fX nV cD CH (by omega)
        ·have hc:conT b.toNat body=none:=(by unfold conT;rw[Vaf nV,Vad qJ]);rw[hc] at hf;simp only at hf;rw[QJ hf];exact Z6N hS kH dS dm (by omega) hex jc CG cZ ay gx _ hF kA fX nV cD qJ
       ·have hc:conT b.toNat body=some body:=(by unfold conT;rw[Vad nV]);rw[<-fin _ false hc (by simp[nV])];exact Z6O hS kH dS dm (by omega) hex jc CG cZ ay gx _ hF kA fX (by omega) cD
  ·rw[Vaf (.inl qN)] at hf;rw[QJ hf];refine Qy _ hd (.inr (.inl ⟨by simp,?_⟩)) w;show a.toNat≠165;intro h;exact qN (UInt8.toNat_inj.1 h)
def uwV (data:List UInt8):Value:=match YD data with
 |none=>.tuple #[.agg #[.int .i64 0,.string ⟨#[]⟩],.int .i64 0,.int .i64 12]
 |some (k,c,n)=>.tuple #[frV k c,.int .i64 (n:Int),.int .i64 0]
theorem Z9G (data:List UInt8) (hd:data.length<=1000000000) (w:World):
  Calls Tryz.prog 60 #[.string (bs data)] w λx w'=>x=.returned (uwV data)/\Below w.heap.size w w':=by
 have Hp:=h_ (λW=>Zdg data hd W);have aG:=h_ (λW hb v0 v1=>Zde (w:=w) (W:=W) hb v0 v1);cases hf:YD data with
 |none=>
  have hu:uwV data=.tuple #[.agg #[.int .i64 0,.string ⟨#[]⟩],.int .i64 0,.int .i64 12]:=(by unfold uwV;rw[hf]);rw[QJ hf] at Hp;rw[hu];generalize bs data=S at*;clear hf hu hd;go_enter Tryz.func60,Tryz.ntmps60;go_wp2_with fail;refine(Hp.o _).mono ?_;rintro x w1 ⟨rfl,a7⟩;obtain⟨⟨c0,c1,f0,f1⟩,⟨z0,z1⟩,hB⟩:=aG.o _ a7 (.int .i64 0) (.string ⟨#[]⟩);have HB:=h_ (hB.alloc hB.size (.cells #[.int .i64 0,.string ⟨#[]⟩] 36));have ab:=a7.size;rw[World.size_alloc] at ab;have dt:w.heap.size<w1.heap.size:=(by omega);clear a7 hB aG Hp;go_wp2_with ((with_reducible show bodyPost _ _ _ _ _ _);refine bodyPost_ret (v:=.tuple #[.agg #[.int .i64 0,.string ⟨#[]⟩],.int .i64 0,.int .i64 12]) (by simp[results,Tryz.results60,go_sem,z0,z1,dt];try rfl) rfl ?_;exact⟨rfl,HB.o⟩)
 |some q=>
  obtain⟨k,c,n⟩:=q;have hu:uwV data=.tuple #[.agg #[.int .i64 (k:Int),.string (bs c)],.int .i64 (n:Int),.int .i64 0]:=(by unfold uwV;rw[hf];rfl);rw[Zdd hf] at Hp;unfold frV at Hp;rw[hu];generalize decide (16<=(data.getD 1 0).toNat)=sm at*;generalize bs data=S at*;generalize bs c=CS at*;clear hf hu hd;go_enter Tryz.func60,Tryz.ntmps60;go_wp2_with fail;refine(Hp.o _).mono ?_;rintro x w1 ⟨rfl,a7⟩;obtain⟨⟨c0,c1,f0,f1⟩,⟨z0,z1⟩,hB⟩:=aG.o _ a7 (.int .i64 (k:Int)) (.string CS);have HB:=h_ (hB.alloc hB.size (.cells #[.int .i64 (k:Int),.string CS] 36));have ab:=a7.size;rw[World.size_alloc] at ab;have dt:w.heap.size<w1.heap.size:=(by omega);clear a7 hB aG Hp;go_wp2_with ((with_reducible show bodyPost _ _ _ _ _ _);refine bodyPost_ret (v:=.tuple #[.agg #[.int .i64 (k:Int),.string CS],.int .i64 (n:Int),.int .i64 0]) (by simp[results,Tryz.results60,go_sem,z0,z1,dt];try rfl) rfl ?_;exact⟨rfl,HB.o⟩)
end Go.Proofs.YtchokmkfobandaaGreatDoor
