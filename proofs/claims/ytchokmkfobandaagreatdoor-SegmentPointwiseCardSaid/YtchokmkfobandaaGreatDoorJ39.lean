import Derived.Test.YtchokmkfobandaaGreatDoorJ36
import Derived.Test.YtchokmkfobandaaGreatDoorJ29
set_option linter.unusedVariables false
set_option linter.unusedSimpArgs false
set_option maxRecDepth 100000
set_option maxHeartbeats 8000000
namespace Go.Proofs.YtchokmkfobandaaGreatDoor
open Go.RowKit Go.Proofs Wv Wv.Vi Wv.Rc Wv.Mo Wv.Ru Wv.Lz Wv.Fm
theorem Zc5 {w:World} {g:Nat} (a b:Nat) (ha:a<256) (hb:b<256) (h:Bk w g 5 #[.int .u8 (a:Int),.int .u8 (b:Int)]):
  (convert 115 9 (.slice (some ⟨g,0,none⟩) 2 2)).run Tryz.prog w=.ok (.string (bs [UInt8.ofNat a,UInt8.ofNat b])) w:=by
 refine run_convert_bytes_back w 115 9 5 ⟨g,0,none⟩ 2 [UInt8.ofNat a,UInt8.ofNat b] Tryz.underlying115 Tryz.underlying5 Tryz.underlying9 (λj hj=> ?_);have sW:j<2:=hj;rw[Go.WideShapes.add_plain,Nat.zero_add,h.cell];have:j=0\/j=1:=(by omega);rcases this with rfl|rfl<;>simp[Nat.mod_eq_of_lt, *]
theorem Zmx {c t:List UInt8} (h:lzE c=some t):t.length<=600000:=by
 unfold lzE at h;split at h
 ·cases h
 ·rename_i hc;injection h with h;rw[<-h,List.length_append];have h9:=kof9 c.length;split
  ·simp;omega
  ·have key:∀(i:Nat) (l:List Pc),Parses c i l->∀x:Ms×En,(Z2o l x).2.out.length<=x.2.out.length+135*(c.length-i):=by
    intro i l hp;induction hp with
    |done=>intro x;show x.2.out.length<=_;omega
    | @step i p l hk r ih=>
     intro x;obtain⟨o1,o2,o3⟩:=ZgI hk (by omega);have bR:=hk.pos;have h1:=ih (penc p x);have h2:=ZbV o1 o2 (by omega) x;rw[Zdh];omega
   have:=key 0 (parse c) (Z3a c) (m0,e0);have e:(m0,e0).2.out.length=0:=rfl;rw[e] at this;unfold efin;rw[List.length_append,be4];simp only[List.length_cons,List.length_nil];omega
theorem ZjP (k:Nat) (c:List UInt8):Z0B k c=match lzE c with
  |none=>none
  |some t=>some (Z6n k c t):=by
 unfold Z0B;cases lzE c<;>rfl
theorem Zoe {w w2:World} {o:Obj} (a8:Below (w.alloc o).drew.heap.size (w.alloc o).drew w2):w2.heap[w.heap.size]? =some o/\Below w.heap.size w w2:=
 ⟨(a8.block w.heap.size (by show w.heap.size<(w.alloc o).heap.size;simp)).trans (heap_alloc_new w o),((Below.refl w.heap.size w).alloc (Nat.le_refl _) o).drew.trans (a8.mono (by show w.heap.size<=(w.alloc o).heap.size;simp))⟩
theorem Zh3 {k:Nat} (hk:k<32) {c:List UInt8} (hc:c.length<=4096) {R:List UInt8} (hR:Z3A (165::UInt8.ofNat k::(num c.length++c))=R):
  (∀W:World,(convert 115 9 (.slice (some ⟨W.heap.size,0,none⟩) 2 2)).run Tryz.prog (W.alloc (.cells #[.int .u8 165,.int .u8 (k:Int)] 5))=.ok (.string (bs [165,UInt8.ofNat k])) (W.alloc (.cells #[.int .u8 165,.int .u8 (k:Int)] 5)))/\
  (∀(W w2:World),w2.heap[W.heap.size]? =some (.cells #[.int .u8 165,.int .u8 (k:Int)] 5)->(convert 115 9 (.slice (some ⟨W.heap.size,0,none⟩) 2 2)).run Tryz.prog w2=.ok (.string (bs [165,UInt8.ofNat k])) w2)/\
  (∀W:World,Calls Tryz.prog 54 #[.string (bs c)] W λx w'=>x=.returned (.string (bs (num c.length++c)))/\Below W.heap.size W w')/\
  (∀W:World,Calls Tryz.prog 83 #[.string (bs [165,UInt8.ofNat k]++bs (num c.length++c))] W λx w'=>x=.returned (.string (bs R))/\Below W.heap.size W w')/\(bs [165,UInt8.ofNat k]).size=2/\(bs (num c.length++c)).size<=10000:=by
 have SP:(165:UInt8)=UInt8.ofNat 165:=rfl;refine⟨λW=> ?_,λW w2 h=> ?_,λW=> ?_,λW=> ?_,rfl,?_⟩
 ·exact Zc5 165 k (by omega) (by omega) (Bk.new W _ _)
 ·exact Zc5 165 k (by omega) (by omega) h
 ·have h1:=Z2K (bs c) (by rw[Z00];omega) W;have h2:text (bs c)=num c.length++c:=(by unfold text;rw[Z00,Z0d]);rw[h2] at h1;exact h1
 ·have:=Zas (165::UInt8.ofNat k::(num c.length++c)) (by have:=kof9 c.length;simp only[List.length_cons,List.length_append];omega) W;rw[hR] at this;rw[Z0f];exact this
 ·have:=kof9 c.length;rw[Z00,List.length_append];omega
theorem bel3 {w W1 w2 w3:World} (h1:Below w.heap.size w W1) (h2:Below W1.heap.size W1 w2) (h3:Below w2.heap.size w2 w3):Below w.heap.size w w3:=
 (h1.trans (h2.mono h1.size)).trans (h3.mono (Nat.le_trans h1.size h2.size))
theorem ZoU {w W1 w2 w3:World} {o:Obj} (h1:Below w.heap.size w W1) (h2:Below W1.heap.size W1 w2) (h3:Below (w2.alloc o).heap.size (w2.alloc o) w3):Below w.heap.size w w3:=
 bel3 h1 (h2.alloc h2.size o) h3
def frV (k:Nat) (c:List UInt8):Value:=.agg #[.int .i64 (k:Int),.string (bs c)]
theorem Z83 (k:Nat) (hk:k<16) (c:List UInt8) (hc:c.length<=1000000000) (w:World):
  Calls Tryz.prog 59 #[frV k c] w λx w'=>x=.returned (optV (Z0B k c))/\Below w.heap.size w w':=by
 have gR:=h_ (λW=>Z4U c hc W);have hW:=ZjP k c;have he:bs ([]:List UInt8)=⟨#[]⟩:=rfl;have aA:=h_ ((Below.refl w.heap.size w).alloc (Nat.le_refl _) (.cells #[.int .i64 (k:Int),.string (bs c)] 36));have rX:=h_ (Bk.new w 36 #[.int .i64 (k:Int),.string (bs c)]);have J0:¬(15:Int)<(k:Int):=(by omega);unfold frV;cases hE:lzE c with
 |none=>
  rw[hE] at hW gR;simp only at hW;rw[hW];have dB:optV none=.tuple #[.string ⟨#[]⟩,.int .i64 9]:=rfl;rw[dB] at gR⊢;generalize bs c=S at*;clear hE hW he dB hc rX;go_enter Tryz.func59,Tryz.ntmps59;go_wp2_with fail;refine(gR.o _).mono ?_;rintro x w1 ⟨rfl,a7⟩;have aQ:=h_ (aA.o.trans (a7.mono (by simp)));clear a7 aA;go_wp2;go_returns;exact⟨rfl,aQ.o⟩
 |some t=>
  rw[hE] at hW gR;simp only at hW;rw[hW];have dB:optV (some t)=.tuple #[.string (bs t),.int .i64 0]:=rfl;have BG:optV (some (Z6n k c t))=.tuple #[.string (bs (Z6n k c t)),.int .i64 0]:=rfl;rw[dB] at gR;rw[BG];have oY:=Z5b hE;have O5:(bs t).size=t.length:=Z00 t;have O6:(bs c).size=c.length:=Z00 c;have O7:Z6n k c t=Z3A (165::UInt8.ofNat (Z2Y k c t)::(num (Z0T c t).length++Z0T c t)):=rfl;have cl:(Z0T c t).length<=4096:=(by unfold Z0T;split<;>omega);have tJ:Z2Y k c t<32:=(by unfold Z2Y;split<;>omega);obtain⟨T1,T2,T3,T4,T5,T6⟩:=Zh3 tJ cl O7.symm;obtain⟨k2,cE⟩:∃x,Z2Y k c t=x:=⟨_,rfl⟩;rw[cE] at T1 T2 T4 T5 tJ
  have bx:((t.length<c.length/\k2=k+16/\bs (Z0T c t)=bs t)\/(¬t.length<c.length/\k2=k/\bs (Z0T c t)=bs c)):=by
   rw[<-cE];unfold Z2Y Z0T;by_cases h:t.length<c.length
   ·rw[if_pos h,if_pos h];exact .inl ⟨h,rfl,rfl⟩
   ·rw[if_neg h,if_neg h];exact .inr ⟨h,rfl,rfl⟩
  rw[<-O5,<-O6] at bx;have Mn:IntKind.u8.wrap (k2:Int)=(k2:Int):=(by rw[IntKind.wrap_u8];omega);have Ht:=h_ T3;have ki:=h_ T4;have H2:=h_ T2;have T9:=λW:World=>T2 W (W.alloc (.cells #[.int .u8 165,.int .u8 (k2:Int)] 5)).drew (heap_alloc_new W _)
  have cR:(bs t).size<=9000000000000000000/\(bs c).size<=9000000000000000000:=by
   have:=Zmx hE;omega
  generalize bs (Z6n k c t)=RS at*;generalize bs [165,UInt8.ofNat k2]=S1 at*;generalize bs (num (Z0T c t).length++Z0T c t)=S2 at*;generalize bs (Z0T c t)=BS at*;generalize bs t=TS at*;generalize bs c=S at*;obtain⟨FT,FX⟩:=cR;have da:=h_ bx;clear hE hW he dB BG hc O7 cE O5 O6 T2 T3 T4 oY cl bx;go_enter Tryz.func59,Tryz.ntmps59;go_wp2_with fail;refine(gR.o _).mono ?_;rintro x w1 ⟨rfl,a7⟩;have J1:=rX.o.below a7 (by simp);have q0:=J1.cell 0;have q1:=J1.cell 1;simp at q0 q1;have aQ:=h_ (aA.o.trans (a7.mono (by simp)));clear a7 aA rX J1 gR;go_wp2;go_quiet (fail);go_upto_if 33 with fail;go_cut [6,7] (λs6 s7 wx=>s6=.int .i64 (k2:Int)/\s7=.string BS/\Hid (Below w.heap.size w wx))
  case first=>
   have gD:=h_ (bdN aQ.o nq);rcases da.o with ⟨h1,h2,h3⟩|⟨h1,h2,h3⟩
   ·have hd:decide (TS.size<S.size)=true:=decide_eq_true h1;have Ad:(k:Int)+16=(k2:Int):=(by omega);subst h3;clear da aQ q0 q1 Ht ki H2 T9 T1 h2 Mn;go_wp2;go_meet;case rel=>exact⟨rfl,rfl,gD⟩
   ·have hd:decide (TS.size<S.size)=false:=decide_eq_false h1;subst h3;subst h2;clear da aQ q0 q1 Ht ki H2 T9 T1;go_wp2;go_meet;case rel=>exact⟨rfl,rfl,gD⟩
  case rest=>
   obtain⟨rfl,rfl,HB⟩:=hcut;clear aQ q0 q1 da J0 hk;go_wp2
   go_region_with (first
    |(go_at_call 54;refine(Ht.o _).mono ?_;rintro r w2 ⟨rfl,a8⟩;first|(have hy:=Zoe a8;have ew:=H2.o _ _ hy.1;have Hy:=h_ hy.2;clear a8 hy)|(have Hy:=h_ (lvB a8);clear a8))
    |(go_at_call 83;refine(ki.o _).mono ?_;rintro r w3 ⟨rfl,ae⟩))
   all_goals
    have HF:Below w.heap.size w w3:=by
     first
      |exact bel3 HB.o Hy.o ae
      |exact ZoU HB.o Hy.o ae
    clear ae;go_wp2;go_returns;exact⟨rfl,HF⟩
def paV (data:List UInt8):Value:=match Z1y data with
 |none=>.tuple #[.agg #[.int .i64 0,.string ⟨#[]⟩],.int .i64 0,.bool false,.bool false]
 |some (k,c,n)=>.tuple #[frV k c,.int .i64 (n:Int),.bool (decide (16<=(data.getD 1 0).toNat)),.bool true]
theorem Z3I {data:List UInt8} (h:Z1y data=none):paV data=.tuple #[.agg #[.int .i64 0,.string ⟨#[]⟩],.int .i64 0,.bool false,.bool false]:=by unfold paV;rw[h]
theorem Zh4 {data c:List UInt8} {k n:Nat} (h:Z1y data=some (k,c,n)):paV data=.tuple #[frV k c,.int .i64 (n:Int),.bool (decide (16<=(data.getD 1 0).toNat)),.bool true]:=by unfold paV;rw[h]
theorem Z2B (w:World):
  Calls Tryz.prog 136 #[] w λx w'=>x=.returned (.tuple #[.agg #[.int .i64 0,.string ⟨#[]⟩],.int .i64 0,.bool false,.bool false])/\Below w.heap.size w w':=by
 have h0:=h_ (Bk.new w 36 #[.int .i64 0,.string ⟨#[]⟩]);have hb:=h_ ((Below.refl w.heap.size w).alloc (Nat.le_refl _) (.cells #[.int .i64 0,.string ⟨#[]⟩] 36));have z0:=h0.o.cell 0;have z1:=h0.o.cell 1;simp at z0 z1;go_enter Tryz.func136,Tryz.ntmps136;go_wp2_with ((with_reducible show bodyPost _ _ _ _ _ _);refine bodyPost_ret (v:=.tuple #[.agg #[.int .i64 0,.string ⟨#[]⟩],.int .i64 0,.bool false,.bool false]) (by simp[results,Tryz.results136,go_sem,z0,z1];try rfl) rfl ?_;exact⟨rfl,hb.o⟩)
theorem Zh5 {w W:World} (hb:Below (w.alloc (.cells #[.int .i64 0,.string ⟨#[]⟩] 36)).heap.size (w.alloc (.cells #[.int .i64 0,.string ⟨#[]⟩] 36)) W) (v0 v1:Value):
  (W.cell? ⟨w.heap.size,0,none⟩=some (.int .i64 0)/\W.cell? ⟨w.heap.size,1,none⟩=some (.string ⟨#[]⟩)/\W.frozen? ⟨w.heap.size,0,none⟩=false/\W.frozen? ⟨w.heap.size,1,none⟩=false)/\
  (((W.setCell ⟨w.heap.size,0,none⟩ v0).setCell ⟨w.heap.size,1,none⟩ v1).cell? ⟨w.heap.size,0,none⟩=some v0/\((W.setCell ⟨w.heap.size,0,none⟩ v0).setCell ⟨w.heap.size,1,none⟩ v1).cell? ⟨w.heap.size,1,none⟩=some v1)/\
  Below w.heap.size w ((W.setCell ⟨w.heap.size,0,none⟩ v0).setCell ⟨w.heap.size,1,none⟩ v1):=by
 have h0:=(Bk.new w 36 #[.int .i64 0,.string ⟨#[]⟩]).below hb (by simp);have h2:=(h0.put 0 v0).put 1 v1;have hB:=((Below.refl w.heap.size w).alloc (Nat.le_refl _) (.cells #[.int .i64 0,.string ⟨#[]⟩] 36)).trans (hb.mono (by simp));exact⟨⟨h0.cell 0,h0.cell 1,h0.frozen 0,h0.frozen 1⟩,⟨h2.cell 0,h2.cell 1⟩,(hB.setCell (p:=⟨w.heap.size,0,none⟩) (Nat.le_refl _) v0).setCell (p:=⟨w.heap.size,1,none⟩) (Nat.le_refl _) v1⟩
theorem Z2q {w W:World} (hb:Below (w.heap.size+1) (w.alloc (.cells #[.int .i64 0,.string ⟨#[]⟩] 36)) W) (v0 v1:Value):
  (W.cell? ⟨w.heap.size,0,none⟩=some (.int .i64 0)/\W.cell? ⟨w.heap.size,1,none⟩=some (.string ⟨#[]⟩)/\W.frozen? ⟨w.heap.size,0,none⟩=false/\W.frozen? ⟨w.heap.size,1,none⟩=false)/\
  (((W.setCell ⟨w.heap.size,0,none⟩ v0).setCell ⟨w.heap.size,1,none⟩ v1).cell? ⟨w.heap.size,0,none⟩=some v0/\((W.setCell ⟨w.heap.size,0,none⟩ v0).setCell ⟨w.heap.size,1,none⟩ v1).cell? ⟨w.heap.size,1,none⟩=some v1)/\
  Below w.heap.size w ((W.setCell ⟨w.heap.size,0,none⟩ v0).setCell ⟨w.heap.size,1,none⟩ v1):=Zh5 (by rw[World.size_alloc];exact hb) v0 v1
theorem Zh6 (S:ByteArray) (w:World) (o:Obj):
  Calls Tryz.prog 85 #[.string S] (w.alloc o) λe w'=>e=.returned (.pointer (some ⟨w.heap.size+1,0,none⟩))/\RV w' (w.heap.size+1) S 0/\Below (w.heap.size+1) (w.alloc o) w'/\w.heap.size+1<=w'.heap.size:=by
 have h:=Z0M S (w.alloc o);rw[World.size_alloc] at h;refine h.mono ?_;rintro e w' ⟨h1,h2,h3⟩;exact⟨h1,h2,h3,by have:=h3.size;simpa using this⟩
theorem Z1t {B b:Nat} {w w1 w2:World} (h:Below B w w1) (hs:B<=w1.heap.size) (hb:B<=b) (k:Fr (only b) w1 w2):Below B w w2:=
 h.trans (k.toBelow' hs (λj hj e=>by have:j=b:=e;omega))
theorem Z3w (data:List UInt8) (hd:data.length<=1000000000) (h:data.length<2\/(2<=data.length/\(data.getD 0 0).toNat≠165)\/(2<=data.length/\(data.getD 0 0).toNat=165/\32<=(data.getD 1 0).toNat)) (w:World):
  Calls Tryz.prog 84 #[.string (bs data)] w λx w'=>x=.returned (.tuple #[.agg #[.int .i64 0,.string ⟨#[]⟩],.int .i64 0,.bool false,.bool false])/\Below w.heap.size w w':=by
 have fZ:=h_ (λW=>Z2B W);have aD:=h_ (λW hb=>Zh5 (w:=w) (W:=W) hb (.int .i64 0) (.string ⟨#[]⟩));have ad:(bs data).size=data.length:=Z00 data;have Hg:=h_ (Z3O data);have mu:(bs data).size<=1000000000:=(by omega)
 have bx:((bs data).size:Int)<2\/(¬((bs data).size:Int)<2/\∃(h0:0<(bs data).size) (h1:1<(bs data).size),(((((bs data)[0]'h0).toNat:Int) !=165)=true\/((((((bs data)[0]'h0).toNat:Int) !=165)=false)/\(32:Int)<=(((bs data)[1]'h1).toNat:Int)))):=by
  rcases h with h|⟨h1,h2⟩|⟨h1,h2,h3⟩
  ·exact .inl (by omega)
  ·refine .inr ⟨by omega,by omega,by omega,.inl ?_⟩;rw[Hg.o 0 (by omega) (by omega),bne_iff_ne];omega
  ·refine .inr ⟨by omega,by omega,by omega,.inr ⟨?_,?_⟩⟩
   ·rw[Hg.o 0 (by omega) (by omega),h2];rfl
   ·rw[Hg.o 1 (by omega) (by omega)];omega
 generalize bs data=S at*;clear ad Hg hd h;rcases bx with hc|⟨hc,h0,h1,dF⟩
 ·go_enter Tryz.func84,Tryz.ntmps84;go_wp2_with fail;refine(fZ.o _).mono ?_;rintro x wn ⟨rfl,cL⟩;obtain⟨⟨c0,c1,f0,f1⟩,⟨z0,z1⟩,hB⟩:=aD.o _ cL;have HB:=h_ hB;clear cL hB aD fZ;go_wp2_with ((with_reducible show bodyPost _ _ _ _ _ _);refine bodyPost_ret (v:=.tuple #[.agg #[.int .i64 0,.string ⟨#[]⟩],.int .i64 0,.bool false,.bool false]) (by simp[results,Tryz.results84,go_sem,z0,z1];try rfl) rfl ?_;exact⟨rfl,HB.o⟩)
 ·rcases dF with dF|⟨dF,fl⟩
  ·go_enter Tryz.func84,Tryz.ntmps84;go_wp2_with fail;refine(fZ.o _).mono ?_;rintro x wn ⟨rfl,cL⟩;obtain⟨⟨c0,c1,f0,f1⟩,⟨z0,z1⟩,hB⟩:=aD.o _ cL;have HB:=h_ hB;clear cL hB aD fZ;go_wp2_with ((with_reducible show bodyPost _ _ _ _ _ _);refine bodyPost_ret (v:=.tuple #[.agg #[.int .i64 0,.string ⟨#[]⟩],.int .i64 0,.bool false,.bool false]) (by simp[results,Tryz.results84,go_sem,z0,z1];try rfl) rfl ?_;exact⟨rfl,HB.o⟩)
  ·go_enter Tryz.func84,Tryz.ntmps84;go_wp2_with fail;refine(fZ.o _).mono ?_;rintro x wn ⟨rfl,cL⟩;obtain⟨⟨c0,c1,f0,f1⟩,⟨z0,z1⟩,hB⟩:=aD.o _ cL;have HB:=h_ hB;clear cL hB aD fZ;go_wp2_with ((with_reducible show bodyPost _ _ _ _ _ _);refine bodyPost_ret (v:=.tuple #[.agg #[.int .i64 0,.string ⟨#[]⟩],.int .i64 0,.bool false,.bool false]) (by simp[results,Tryz.results84,go_sem,z0,z1];try rfl) rfl ?_;exact⟨rfl,HB.o⟩)
section
variable {S RS:ByteArray} {w:World}
theorem Z9r (hS:S.size<=1000000000) (jZ:2<=S.size) (dO:∀h:0<S.size,(S[0]'h).toNat=165) {b8:Nat} (df:∀h:1<S.size,(S[1]'h).toNat=b8) (tK:b8<32) (hex:S.extract 2 S.size=RS) (iN:RS.size<=1000000000) {tb ts kb ks:ByteArray} {te ke:Nat} (gG:Z0S RS 0 4096=(tb,ts,te)) (cR:ts.size<=1000000000) (ax:Z0C ts te 4=(kb,ks,ke)) (SQ:ke≠0):
  Calls Tryz.prog 84 #[.string S] w λx w'=>x=.returned (.tuple #[.agg #[.int .i64 0,.string ⟨#[]⟩],.int .i64 0,.bool false,.bool false])/\Below w.heap.size w w':=by
 have fZ:=h_ (λW=>Z2B W);have dc:=h_ (λW hb v0 v1=>Z2q (w:=w) (W:=W) hb v0 v1);have aD:=h_ (λW hb=>Z2q (w:=w) (W:=W) hb (.int .i64 0) (.string ⟨#[]⟩));have Hv:=h_ (Zh6 RS w (.cells #[.int .i64 0,.string ⟨#[]⟩] 36));have tj:¬(S.size:Int)<2:=(by omega);have cZ:(2:Int)<=(S.size:Int):=(by omega);have cj:(1:Int)<(S.size:Int):=(by omega);have gk:(0:Int)<(S.size:Int):=(by omega);have dL:0<S.size:=(by omega);have gu:1<S.size:=(by omega);have su:¬(32:Int)<=(b8:Int):=(by omega);have gq:=h_ (λ(W:World) (b:Nat) (h:RV W b RS 0)=>Z0P h (by omega) 4096);rw[gG] at gq;have fD:=h_ (λ(W:World) (b:Nat) (h:RV W b ts te)=>Z0s h (by omega) 4);rw[ax] at fD;simp only at gq fD;have SV:((ke:Int) !=0)=true:=(by rw[bne_iff_ne];omega);clear gG ax SQ dc cR iN;go_enter Tryz.func84,Tryz.ntmps84;go_wp2_with fail;refine(Hv.o).mono ?_;rintro x w1 ⟨rfl,h1,a7,aJ⟩;go_wp2_with fail;refine(gq.o _ _ h1).mono ?_;rintro x w2 ⟨rfl,h2,ah⟩;have a8:=Z1t a7 aJ (Nat.le_refl _) ah;have cO:=Nat.le_trans aJ ah.size;clear h1 ah a7 aJ;go_wp2_with fail;refine(fD.o _ _ h2).mono ?_;rintro x w3 ⟨rfl,h3,aL⟩;have fh:=Z1t a8 cO (Nat.le_refl _) aL;have fA:=Nat.le_trans cO aL.size;clear h2 aL a8 cO;have gO:=h_ (Z0a h3);go_wp2_with fail;refine(gO.o).mono ?_;rintro x w4 ⟨rfl,rfl⟩;go_wp2_with fail;refine(fZ.o _).mono ?_;rintro x wn ⟨rfl,cL⟩;have jt:=fh.trans (cL.mono fA);obtain⟨⟨c0,c1,f0,f1⟩,⟨z0,z1⟩,hB⟩:=aD.o _ jt;have HB:=h_ hB;clear cL jt hB aD fZ fh fA;go_wp2_with ((with_reducible show bodyPost _ _ _ _ _ _);refine bodyPost_ret (v:=.tuple #[.agg #[.int .i64 0,.string ⟨#[]⟩],.int .i64 0,.bool false,.bool false]) (by simp[results,Tryz.results84,go_sem,z0,z1];try rfl) rfl ?_;exact⟨rfl,HB.o⟩)
theorem Zdx (hS:S.size<=1000000000) (jZ:2<=S.size) (dO:∀h:0<S.size,(S[0]'h).toNat=165) {b8:Nat} (df:∀h:1<S.size,(S[1]'h).toNat=b8) (tK:b8<32) (hex:S.extract 2 S.size=RS) (iN:RS.size<=1000000000) {tb ts kb ks:ByteArray} (gG:Z0S RS 0 4096=(tb,ts,0)) (cR:ts.size<=1000000000) (ax:Z0C ts 0 4=(kb,ks,0)) {z:Nat} (hz:z+ks.size=S.size) (F:List UInt8) (hF:S.extract 0 z=bs F) (jQ:F.length<=1000000000) (fM:Z3N F=false):
  Calls Tryz.prog 84 #[.string S] w λx w'=>x=.returned (.tuple #[.agg #[.int .i64 0,.string ⟨#[]⟩],.int .i64 0,.bool false,.bool false])/\Below w.heap.size w w':=by
 have fZ:=h_ (λW=>Z2B W);have dc:=h_ (λW hb v0 v1=>Z2q (w:=w) (W:=W) hb v0 v1);have aD:=h_ (λW hb=>Z2q (w:=w) (W:=W) hb (.int .i64 0) (.string ⟨#[]⟩));have Hv:=h_ (Zh6 RS w (.cells #[.int .i64 0,.string ⟨#[]⟩] 36));have tj:¬(S.size:Int)<2:=(by omega);have cZ:(2:Int)<=(S.size:Int):=(by omega);have cj:(1:Int)<(S.size:Int):=(by omega);have gk:(0:Int)<(S.size:Int):=(by omega);have dL:0<S.size:=(by omega);have gu:1<S.size:=(by omega);have su:¬(32:Int)<=(b8:Int):=(by omega);have gq:=h_ (λ(W:World) (b:Nat) (h:RV W b RS 0)=>Z0P h (by omega) 4096);rw[gG] at gq;have fD:=h_ (λ(W:World) (b:Nat) (h:RV W b ts 0)=>Z0s h (by omega) 4);rw[ax] at fD;simp only at gq fD;have gW:=h_ (λ(W:World) (b:Nat) (h:RV W b ks 0)=>Z0r h (by omega));have Dq:(S.size:Int)-(ks.size:Int)=(z:Int):=(by omega);have dp:(0:Int)<=(z:Int):=(by omega);have J2:(z:Int)<=(S.size:Int):=(by omega);have lZ:=h_ (λW=>Z2S F jQ W);rw[fM,if_neg (by decide)] at lZ;generalize bs F=FS at*;clear gG ax dc cR iN fM jQ hz;go_enter Tryz.func84,Tryz.ntmps84;go_wp2_with fail;refine(Hv.o).mono ?_;rintro x w1 ⟨rfl,h1,a7,aJ⟩;go_wp2_with fail;refine(gq.o _ _ h1).mono ?_;rintro x w2 ⟨rfl,h2,ah⟩;have a8:=Z1t a7 aJ (Nat.le_refl _) ah;have cO:=Nat.le_trans aJ ah.size;clear h1 ah a7 aJ;go_wp2_with fail;refine(fD.o _ _ h2).mono ?_;rintro x w3 ⟨rfl,h3,aL⟩;have fh:=Z1t a8 cO (Nat.le_refl _) aL;have fA:=Nat.le_trans cO aL.size;clear h2 aL a8 cO;have gO:=h_ (Z0a h3);go_wp2_with fail;refine(gO.o).mono ?_;rintro x w4 ⟨rfl,rfl⟩;go_wp2_with fail;refine(gW.o _ _ h3).mono ?_;rintro x w4 ⟨rfl,rfl⟩;go_wp2_with fail;refine(lZ.o _).mono ?_;rintro x w4 ⟨⟨y,rfl⟩,rfl⟩;clear h3 gO Hv gq fD gW lZ;go_wp2_with fail;refine(fZ.o _).mono ?_;rintro x wn ⟨rfl,cL⟩;have jt:=fh.trans (cL.mono fA);obtain⟨⟨c0,c1,f0,f1⟩,⟨z0,z1⟩,hB⟩:=aD.o _ jt;have HB:=h_ hB;clear cL jt hB aD fZ fh fA;go_wp2_with ((with_reducible show bodyPost _ _ _ _ _ _);refine bodyPost_ret (v:=.tuple #[.agg #[.int .i64 0,.string ⟨#[]⟩],.int .i64 0,.bool false,.bool false]) (by simp[results,Tryz.results84,go_sem,z0,z1];try rfl) rfl ?_;exact⟨rfl,HB.o⟩)
end
section
variable {S RS:ByteArray} {w:World}
theorem ZaI (hS:S.size<=1000000000) (jZ:2<=S.size) (dO:∀h:0<S.size,(S[0]'h).toNat=165) {b8:Nat} (df:∀h:1<S.size,(S[1]'h).toNat=b8) (tK:b8<32) (hex:S.extract 2 S.size=RS) (iN:RS.size<=1000000000) {body:List UInt8} {ts kb ks:ByteArray} (gG:Z0S RS 0 4096=(bs body,ts,0)) (cR:ts.size<=1000000000) (ax:Z0C ts 0 4=(kb,ks,0)) {z:Nat} (hz:z+ks.size=S.size) (F:List UInt8) (hF:S.extract 0 z=bs F) (jQ:F.length<=1000000000) (fM:Z3N F=true) (nC:16<=b8) (cl:body.length<=1000000000) (mH:(lzD body 4096).2≠0):
  Calls Tryz.prog 84 #[.string S] w λx w'=>x=.returned (.tuple #[.agg #[.int .i64 0,.string ⟨#[]⟩],.int .i64 0,.bool false,.bool false])/\Below w.heap.size w w':=by
 have fZ:=h_ (λW=>Z2B W);have dc:=h_ (λW hb v0 v1=>Z2q (w:=w) (W:=W) hb v0 v1);have aD:=h_ (λW hb=>Z2q (w:=w) (W:=W) hb (.int .i64 0) (.string ⟨#[]⟩));have Hv:=h_ (Zh6 RS w (.cells #[.int .i64 0,.string ⟨#[]⟩] 36));have tj:¬(S.size:Int)<2:=(by omega);have cZ:(2:Int)<=(S.size:Int):=(by omega);have cj:(1:Int)<(S.size:Int):=(by omega);have gk:(0:Int)<(S.size:Int):=(by omega);have dL:0<S.size:=(by omega);have gu:1<S.size:=(by omega);have su:¬(32:Int)<=(b8:Int):=(by omega);have gq:=h_ (λ(W:World) (b:Nat) (h:RV W b RS 0)=>Z0P h (by omega) 4096);rw[gG] at gq;have fD:=h_ (λ(W:World) (b:Nat) (h:RV W b ts 0)=>Z0s h (by omega) 4);rw[ax] at fD;simp only at gq fD;have gW:=h_ (λ(W:World) (b:Nat) (h:RV W b ks 0)=>Z0r h (by omega));have Dq:(S.size:Int)-(ks.size:Int)=(z:Int):=(by omega);have dp:(0:Int)<=(z:Int):=(by omega);have J2:(z:Int)<=(S.size:Int):=(by omega);have lZ:=h_ (λW=>Z2S F jQ W);rw[fM,if_pos rfl] at lZ;have rC:(b8:Int) % 16=((b8 % 16:Nat):Int):=(by omega);have jy:(b8:Int).tmod 16=((b8 % 16:Nat):Int):=(by rw[Int.tmod_eq_emod_of_nonneg (by omega)];omega);have ql:=h_ (λW=>Z4V body cl 4096 W);obtain⟨⟨lc,le⟩,hl⟩:∃x,lzD body 4096=x:=⟨_,rfl⟩;rw[hl] at ql mH;unfold lzV at ql;simp only at ql mH;have hle:((le:Int) !=0)=true:=(by rw[bne_iff_ne];omega);have qn:(16:Int)<=(b8:Int):=(by omega);have BH:decide ((16:Int)<=(b8:Int))=true:=decide_eq_true qn;generalize bs F=FS at*;generalize bs lc=LC at*;generalize bs body=BS at*;obtain⟨k,hk⟩:∃x,b8 % 16=x:=⟨_,rfl⟩;rw[hk] at rC jy;clear gG ax dc cR iN fM jQ hz hl mH hk cl nC;go_enter Tryz.func84,Tryz.ntmps84;go_wp2_with fail;refine(Hv.o).mono ?_;rintro x w1 ⟨rfl,h1,a7,aJ⟩;go_wp2_with fail;refine(gq.o _ _ h1).mono ?_;rintro x w2 ⟨rfl,h2,ah⟩;have a8:=Z1t a7 aJ (Nat.le_refl _) ah;have cO:=Nat.le_trans aJ ah.size;clear h1 ah a7 aJ;go_wp2_with fail;refine(fD.o _ _ h2).mono ?_;rintro x w3 ⟨rfl,h3,aL⟩;have fh:=Z1t a8 cO (Nat.le_refl _) aL;have fA:=Nat.le_trans cO aL.size;clear h2 aL a8 cO;have gO:=h_ (Z0a h3);go_wp2_with fail;refine(gO.o).mono ?_;rintro x w4 ⟨rfl,rfl⟩;go_wp2_with fail;refine(gW.o _ _ h3).mono ?_;rintro x w4 ⟨rfl,rfl⟩;go_wp2_with fail;refine(lZ.o _).mono ?_;rintro x w4 ⟨⟨y,rfl⟩,rfl⟩;clear h3 gO Hv gq fD gW lZ;go_wp2_with fail;refine(ql.o _).mono ?_;rintro x w5 ⟨rfl,aM⟩;have tL:=fh.alloc fA (.cells #[.int .i64 (k:Int),.string BS] 36);have dG:w.heap.size+1<=(w3.alloc (.cells #[.int .i64 (k:Int),.string BS] 36)).heap.size:=(by rw[World.size_alloc];omega);have kZ:=tL.trans (aM.mono dG);have jR:=Nat.le_trans dG aM.size;clear fh fA tL dG aM;have fh:=kZ;have fA:=jR;clear kZ jR;go_wp2_with fail;refine(fZ.o _).mono ?_;rintro x wn ⟨rfl,cL⟩;have jt:=fh.trans (cL.mono fA);obtain⟨⟨c0,c1,f0,f1⟩,⟨z0,z1⟩,hB⟩:=aD.o _ jt;have HB:=h_ hB;clear cL jt hB aD fZ fh fA;go_wp2_with ((with_reducible show bodyPost _ _ _ _ _ _);refine bodyPost_ret (v:=.tuple #[.agg #[.int .i64 0,.string ⟨#[]⟩],.int .i64 0,.bool false,.bool false]) (by simp[results,Tryz.results84,go_sem,z0,z1];try rfl) rfl ?_;exact⟨rfl,HB.o⟩)
theorem ZaJ (hS:S.size<=1000000000) (jZ:2<=S.size) (dO:∀h:0<S.size,(S[0]'h).toNat=165) {b8:Nat} (df:∀h:1<S.size,(S[1]'h).toNat=b8) (tK:b8<32) (hex:S.extract 2 S.size=RS) (iN:RS.size<=1000000000) {c:List UInt8} {ts kb ks:ByteArray} (gG:Z0S RS 0 4096=(bs c,ts,0)) (cR:ts.size<=1000000000) (ax:Z0C ts 0 4=(kb,ks,0)) {z:Nat} (hz:z+ks.size=S.size) (F:List UInt8) (hF:S.extract 0 z=bs F) (jQ:F.length<=1000000000) (fM:Z3N F=true) (nC:b8<16) (ia:c.length<=1000000000):
  Calls Tryz.prog 84 #[.string S] w λx w'=>x=.returned (if decide (Z0B (b8 % 16) c=some F)=true then .tuple #[frV (b8 % 16) c,.int .i64 (z:Int),.bool false,.bool true] else .tuple #[.agg #[.int .i64 0,.string ⟨#[]⟩],.int .i64 0,.bool false,.bool false])/\Below w.heap.size w w':=by
 have fZ:=h_ (λW=>Z2B W);have dc:=h_ (λW hb v0 v1=>Z2q (w:=w) (W:=W) hb v0 v1);have aD:=h_ (λW hb=>Z2q (w:=w) (W:=W) hb (.int .i64 0) (.string ⟨#[]⟩));have Hv:=h_ (Zh6 RS w (.cells #[.int .i64 0,.string ⟨#[]⟩] 36));have tj:¬(S.size:Int)<2:=(by omega);have cZ:(2:Int)<=(S.size:Int):=(by omega);have cj:(1:Int)<(S.size:Int):=(by omega);have gk:(0:Int)<(S.size:Int):=(by omega);have dL:0<S.size:=(by omega);have gu:1<S.size:=(by omega);have su:¬(32:Int)<=(b8:Int):=(by omega);have gq:=h_ (λ(W:World) (b:Nat) (h:RV W b RS 0)=>Z0P h (by omega) 4096);rw[gG] at gq;have fD:=h_ (λ(W:World) (b:Nat) (h:RV W b ts 0)=>Z0s h (by omega) 4);rw[ax] at fD;simp only at gq fD;have gW:=h_ (λ(W:World) (b:Nat) (h:RV W b ks 0)=>Z0r h (by omega));have Dq:(S.size:Int)-(ks.size:Int)=(z:Int):=(by omega);have dp:(0:Int)<=(z:Int):=(by omega);have J2:(z:Int)<=(S.size:Int):=(by omega);have lZ:=h_ (λW=>Z2S F jQ W);rw[fM,if_pos rfl] at lZ;have rC:(b8:Int) % 16=((b8 % 16:Nat):Int):=(by omega);have jy:(b8:Int).tmod 16=((b8 % 16:Nat):Int):=(by rw[Int.tmod_eq_emod_of_nonneg (by omega)];omega);have lY:=h_ (λW=>Z83 (b8 % 16) (by omega) c ia W)
 have iG:(decide (Z0B (b8 % 16) c=some F)=true/\optV (Z0B (b8 % 16) c)=.tuple #[.string (bs F),.int .i64 0])\/(decide (Z0B (b8 % 16) c=some F)=false/\optV (Z0B (b8 % 16) c)=.tuple #[.string ⟨#[]⟩,.int .i64 9])\/(decide (Z0B (b8 % 16) c=some F)=false/\∃v,optV (Z0B (b8 % 16) c)=.tuple #[.string (bs v),.int .i64 0]/\v≠F):=by
  cases hw:Z0B (b8 % 16) c with
  |none=>exact .inr (.inl ⟨by simp,rfl⟩)
  |some v=>
   by_cases h:v=F
   ·subst h;exact .inl ⟨by simp,rfl⟩
   ·exact .inr (.inr ⟨by simp[h],v,rfl,h⟩)
 obtain⟨ok,bG⟩:∃x,decide (Z0B (b8 % 16) c=some F)=x:=⟨_,rfl⟩;rw[bG] at iG⊢
 have qo:∃(O:ByteArray) (we:Int),optV (Z0B (b8 % 16) c)=.tuple #[.string O,.int .i64 we]/\((ok=true/\(we !=0)=false/\(O.toList !=(bs F).toList)=false/\(O.toList==(bs F).toList)=true)\/(ok=false/\(we !=0)=true)\/(ok=false/\(we !=0)=false/\(O.toList !=(bs F).toList)=true/\(O.toList==(bs F).toList)=false)):=by
  rcases iG with ⟨h1,h2⟩|⟨h1,h2⟩|⟨h1,v,h2,h3⟩
  ·exact⟨_,_,h2,.inl ⟨h1,rfl,by simp,by simp⟩⟩
  ·exact⟨_,_,h2,.inr (.inl ⟨h1,rfl⟩)⟩
  ·obtain⟨n1,n2⟩:=Zc1 v F;rw[decide_eq_false h3] at n1 n2;exact⟨_,_,h2,.inr (.inr ⟨h1,rfl,n1,n2⟩)⟩
 obtain⟨O,we,hO,aZ⟩:=qo;rw[hO] at lY;unfold frV at lY⊢;have qn:¬(16:Int)<=(b8:Int):=(by omega);have BH:decide ((16:Int)<=(b8:Int))=false:=decide_eq_false qn;generalize bs F=FS at*;generalize bs c=CS at*;obtain⟨k,hk⟩:∃x,b8 % 16=x:=⟨_,rfl⟩;rw[hk] at rC jy lY⊢;clear gG ax cR iN fM jQ hz hk ia nC iG bG hO;go_enter Tryz.func84,Tryz.ntmps84;go_wp2_with fail;refine(Hv.o).mono ?_;rintro x w1 ⟨rfl,h1,a7,aJ⟩;go_wp2_with fail;refine(gq.o _ _ h1).mono ?_;rintro x w2 ⟨rfl,h2,ah⟩;have a8:=Z1t a7 aJ (Nat.le_refl _) ah;have cO:=Nat.le_trans aJ ah.size;clear h1 ah a7 aJ;go_wp2_with fail;refine(fD.o _ _ h2).mono ?_;rintro x w3 ⟨rfl,h3,aL⟩;have fh:=Z1t a8 cO (Nat.le_refl _) aL;have fA:=Nat.le_trans cO aL.size;clear h2 aL a8 cO;have gO:=h_ (Z0a h3);go_wp2_with fail;refine(gO.o).mono ?_;rintro x w4 ⟨rfl,rfl⟩;go_wp2_with fail;refine(gW.o _ _ h3).mono ?_;rintro x w4 ⟨rfl,rfl⟩;go_wp2_with fail;refine(lZ.o _).mono ?_;rintro x w4 ⟨⟨y,rfl⟩,rfl⟩;clear h3 gO Hv gq fD gW lZ;go_wp2_with fail;refine(lY.o _).mono ?_;rintro x w5 ⟨rfl,aM⟩;have sw:=(Bk.new w3 36 #[.int .i64 (k:Int),.string CS]).below aM (by simp);have q0:=sw.cell 0;have q1:=sw.cell 1;simp at q0 q1;have tL:=fh.alloc fA (.cells #[.int .i64 (k:Int),.string CS] 36);have dG:w.heap.size+1<=(w3.alloc (.cells #[.int .i64 (k:Int),.string CS] 36)).heap.size:=(by rw[World.size_alloc];omega);have kZ:=tL.trans (aM.mono dG);have jR:=Nat.le_trans dG aM.size;clear fh fA tL dG aM sw lY;have fh:=kZ;have fA:=jR;clear kZ jR;rcases aZ with ⟨bG,BI,J3,vY⟩|⟨bG,BI⟩|⟨bG,BI,J3,vY⟩
 ·subst bG;have hR:=dc.o _ fh (.int .i64 (k:Int)) (.string CS);obtain⟨⟨c0,c1,f0,f1⟩,⟨z0,z1⟩,hB⟩:=hR;have HB:=h_ hB;clear hB fh fA fZ aD dc;go_wp2_with ((with_reducible show bodyPost _ _ _ _ _ _);refine bodyPost_ret (v:=.tuple #[.agg #[.int .i64 (k:Int),.string CS],.int .i64 (z:Int),.bool false,.bool true]) (by simp[results,Tryz.results84,go_sem,z0,z1];try rfl) rfl ?_;exact⟨rfl,HB.o⟩)
 ·subst bG;clear dc;go_wp2_with fail;refine(fZ.o _).mono ?_;rintro x wn ⟨rfl,cL⟩;have jt:=fh.trans (cL.mono fA);obtain⟨⟨c0,c1,f0,f1⟩,⟨z0,z1⟩,hB⟩:=aD.o _ jt;have HB:=h_ hB;clear cL jt hB aD fZ fh fA;go_wp2_with ((with_reducible show bodyPost _ _ _ _ _ _);refine bodyPost_ret (v:=.tuple #[.agg #[.int .i64 0,.string ⟨#[]⟩],.int .i64 0,.bool false,.bool false]) (by simp[results,Tryz.results84,go_sem,z0,z1];try rfl) rfl ?_;exact⟨rfl,HB.o⟩)
 ·subst bG;clear dc;go_wp2_with fail;refine(fZ.o _).mono ?_;rintro x wn ⟨rfl,cL⟩;have jt:=fh.trans (cL.mono fA);obtain⟨⟨c0,c1,f0,f1⟩,⟨z0,z1⟩,hB⟩:=aD.o _ jt;have HB:=h_ hB;clear cL jt hB aD fZ fh fA;go_wp2_with ((with_reducible show bodyPost _ _ _ _ _ _);refine bodyPost_ret (v:=.tuple #[.agg #[.int .i64 0,.string ⟨#[]⟩],.int .i64 0,.bool false,.bool false]) (by simp[results,Tryz.results84,go_sem,z0,z1];try rfl) rfl ?_;exact⟨rfl,HB.o⟩)
theorem ZaK (hS:S.size<=1000000000) (jZ:2<=S.size) (dO:∀h:0<S.size,(S[0]'h).toNat=165) {b8:Nat} (df:∀h:1<S.size,(S[1]'h).toNat=b8) (tK:b8<32) (hex:S.extract 2 S.size=RS) (iN:RS.size<=1000000000) {body:List UInt8} {ts kb ks:ByteArray} (gG:Z0S RS 0 4096=(bs body,ts,0)) (cR:ts.size<=1000000000) (ax:Z0C ts 0 4=(kb,ks,0)) {z:Nat} (hz:z+ks.size=S.size) (F:List UInt8) (hF:S.extract 0 z=bs F) (jQ:F.length<=1000000000) (fM:Z3N F=true) (nC:16<=b8) (cl:body.length<=1000000000) {c:List UInt8} (mH:lzD body 4096=(c,0)) (ia:c.length<=1000000000):
  Calls Tryz.prog 84 #[.string S] w λx w'=>x=.returned (if decide (Z0B (b8 % 16) c=some F)=true then .tuple #[frV (b8 % 16) c,.int .i64 (z:Int),.bool true,.bool true] else .tuple #[.agg #[.int .i64 0,.string ⟨#[]⟩],.int .i64 0,.bool false,.bool false])/\Below w.heap.size w w':=by
 have fZ:=h_ (λW=>Z2B W);have dc:=h_ (λW hb v0 v1=>Z2q (w:=w) (W:=W) hb v0 v1);have aD:=h_ (λW hb=>Z2q (w:=w) (W:=W) hb (.int .i64 0) (.string ⟨#[]⟩));have Hv:=h_ (Zh6 RS w (.cells #[.int .i64 0,.string ⟨#[]⟩] 36));have tj:¬(S.size:Int)<2:=(by omega);have cZ:(2:Int)<=(S.size:Int):=(by omega);have cj:(1:Int)<(S.size:Int):=(by omega);have gk:(0:Int)<(S.size:Int):=(by omega);have dL:0<S.size:=(by omega);have gu:1<S.size:=(by omega);have su:¬(32:Int)<=(b8:Int):=(by omega);have gq:=h_ (λ(W:World) (b:Nat) (h:RV W b RS 0)=>Z0P h (by omega) 4096);rw[gG] at gq;have fD:=h_ (λ(W:World) (b:Nat) (h:RV W b ts 0)=>Z0s h (by omega) 4);rw[ax] at fD;simp only at gq fD;have gW:=h_ (λ(W:World) (b:Nat) (h:RV W b ks 0)=>Z0r h (by omega));have Dq:(S.size:Int)-(ks.size:Int)=(z:Int):=(by omega);have dp:(0:Int)<=(z:Int):=(by omega);have J2:(z:Int)<=(S.size:Int):=(by omega);have lZ:=h_ (λW=>Z2S F jQ W);rw[fM,if_pos rfl] at lZ;have rC:(b8:Int) % 16=((b8 % 16:Nat):Int):=(by omega);have jy:(b8:Int).tmod 16=((b8 % 16:Nat):Int):=(by rw[Int.tmod_eq_emod_of_nonneg (by omega)];omega);have lY:=h_ (λW=>Z83 (b8 % 16) (by omega) c ia W)
 have iG:(decide (Z0B (b8 % 16) c=some F)=true/\optV (Z0B (b8 % 16) c)=.tuple #[.string (bs F),.int .i64 0])\/(decide (Z0B (b8 % 16) c=some F)=false/\optV (Z0B (b8 % 16) c)=.tuple #[.string ⟨#[]⟩,.int .i64 9])\/(decide (Z0B (b8 % 16) c=some F)=false/\∃v,optV (Z0B (b8 % 16) c)=.tuple #[.string (bs v),.int .i64 0]/\v≠F):=by
  cases hw:Z0B (b8 % 16) c with
  |none=>exact .inr (.inl ⟨by simp,rfl⟩)
  |some v=>
   by_cases h:v=F
   ·subst h;exact .inl ⟨by simp,rfl⟩
   ·exact .inr (.inr ⟨by simp[h],v,rfl,h⟩)
 obtain⟨ok,bG⟩:∃x,decide (Z0B (b8 % 16) c=some F)=x:=⟨_,rfl⟩;rw[bG] at iG⊢
 have qo:∃(O:ByteArray) (we:Int),optV (Z0B (b8 % 16) c)=.tuple #[.string O,.int .i64 we]/\((ok=true/\(we !=0)=false/\(O.toList !=(bs F).toList)=false/\(O.toList==(bs F).toList)=true)\/(ok=false/\(we !=0)=true)\/(ok=false/\(we !=0)=false/\(O.toList !=(bs F).toList)=true/\(O.toList==(bs F).toList)=false)):=by
  rcases iG with ⟨h1,h2⟩|⟨h1,h2⟩|⟨h1,v,h2,h3⟩
  ·exact⟨_,_,h2,.inl ⟨h1,rfl,by simp,by simp⟩⟩
  ·exact⟨_,_,h2,.inr (.inl ⟨h1,rfl⟩)⟩
  ·obtain⟨n1,n2⟩:=Zc1 v F;rw[decide_eq_false h3] at n1 n2;exact⟨_,_,h2,.inr (.inr ⟨h1,rfl,n1,n2⟩)⟩
 obtain⟨O,we,hO,aZ⟩:=qo;rw[hO] at lY;unfold frV at lY⊢;have qn:(16:Int)<=(b8:Int):=(by omega);have BH:decide ((16:Int)<=(b8:Int))=true:=decide_eq_true qn;have ql:=h_ (λW=>Z4V body cl 4096 W);rw[mH] at ql;unfold lzV at ql;simp only at ql;have z0:((0:Nat):Int)=0:=rfl;rw[z0] at ql;generalize bs F=FS at*;generalize bs c=CS at*;generalize bs body=BS at*;obtain⟨k,hk⟩:∃x,b8 % 16=x:=⟨_,rfl⟩;rw[hk] at rC jy lY⊢;clear gG ax cR iN fM jQ hz hk ia nC iG bG hO mH cl z0;go_enter Tryz.func84,Tryz.ntmps84;go_wp2_with fail;refine(Hv.o).mono ?_;rintro x w1 ⟨rfl,h1,a7,aJ⟩;go_wp2_with fail;refine(gq.o _ _ h1).mono ?_;rintro x w2 ⟨rfl,h2,ah⟩;have a8:=Z1t a7 aJ (Nat.le_refl _) ah;have cO:=Nat.le_trans aJ ah.size;clear h1 ah a7 aJ;go_wp2_with fail;refine(fD.o _ _ h2).mono ?_;rintro x w3 ⟨rfl,h3,aL⟩;have fh:=Z1t a8 cO (Nat.le_refl _) aL;have fA:=Nat.le_trans cO aL.size;clear h2 aL a8 cO;have gO:=h_ (Z0a h3);go_wp2_with fail;refine(gO.o).mono ?_;rintro x w4 ⟨rfl,rfl⟩;go_wp2_with fail;refine(gW.o _ _ h3).mono ?_;rintro x w4 ⟨rfl,rfl⟩;go_wp2_with fail;refine(lZ.o _).mono ?_;rintro x w4 ⟨⟨y,rfl⟩,rfl⟩;clear h3 gO Hv gq fD gW lZ;go_wp2_with fail;refine(ql.o _).mono ?_;rintro x w5 ⟨rfl,aM⟩;have sw:=(Bk.new w3 36 #[.int .i64 (k:Int),.string BS]).below aM (by simp);have q0:=sw.cell 0;have q1:=sw.cell 1;have p1:=sw.frozen 1;simp at q0 q1;have tL:=fh.alloc fA (.cells #[.int .i64 (k:Int),.string BS] 36);have dG:w.heap.size+1<=(w3.alloc (.cells #[.int .i64 (k:Int),.string BS] 36)).heap.size:=(by rw[World.size_alloc];omega);have kZ:=(tL.trans (aM.mono dG)).setCell (p:=⟨w3.heap.size,1,none⟩) fA (.string CS);have jR:w.heap.size+1<=(w5.setCell ⟨w3.heap.size,1,none⟩ (.string CS)).heap.size:=(by simpa using Nat.le_trans dG aM.size);have sx:=sw.put 1 (.string CS);have r0:=sx.cell 0;have r1:=sx.cell 1;simp at r0 r1;have J4:=h_ sx;clear fh fA tL dG aM sw sx ql;go_wp2_with fail;generalize w5.setCell ⟨w3.heap.size,1,none⟩ (.string CS)=W6 at*;refine(lY.o _).mono ?_;rintro x w7 ⟨rfl,fx⟩;have vZ:=J4.o.below fx J4.o.lt;have v0:=vZ.cell 0;have v1:=vZ.cell 1;simp at v0 v1;have fh:=kZ.trans (fx.mono jR);have fA:=Nat.le_trans jR fx.size;clear kZ jR fx vZ lY J4 q0 q1 p1 r0 r1;rcases aZ with ⟨bG,BI,J3,vY⟩|⟨bG,BI⟩|⟨bG,BI,J3,vY⟩
 ·subst bG;have hR:=dc.o _ fh (.int .i64 (k:Int)) (.string CS);obtain⟨⟨c0,c1,f0,f1⟩,⟨z0,z1⟩,hB⟩:=hR;have HB:=h_ hB;clear hB fh fA fZ aD dc;go_wp2_with ((with_reducible show bodyPost _ _ _ _ _ _);refine bodyPost_ret (v:=.tuple #[.agg #[.int .i64 (k:Int),.string CS],.int .i64 (z:Int),.bool true,.bool true]) (by simp[results,Tryz.results84,go_sem,z0,z1];try rfl) rfl ?_;exact⟨rfl,HB.o⟩)
 ·subst bG;clear dc;go_wp2_with fail;refine(fZ.o _).mono ?_;rintro x wn ⟨rfl,cL⟩;have jt:=fh.trans (cL.mono fA);obtain⟨⟨c0,c1,f0,f1⟩,⟨z0,z1⟩,hB⟩:=aD.o _ jt;have HB:=h_ hB;clear cL jt hB aD fZ fh fA;go_wp2_with ((with_reducible show bodyPost _ _ _ _ _ _);refine bodyPost_ret (v:=.tuple #[.agg #[.int .i64 0,.string ⟨#[]⟩],.int .i64 0,.bool false,.bool false]) (by simp[results,Tryz.results84,go_sem,z0,z1];try rfl) rfl ?_;exact⟨rfl,HB.o⟩)
 ·subst bG;clear dc;go_wp2_with fail;refine(fZ.o _).mono ?_;rintro x wn ⟨rfl,cL⟩;have jt:=fh.trans (cL.mono fA);obtain⟨⟨c0,c1,f0,f1⟩,⟨z0,z1⟩,hB⟩:=aD.o _ jt;have HB:=h_ hB;clear cL jt hB aD fZ fh fA;go_wp2_with ((with_reducible show bodyPost _ _ _ _ _ _);refine bodyPost_ret (v:=.tuple #[.agg #[.int .i64 0,.string ⟨#[]⟩],.int .i64 0,.bool false,.bool false]) (by simp[results,Tryz.results84,go_sem,z0,z1];try rfl) rfl ?_;exact⟨rfl,HB.o⟩)
end
theorem ZaL (a b:UInt8) (r:List UInt8):Z1y (a::b::r)=if a≠165\/32<=b.toNat then none else match Z0H r 4096 with
  |none=>none
  |some (body,r2)=>if r2.length<4 then none else if Z3N ((a::b::r).take ((a::b::r).length-(r2.length-4)))=false then none else
   match conT b.toNat body with
   |none=>none
   |some c=>if Z0B (b.toNat % 16) c=some ((a::b::r).take ((a::b::r).length-(r2.length-4))) then some (b.toNat % 16,c,(a::b::r).length-(r2.length-4)) else none:=rfl
theorem Zh7 (data:List UInt8) (hd:data.length<=1000000000) (w:World):
  Calls Tryz.prog 84 #[.string (bs data)] w λx w'=>x=.returned (paV data)/\Below w.heap.size w w':=by
 match data,hd with
 |[],hd=>
  rw[Z3I rfl];exact Z3w [] hd (.inl (by decide)) w
 |[a],hd=>
  rw[Z3I rfl];exact Z3w [a] hd (.inl (by simp)) w
 |a::b::r,hd=>
  have hf:=ZaL a b r;by_cases qp:a=165
  ·by_cases tK:32<=b.toNat
   ·rw[if_pos (.inr tK)] at hf;rw[Z3I hf];exact Z3w _ hd (.inr (.inr ⟨by simp,by rw[qp];rfl,tK⟩)) w
   ·rw[if_neg (by rintro(h|h);exact h qp;exact tK h)] at hf;have hS:(bs (a::b::r)).size<=1000000000:=(by rw[Z00];exact hd);have jZ:2<=(bs (a::b::r)).size:=(by rw[Z00];simp);have dO:∀h:0<(bs (a::b::r)).size,((bs (a::b::r))[0]'h).toNat=165:=λh=>(by rw[Z3O _ 0 (by simp) h,qp];rfl);have df:∀h:1<(bs (a::b::r)).size,((bs (a::b::r))[1]'h).toNat=b.toNat:=λh=>(by rw[Z3O _ 1 (by simp) h];rfl);have hex:(bs (a::b::r)).extract 2 (bs (a::b::r)).size=bs r:=Z3m (bs (a::b::r)) 2;have hl:(a::b::r).length=r.length+2:=rfl;have iN:(bs r).size<=1000000000:=(by rw[Z00];omega);cases ht:Z0H r 4096 with
    |none=>
     rw[ht] at hf;simp only at hf;rw[Z3I hf];obtain⟨e,eB,cF⟩:=ZcP ht;exact Z9r hS jZ dO df (by omega) hex iN (show Z0S (bs r) 0 4096=(bs [],bs r,e) from cF) iN (Z6D eB 4) eB
    |some q=>
     obtain⟨body,r2⟩:=q;rw[ht] at hf;simp only at hf;obtain⟨k1,k2,k3,k4⟩:=Zaa ht;have BJ:Z0S (bs r) 0 4096=(bs body,bs r2,0):=k1;have cR:(bs r2).size<=1000000000:=(by rw[Z00];omega);by_cases gA:r2.length<4
     ·rw[if_pos gA] at hf;rw[Z3I hf];exact Z9r hS jZ dO df (by omega) hex iN BJ cR (show Z0C (bs r2) 0 4=(bs [],bs r2,12) from ZfN (n:=4) gA) (by decide)
     ·rw[if_neg gA] at hf;have ax:Z0C (bs r2) 0 4=(bs (r2.take 4),bs (r2.drop 4),0):=Z5J (n:=4) (by omega);obtain⟨z,hz⟩:∃z,(a::b::r).length-(r2.length-4)=z:=⟨_,rfl⟩;rw[hz] at hf;have iP:z+(bs (r2.drop 4)).size=(bs (a::b::r)).size:=(by rw[Z00,Z00,List.length_drop];omega);have hF:(bs (a::b::r)).extract 0 z=bs ((a::b::r).take z):=Z7j (bs (a::b::r)) z;have jQ:((a::b::r).take z).length<=1000000000:=(by rw[List.length_take];omega);cases fM:Z3N ((a::b::r).take z) with
      |false=>
       rw[fM,if_pos rfl] at hf;rw[Z3I hf];exact Zdx hS jZ dO df (by omega) hex iN BJ cR ax iP _ hF jQ fM
      |true=>
       rw[fM,if_neg (by decide)] at hf
       have fin:∀(c:List UInt8) (sm:Bool),conT b.toNat body=some c->sm=decide (16<=b.toNat)->((if decide (Z0B (b.toNat % 16) c=some ((a::b::r).take z))=true then .tuple #[frV (b.toNat % 16) c,.int .i64 (z:Int),.bool sm,.bool true] else .tuple #[.agg #[.int .i64 0,.string ⟨#[]⟩],.int .i64 0,.bool false,.bool false]:Value))=paV (a::b::r):=by
        intro c sm hc mu;rw[hc] at hf;simp only at hf;by_cases hw:Z0B (b.toNat % 16) c=some ((a::b::r).take z)
        ·rw[if_pos hw] at hf;rw[if_pos (decide_eq_true hw),Zh4 hf,mu];rfl
        ·rw[if_neg hw] at hf;rw[if_neg (by simpa using hw),Z3I hf]
       have cl:body.length<=1000000000:=(by omega);by_cases nC:16<=b.toNat
       ·by_cases mH:(lzD body 4096).2=0
        ·have hc:conT b.toNat body=some (lzD body 4096).1:=(by unfold conT;rw[if_pos nC,if_pos mH]);have BK:lzD body 4096=((lzD body 4096).1,0):=(by rw[<-mH]);have ia:=Z5b (Znx BK);rw[<-fin _ true hc (by simp[nC])];exact ZaK hS jZ dO df (by omega) hex iN BJ cR ax iP _ hF jQ fM nC cl BK (by omega)
        ·have hc:conT b.toNat body=none:=(by unfold conT;rw[if_pos nC,if_neg mH]);rw[hc] at hf;simp only at hf;rw[Z3I hf];exact ZaI hS jZ dO df (by omega) hex iN BJ cR ax iP _ hF jQ fM nC cl mH
       ·have hc:conT b.toNat body=some body:=(by unfold conT;rw[if_neg nC]);rw[<-fin _ false hc (by simp[nC])];exact ZaJ hS jZ dO df (by omega) hex iN BJ cR ax iP _ hF jQ fM (by omega) cl
  ·rw[if_pos (.inl qp)] at hf;rw[Z3I hf];refine Z3w _ hd (.inr (.inl ⟨by simp,?_⟩)) w;show a.toNat≠165;intro h;exact qp (UInt8.toNat_inj.1 h)
def uwV (data:List UInt8):Value:=match Z1y data with
 |none=>.tuple #[.agg #[.int .i64 0,.string ⟨#[]⟩],.int .i64 0,.int .i64 12]
 |some (k,c,n)=>.tuple #[frV k c,.int .i64 (n:Int),.int .i64 0]
theorem Zdy (data:List UInt8) (hd:data.length<=1000000000) (w:World):
  Calls Tryz.prog 60 #[.string (bs data)] w λx w'=>x=.returned (uwV data)/\Below w.heap.size w w':=by
 have Hp:=h_ (λW=>Zh7 data hd W);have aD:=h_ (λW hb v0 v1=>Zh5 (w:=w) (W:=W) hb v0 v1);cases hf:Z1y data with
 |none=>
  have hu:uwV data=.tuple #[.agg #[.int .i64 0,.string ⟨#[]⟩],.int .i64 0,.int .i64 12]:=(by unfold uwV;rw[hf]);rw[Z3I hf] at Hp;rw[hu];generalize bs data=S at*;clear hf hu hd;go_enter Tryz.func60,Tryz.ntmps60;go_wp2_with fail;refine(Hp.o _).mono ?_;rintro x w1 ⟨rfl,a7⟩;obtain⟨⟨c0,c1,f0,f1⟩,⟨z0,z1⟩,hB⟩:=aD.o _ a7 (.int .i64 0) (.string ⟨#[]⟩);have HB:=h_ (hB.alloc hB.size (.cells #[.int .i64 0,.string ⟨#[]⟩] 36));have ab:=a7.size;rw[World.size_alloc] at ab;have cZ:w.heap.size<w1.heap.size:=(by omega);clear a7 hB aD Hp;go_wp2_with ((with_reducible show bodyPost _ _ _ _ _ _);refine bodyPost_ret (v:=.tuple #[.agg #[.int .i64 0,.string ⟨#[]⟩],.int .i64 0,.int .i64 12]) (by simp[results,Tryz.results60,go_sem,z0,z1,cZ];try rfl) rfl ?_;exact⟨rfl,HB.o⟩)
 |some q=>
  obtain⟨k,c,n⟩:=q;have hu:uwV data=.tuple #[.agg #[.int .i64 (k:Int),.string (bs c)],.int .i64 (n:Int),.int .i64 0]:=(by unfold uwV;rw[hf];rfl);rw[Zh4 hf] at Hp;unfold frV at Hp;rw[hu];generalize decide (16<=(data.getD 1 0).toNat)=sm at*;generalize bs data=S at*;generalize bs c=CS at*;clear hf hu hd;go_enter Tryz.func60,Tryz.ntmps60;go_wp2_with fail;refine(Hp.o _).mono ?_;rintro x w1 ⟨rfl,a7⟩;obtain⟨⟨c0,c1,f0,f1⟩,⟨z0,z1⟩,hB⟩:=aD.o _ a7 (.int .i64 (k:Int)) (.string CS);have HB:=h_ (hB.alloc hB.size (.cells #[.int .i64 (k:Int),.string CS] 36));have ab:=a7.size;rw[World.size_alloc] at ab;have cZ:w.heap.size<w1.heap.size:=(by omega);clear a7 hB aD Hp;go_wp2_with ((with_reducible show bodyPost _ _ _ _ _ _);refine bodyPost_ret (v:=.tuple #[.agg #[.int .i64 (k:Int),.string CS],.int .i64 (n:Int),.int .i64 0]) (by simp[results,Tryz.results60,go_sem,z0,z1,cZ];try rfl) rfl ?_;exact⟨rfl,HB.o⟩)
end Go.Proofs.YtchokmkfobandaaGreatDoor
