import Derived.Test.YtchokmkfobandaaGreatDoorJ19
set_option linter.unusedVariables false
set_option linter.unusedSimpArgs false
set_option maxRecDepth 100000
set_option maxHeartbeats 8000000
namespace Go.Proofs.YtchokmkfobandaaGreatDoor
open Go.RowKit Go.Proofs Wv Wv.Vi Wv.Rc Wv.Mo Wv.Lz
theorem Zai (w:World):
  Calls Tryz.prog 174 #[.int .i64 1] w λx w'=>x=.returned (.tuple #[.pointer (some ⟨w.heap.size+1,0,none⟩),.int .i64 0])/\Bk w' w.heap.size 3 (nc (tr0 1))/\Bk w' (w.heap.size+1) 157 #[.int .i64 1,.slice (some ⟨w.heap.size,0,none⟩) 2 2]/\Below w.heap.size w w':=by
 have Hp:=h_ (ZcQ w);go_enter Tryz.func174,Tryz.ntmps174;go_wp2_with fail;refine(Hp.o).mono ?_;rintro x w1 ⟨rfl,h1,h2,hb⟩;have H1:=h_ h1;have H2:=h_ h2;clear h1 h2;go_wp2;go_returns;exact⟨rfl,H1.o,H2.o,hb⟩
def bcs (g:Nat) (c:UInt8):Array Value:=(trc g 8).push (bv c)
theorem ZnT (g:Nat) (c:UInt8) {k:Nat} (h:k<8):(bcs g c)[2*k]? =some (.int .i64 8)/\(bcs g c)[2*k+1]? =some (.slice (some ⟨g,256*k,none⟩) 256 256):=by
 rcases(show k=0\/k=1\/k=2\/k=3\/k=4\/k=5\/k=6\/k=7 by omega) with rfl|rfl|rfl|rfl|rfl|rfl|rfl|rfl<;>exact⟨rfl,rfl⟩
theorem Z4e (g:Nat) (c:UInt8):(bcs g c)[16]? =some (.int .u8 (c.toNat:Int)):=rfl
theorem Zg3 (g:Nat) (c d:UInt8):(bcs g c).setIfInBounds 16 (.int .u8 (d.toNat:Int))=bcs g d:=rfl
structure BtA (w:World) (b g:Nat) (ts:List Nat) (c:UInt8):Prop where
 st:Bk w b 234 (bcs g c)
 nd:Bk w g 3 (nc ts)
theorem BtA.tree {w:World} {b g:Nat} {ts:List Nat} {c:UInt8} (h:BtA w b g ts c) {k:Nat} (hk:k<8):TrA w b (2*k) g (256*k) 8 ts:=by
 obtain⟨t0,t1⟩:=ZnT g c hk;have c0:=h.st.cell (2*k);have c1:=h.st.cell (2*k+1);rw[t0] at c0;rw[t1] at c1;exact⟨c0,c1,h.nd,Bk.apart h.st h.nd (by decide),h.st.lt⟩
theorem BtA.fr {S:Nat->Prop} {w w':World} {b g:Nat} {ts:List Nat} {c:UInt8} (h:BtA w b g ts c) (hf:Fr S w w') (h1:¬S b) (h2:¬S g):BtA w' b g ts c:=⟨h.st.fr hf h1,h.nd.fr hf h2⟩
theorem BtA.below {w w':World} {b g:Nat} {ts:List Nat} {c:UInt8} (h:BtA w b g ts c) (hb:Below w.heap.size w w'):BtA w' b g ts c:=⟨h.st.below hb h.st.lt,h.nd.below hb h.nd.lt⟩
theorem slap (w:World) (g:Nat):(Instr.arrayAt 232 (.slice (some ⟨g,0,none⟩) 8 8)).run Tryz.prog w=.ok (.pointer (some ⟨g,0,none⟩)) w:=by kernel_rfl
theorem Zj8 (g:Nat):Array.foldl (λcs x=>cs.setIfInBounds x.snd x.fst) (#[.int .i64 0,.slice none 0 0,.int .i64 0,.slice none 0 0,.int .i64 0,.slice none 0 0,.int .i64 0,.slice none 0 0,.int .i64 0,.slice none 0 0,.int .i64 0,.slice none 0 0,.int .i64 0,.slice none 0 0,.int .i64 0,.slice none 0 0,.int .u8 0]:Array Value) (trc g 8).zipIdx 0 16=bcs g 0:=by kernel_rfl
theorem ZlZ:Tryz.prog.underlying 232=some (.array 8 157):=by kernel_rfl
theorem Z9a (w:World):
  Calls Tryz.prog 175 #[] w λx w'=>∃b,x=.returned (.pointer (some ⟨b,0,none⟩))/\w.heap.size<b/\BtA w' b w.heap.size (List.replicate 2048 1024) 0/\Below w.heap.size w w':=by
 have Hp:=h_ (ZcR w);go_enter Tryz.func175,Tryz.ntmps175;go_wp2_with fail;refine(Hp.o).mono ?_;rintro x w1 ⟨rfl,h1,h2,hb⟩;have H1:=h_ h1;have H2:=h_ h2;have hsl:=slap w1 (w.heap.size+1);have Gq:=Zj8 w.heap.size;have hs:=h2.lt;have hg:w1.heap[w.heap.size+1]? =some (.cells (trc w.heap.size 8) 157 (0,0)):=h2;obtain⟨BC,Gr⟩:∃x,bcs w.heap.size 0=x:=⟨_,rfl⟩;obtain⟨TC,rG⟩:∃x,trc w.heap.size 8=x:=⟨_,rfl⟩;rw[Gr,rG] at Gq;rw[rG] at hg;have hi:(Tryz.prog.info? 232).map (·.size)=some TC.size:=(by rw[<-rG];kernel_rfl);have R3:=h_ Gr;have hz:TC.size=16:=(by rw[<-rG];rfl);clear h1 h2 Hp Gr rG;go_wp2_with (refine wpList_load_row rfl 232 _ rfl (w.heap.size+1) rfl 157 TC (0,0) _ hg ZlZ rfl hi ?_);go_returns;exact⟨_,rfl,by omega,⟨by rw[R3.o];exact Bk.new _ _ _,H1.o.alloc _⟩,hb.alloc hb.size _⟩
theorem BtA.drew {w:World} {b g:Nat} {ts:List Nat} {c:UInt8} (h:BtA w b g ts c):BtA w.drew b g ts c:=⟨h.st,h.nd⟩
theorem BtA.foot {w:World} {b g eb:Nat} {dv:Value} {ts:List Nat} {c:UInt8} {e:En} (h:BtA w b g ts c) (he:EnAt w eb dv e):¬foot eb dv b/\¬foot eb dv g:=by
 refine⟨λhs=> ?_,Z5e he h.nd⟩;rcases hs with hs|hs
 ·exact Bk.apart h.st he.1 (by decide) hs
 ·exact Z02 he.2 h.st (by decide) hs
theorem ZnU {ts:List (List Nat)} (h:∀t∈ts,TOk t/\t.length=256) (hl:ts.length=8):ts.flatten.length=2048:=by
 rw[ZfR (λt ht=>(h t ht).2),hl]
def Zm0 (b g eb:Nat) (dv:Value):Nat->Prop:=λk=>k=b\/Z50 g eb dv k
theorem Zg4 {w:World} {b g eb:Nat} {dv:Value} {ts:List (List Nat)} {c0:UInt8} {e:En} (h:BtA w b g ts.flatten c0) (ht:∀t∈ts,TOk t/\t.length=256) (kh:ts.length=8) (he:EnAt w eb dv e) (hv:Val 0 e) (c:UInt8) (hl:e.out.length<=800000):
  Calls Tryz.prog 133 #[.pointer (some ⟨b,0,none⟩),.pointer (some ⟨eb,0,none⟩),.int .u8 (c.toNat:Int)] w λx w'=>x=.returned (.tuple #[])/\BtA w' b g (ts.set (c0.toNat/32) (tenc 8 c.toNat 1 (ts.getD (c0.toNat/32) []) e).1).flatten c/\∃cD,EnAt w' eb cD (tenc 8 c.toNat 1 (ts.getD (c0.toNat/32) []) e).2/\Fr (Zm0 b g eb dv) w w'/\Z0k w dv cD:=by
 have lD:=Z9W c0;have hf:=h.foot he;have cZ:=ZnU ht kh;have bN:=h.st.cell 16;rw[Z4e] at bN;obtain⟨k,hk⟩:∃k,c0.toNat/32=k:=⟨_,rfl⟩;rw[hk] at lD⊢;have i1:(c0.toNat:Int)/32=(k:Int):=(by omega);have va:IntKind.i64.wrap ((c.toNat:Nat):Int)=((c.toNat:Nat):Int):=IntWalk.i64_in _ (by have:=c.toNat_lt;omega);have cE:2*k=k*2:=Nat.mul_comm _ _;have He:=h_ (λ(W:World) (hW:BtA W b g ts.flatten c0) (Dm:EnAt W eb dv e)=>Z8Z (hW.tree lD) (by omega) (by rw[cZ];omega) (by rw[cZ];omega) (ZbM (λt h=>(ht t h).1)) Dm (hW.foot Dm).1 hv c.toNat (by have:=c.toNat_lt;omega) hl);rw[<-va,cE] at He;clear va;have hlen:∀t∈ts,t.length=256:=λt h=>(ht t h).2;obtain⟨p1,p2⟩:=Z5K (L:=256) hlen (j:=k) (by omega);obtain⟨q1,q2⟩:=ZbJ 8 (256*k) c.toNat 1 256 (t:=ts.flatten) (e:=e) (by rw[cZ];omega) (by decide);rw[p1] at q1 q2;rw[p2 _ q2] at q1;have Hq:=h_ q1;have Gs:(k:Int)<8:=(by omega);have Gt:(0:Int)<=(k:Int):=(by omega);have ia:=c.toNat_lt;obtain⟨m,hm⟩:∃m,c.toNat=m:=⟨_,rfl⟩;have aj:=Zg3 g c0 c;rw[hm] at He Hq ia aj⊢;obtain⟨m0,gh⟩:∃m,c0.toNat=m:=⟨_,rfl⟩;rw[gh] at bN i1;have av:=h_ aj;have H:=h_ h;have HE:=h_ he;have cl:=h.st.lt
 have cL:¬Z50 g eb dv b:=λhs=>by
  rcases hs with hs|hs
  ·exact Bk.apart h.st h.nd (by decide) hs
  ·exact hf.1 hs
 have il:=hf.1;clear p1 p2 q1 q2 hlen hm gh aj h he hv ht hl cZ hk hf;go_enter Tryz.func133,Tryz.ntmps133;go_wp2;go_region_with ((go_at_call 132;refine(He.o _ H.o.drew HE.o.drew).mono ?_;rintro r w1 ⟨rfl,Dn,lK,eB,aB,gd⟩))
 all_goals
  have fI:=H.o.st.drew.fr aB cL;have f16:=fI.frozen 16;have Gu:=fI.cell 16;rw[Z4e] at Gu;have um:=Z6G (w1:=w1) il gd cl;go_wp2;go_end0;have h2:=fI.put 16 (.int .u8 (m:Int));rw[av.o] at h2;have hT:=Dn.nd;have hE:=eB.offG (m:=16) (x:=.int .u8 (m:Int)) um;rw[Hq.o] at hT hE;have ve:=Bk.apart fI hT (by decide);exact⟨rfl,⟨h2,hT.off (p:=⟨b,16,none⟩) (Ne.symm ve) _⟩,lK,hE,((Fr.refl (Zm0 b g eb dv) w).drew.trans (aB.mono (λk hk=>.inr hk))).setCell (p:=⟨b,16,none⟩) (.inl (.inl rfl)) _,gd⟩
theorem Zg5 {w:World} {b g eb:Nat} {ts:List (List Nat)} {c0:UInt8} {d:De} (h:BtA w b g ts.flatten c0) (ht:∀t∈ts,TOk t/\t.length=256) (kh:ts.length=8) (he:DAt w eb d) (hv:DV 0 d):
  Calls Tryz.prog 223 #[.pointer (some ⟨b,0,none⟩),.pointer (some ⟨eb,0,none⟩)] w λx w'=>x=.returned (.int .u8 (((UInt8.ofNat ((tdec 8 1 (ts.getD (c0.toNat/32) []) d).1-256)).toNat:Nat):Int))/\BtA w' b g (ts.set (c0.toNat/32) (tdec 8 1 (ts.getD (c0.toNat/32) []) d).2.1).flatten (UInt8.ofNat ((tdec 8 1 (ts.getD (c0.toNat/32) []) d).1-256))/\DAt w' eb (tdec 8 1 (ts.getD (c0.toNat/32) []) d).2.2/\Fr (λk=>k=b\/Z6h g eb k) w w':=by
 have lD:=Z9W c0;have cZ:=ZnU ht kh;have bN:=h.st.cell 16;rw[Z4e] at bN;obtain⟨k,hk⟩:∃k,c0.toNat/32=k:=⟨_,rfl⟩;rw[hk] at lD⊢;have i1:(c0.toNat:Int)/32=(k:Int):=(by omega);have il:b≠eb:=Bk.apart h.st he (by decide);have ve:b≠g:=Bk.apart h.st h.nd (by decide);have cE:2*k=k*2:=Nat.mul_comm _ _;have ax:=ZbM (λt h=>(ht t h).1);have He:=h_ (λ(W:World) (hW:BtA W b g ts.flatten c0) (Dm:DAt W eb d)=>Z90 (hW.tree lD) (by omega) (by rw[cZ];omega) (by rw[cZ];omega) ax Dm il hv);rw[cE] at He;have hlen:∀t∈ts,t.length=256:=λt h=>(ht t h).2;obtain⟨p1,p2⟩:=Z5K (L:=256) hlen (j:=k) (by omega);obtain⟨q1,q2⟩:=ZbK 8 (256*k) 1 256 (t:=ts.flatten) (d:=d) (by rw[cZ];omega) (by decide);obtain⟨_,_,_,r1,r2⟩:=ZfQ 8 (256*k) 1 256 ts.flatten d ax (by rw[cZ];omega) (by decide) hv;rw[p1] at q1 q2;rw[p2 _ q2] at q1;rw[q1] at He r1 r2;simp only at He r1 r2;have e8:(2:Nat) ^ 8=256:=(by decide);rw[e8] at He r1 r2;have Gs:(k:Int)<8:=(by omega);have Gt:(0:Int)<=(k:Int):=(by omega);obtain⟨z,hz⟩:∃z,(tdec 8 1 (ts.getD k []) d).1-256=z:=⟨_,rfl⟩;have Uz:z<256:=(by omega);rw[hz] at He⊢;have Gv:(UInt8.ofNat z).toNat=z:=(by rw[UInt8.toNat_ofNat'];omega);have aj:=Zg3 g c0 (UInt8.ofNat z);rw[Gv] at aj⊢;obtain⟨m0,gh⟩:∃m,c0.toNat=m:=⟨_,rfl⟩;rw[gh] at bN i1;have Mn:IntKind.u8.wrap (z:Int)=(z:Int):=(by rw[IntKind.wrap_u8];omega);have R4:=h_ Gv;have av:=h_ aj;have H:=h_ h;have HE:=h_ he;have cl:=h.st.lt
 have cL:¬Z6h g eb b:=λhs=>by
  rcases hs with hs|hs
  ·exact ve hs
  ·exact il hs
 have f16:=h.st.frozen 16;clear p1 p2 q1 q2 r1 r2 hlen hz gh aj h he hv ht cZ hk ax Gv cE e8;go_enter Tryz.func223,Tryz.ntmps223;go_wp2;go_region_with ((go_at_call 222;refine(He.o _ H.o.drew HE.o.drew).mono ?_;rintro r w1 ⟨rfl,Dn,eB,aB⟩;have R5:=(H.o.st.drew.fr aB cL).frozen 16;have Gw:=(H.o.st.drew.fr aB cL).cell 16;rw[Z4e] at Gw))
 all_goals
  have fI:=H.o.st.drew.fr aB cL;have h2:=fI.put 16 (.int .u8 (z:Int));rw[av.o] at h2;have Gu:=h2.cell 16;rw[Z4e,R4.o] at Gu;have hT:=Dn.nd.off (p:=⟨b,16,none⟩) (Ne.symm ve) (.int .u8 (z:Int));have hE:=eB.offG (m:=16) (x:=.int .u8 (z:Int)) il;have hF:Fr (λk=>k=b\/Z6h g eb k) w (w1.setCell ⟨b,16,none⟩ (.int .u8 (z:Int))):=((Fr.refl (λk=>k=b\/Z6h g eb k) w).drew.trans (aB.mono (λk hk=>.inr hk))).setCell (p:=⟨b,16,none⟩) (.inl (.inl rfl)) _;have H2:=h_ h2;clear h2 fI Dn eB aB;generalize w1.setCell ⟨b,16,none⟩ (.int .u8 (z:Int))=W2 at*;go_wp2;go_ret;exact⟨rfl,⟨H2.o,hT⟩,hE,hF⟩
end Go.Proofs.YtchokmkfobandaaGreatDoor
