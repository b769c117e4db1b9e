import Derived.Test.YtchokmkfobandaaGreatDoorJ26
import Derived.Test.YtchokmkfobandaaGreatDoorJ14
set_option linter.unusedVariables false
set_option linter.unusedSimpArgs false
set_option maxRecDepth 100000
set_option maxHeartbeats 8000000
namespace Go.Proofs.YtchokmkfobandaaGreatDoor
open Go.RowKit Go.Proofs Wv Wv.Vi Wv.Rc Wv.Mo Wv.Lz
structure Pl where
 kb:Nat
 kg:Nat
 bb:Nat
 bg:Nat
 lb:Nat
 lg:Nat
 db:Nat
 dg:Nat
structure MsA (w:World) (p:Pl) (m:Ms):Prop where
 ks:Bk w p.kb 157 #[.int .i64 1,.slice (some ⟨p.kg,0,none⟩) 2 2]
 kn:Bk w p.kg 3 (nc m.kind)
 bt:BtA w p.bb p.bg m.bytes.flatten m.last
 ln:NAt w p.lb p.lg m.len
 dn:NAt w p.db p.dg m.dist
 a1:p.kg≠p.bg
 a2:p.kg≠p.lg
 a3:p.kg≠p.dg
 a4:p.bg≠p.lg
 a5:p.bg≠p.dg
 a6:p.lg≠p.dg
structure Off (T:Nat->Prop) (p:Pl):Prop where
 kb:¬T p.kb
 kg:¬T p.kg
 bb:¬T p.bb
 bg:¬T p.bg
 lb:¬T p.lb
 lg:¬T p.lg
 db:¬T p.db
 dg:¬T p.dg
theorem Z7Z {w:World} {eb b:Nat} {dv:Value} {e:En} {t:TypeId} {cs:Array Value} (he:EnAt w eb dv e) (h:Bk w b t cs) (h1:t≠206) (h2:5≠t):¬foot eb dv b:=λhs=>by
 rcases hs with hs|hs
 ·exact Bk.apart h he.1 h1 hs
 ·exact Z2 he.2 h h2 hs
theorem MsA.offE {w:World} {p:Pl} {m:Ms} (h:MsA w p m) {eb:Nat} {dv:Value} {e:En} (he:EnAt w eb dv e):Off (foot eb dv) p:=
 ⟨Z7Z he h.ks (by decide) (by decide),Z1h he h.kn,(h.bt.foot he).1,(h.bt.foot he).2,(h.ln.foot he).1,(h.ln.foot he).2,(h.dn.foot he).1,(h.dn.foot he).2⟩
theorem MsA.offD {w:World} {p:Pl} {m:Ms} (h:MsA w p m) {eb:Nat} {d:De} (he:DAt w eb d):Off (only eb) p:=
 ⟨Bk.apart h.ks he (by decide),Bk.apart h.kn he (by decide),Bk.apart h.bt.st he (by decide),Bk.apart h.bt.nd he (by decide),(h.ln.onl he).1,(h.ln.onl he).2,(h.dn.onl he).1,(h.dn.onl he).2⟩
theorem MsA.kind {w:World} {p:Pl} {m:Ms} (h:MsA w p m):TrA w p.kb 0 p.kg 0 1 m.kind:=
 ⟨h.ks.cell 0,h.ks.cell 1,h.kn,Bk.apart h.ks h.kn (by decide),h.ks.lt⟩
theorem MsA.fr {S:Nat->Prop} {w w':World} {p:Pl} {m:Ms} (h:MsA w p m) (hf:Fr S w w') (ho:Off S p):MsA w' p m:=
 ⟨h.ks.fr hf ho.kb,h.kn.fr hf ho.kg,h.bt.fr hf ho.bb ho.bg,h.ln.fr hf ho.lb ho.lg,h.dn.fr hf ho.db ho.dg,h.a1,h.a2,h.a3,h.a4,h.a5,h.a6⟩
theorem MsA.below {w w':World} {p:Pl} {m:Ms} (h:MsA w p m) (hb:Below w.heap.size w w'):MsA w' p m:=
 ⟨h.ks.below hb h.ks.lt,h.kn.below hb h.kn.lt,h.bt.below hb,h.ln.below hb,h.dn.below hb,h.a1,h.a2,h.a3,h.a4,h.a5,h.a6⟩
theorem MsA.drew {w:World} {p:Pl} {m:Ms} (h:MsA w p m):MsA w.drew p m:=
 ⟨h.ks,h.kn,h.bt.drew,h.ln.drew,h.dn.drew,h.a1,h.a2,h.a3,h.a4,h.a5,h.a6⟩
theorem MsA.setK {S T:Nat->Prop} {w w':World} {p:Pl} {m:Ms} (h:MsA w p m) (hf:Fr S w w') (hS:∀k,S k->k=p.kg\/T k) (ho:Off T p) {t:List Nat} (hk:Bk w' p.kg 3 (nc t)):MsA w' p { m with kind:=t } :=by
 have key:∀k,k≠p.kg->¬T k->¬S k:=λk h1 h2 h3=>by rcases hS k h3 with h|h;exact h1 h;exact h2 h
 exact⟨h.ks.fr hf (key _ (Bk.apart h.ks h.kn (by decide)) ho.kb),hk,h.bt.fr hf (key _ (Bk.apart h.bt.st h.kn (by decide)) ho.bb) (key _ (Ne.symm h.a1) ho.bg),h.ln.fr hf (key _ (Bk.apart h.ln.1 h.kn (by decide)) ho.lb) (key _ (Ne.symm h.a2) ho.lg),
  h.dn.fr hf (key _ (Bk.apart h.dn.1 h.kn (by decide)) ho.db) (key _ (Ne.symm h.a3) ho.dg),h.a1,h.a2,h.a3,h.a4,h.a5,h.a6⟩
theorem MsA.setB {S T:Nat->Prop} {w w':World} {p:Pl} {m:Ms} (h:MsA w p m) (hf:Fr S w w') (hS:∀k,S k->k=p.bb\/k=p.bg\/T k) (ho:Off T p) {ts:List (List Nat)} {c:UInt8} (hk:BtA w' p.bb p.bg ts.flatten c):MsA w' p { m with bytes:=ts,last:=c } :=by
 have key:∀k,k≠p.bb->k≠p.bg->¬T k->¬S k:=λk h1 h2 h3 h4=>by rcases hS k h4 with h|h|h;exact h1 h;exact h2 h;exact h3 h
 exact⟨h.ks.fr hf (key _ (Bk.apart h.ks h.bt.st (by decide)) (Bk.apart h.ks h.bt.nd (by decide)) ho.kb),h.kn.fr hf (key _ (Bk.apart h.kn h.bt.st (by decide)) h.a1 ho.kg),hk,
  h.ln.fr hf (key _ (Bk.apart h.ln.1 h.bt.st (by decide)) (Bk.apart h.ln.1 h.bt.nd (by decide)) ho.lb) (key _ (Bk.apart h.ln.2 h.bt.st (by decide)) (Ne.symm h.a4) ho.lg),
  h.dn.fr hf (key _ (Bk.apart h.dn.1 h.bt.st (by decide)) (Bk.apart h.dn.1 h.bt.nd (by decide)) ho.db) (key _ (Bk.apart h.dn.2 h.bt.st (by decide)) (Ne.symm h.a5) ho.dg),h.a1,h.a2,h.a3,h.a4,h.a5,h.a6⟩
theorem MsA.setL {S T:Nat->Prop} {w w':World} {p:Pl} {m:Ms} (h:MsA w p m) (hf:Fr S w w') (hS:∀k,S k->k=p.lg\/T k) (ho:Off T p) {t:List Nat} (hk:NAt w' p.lb p.lg t):MsA w' p { m with len:=t } :=by
 have key:∀k,k≠p.lg->¬T k->¬S k:=λk h1 h2 h3=>by rcases hS k h3 with h|h;exact h1 h;exact h2 h
 exact⟨h.ks.fr hf (key _ (Bk.apart h.ks h.ln.2 (by decide)) ho.kb),h.kn.fr hf (key _ h.a2 ho.kg),h.bt.fr hf (key _ (Bk.apart h.bt.st h.ln.2 (by decide)) ho.bb) (key _ h.a4 ho.bg),hk,
  h.dn.fr hf (key _ (Bk.apart h.dn.1 h.ln.2 (by decide)) ho.db) (key _ (Ne.symm h.a6) ho.dg),h.a1,h.a2,h.a3,h.a4,h.a5,h.a6⟩
theorem MsA.setD {S T:Nat->Prop} {w w':World} {p:Pl} {m:Ms} (h:MsA w p m) (hf:Fr S w w') (hS:∀k,S k->k=p.dg\/T k) (ho:Off T p) {t:List Nat} (hk:NAt w' p.db p.dg t):MsA w' p { m with dist:=t } :=by
 have key:∀k,k≠p.dg->¬T k->¬S k:=λk h1 h2 h3=>by rcases hS k h3 with h|h;exact h1 h;exact h2 h
 exact⟨h.ks.fr hf (key _ (Bk.apart h.ks h.dn.2 (by decide)) ho.kb),h.kn.fr hf (key _ h.a3 ho.kg),h.bt.fr hf (key _ (Bk.apart h.bt.st h.dn.2 (by decide)) ho.bb) (key _ h.a5 ho.bg),h.ln.fr hf (key _ (Bk.apart h.ln.1 h.dn.2 (by decide)) ho.lb) (key _ h.a6 ho.lg),hk,h.a1,h.a2,h.a3,h.a4,h.a5,h.a6⟩
structure PlB (B:Nat) (p:Pl):Prop where
 kb:B<=p.kb
 kg:B<=p.kg
 bb:B<=p.bb
 bg:B<=p.bg
 lb:B<=p.lb
 lg:B<=p.lg
 db:B<=p.db
 dg:B<=p.dg
def setC (p:Pl):Array Value:= #[.pointer (some ⟨p.kb,0,none⟩),.pointer (some ⟨p.bb,0,none⟩),.pointer (some ⟨p.lb,0,none⟩),.pointer (some ⟨p.db,0,none⟩)]
theorem Z2Z (w:World):
  Calls Tryz.prog 130 #[] w λx w'=>∃p,x=.returned (.agg (setC p))/\MsA w' p m0/\PlB w.heap.size p/\Below w.heap.size w w':=by
 have Ht:=h_ (λW=>Z6w W);have Hb:=h_ (λW=>Z5f W);have Hn:=h_ (λW=>Z3r W);have mX:=h_ ((Vae w.heap.size w).alloc UZz (.cells #[.pointer none,.pointer none,.pointer none,.pointer none] 178));have sH:=h_ (Bk.new w 178 #[.pointer none,.pointer none,.pointer none,.pointer none]);go_enter Tryz.func130,Tryz.ntmps130;go_wp2_with fail;refine(Ht.o _).mono ?_;rintro x w1 ⟨rfl,k1,k2,b1⟩;go_wp2_with fail;refine(Hb.o _).mono ?_;rintro x w2 ⟨bb,rfl,aS,k3,b2⟩;go_wp2_with fail;refine(Hn.o _).mono ?_;rintro x w3 ⟨lb,rfl,Na,k4,b3⟩;go_wp2_with fail;refine(Hn.o _).mono ?_;rintro x w4 ⟨db,rfl,Dn,k5,b4⟩;have e1:(w.alloc (.cells #[.pointer none,.pointer none,.pointer none,.pointer none] 178)).heap.size=w.heap.size+1:=World.size_alloc _ _;have s1:=b1.size;have s2:=b2.size;have s3:=b3.size;have s4:=b4.size;rw[e1] at s1;have l1:=k1.lt;have l2:=k2.lt;have l3:=k3.nd.lt;have l4:=k4.2.lt;rw[e1] at k1 k2 l1 l2;have c1:Below w1.heap.size w1 w4:=(b2.trans (b3.mono s2)).trans (b4.mono (by omega));have c2:Below w2.heap.size w2 w4:=b3.trans (b4.mono s3);have qj:=(((sH.o.below b1 (by omega)).below b2 (by omega)).below b3 (by omega)).below b4 (by omega);have yp:Below w.heap.size w w4:=(mX.o.trans (b1.mono (by omega))).trans (c1.mono (by omega));have q0:=qj.cell 0;have q1:=qj.cell 1;have q2:=qj.cell 2;have q3:=qj.cell 3;have f0:=qj.frozen 0;have f1:=qj.frozen 1;have f2:=qj.frozen 2;have f3:=qj.frozen 3;simp at q0 q1 q2 q3;have hF:=(((qj.put 0 (.pointer (some ⟨w.heap.size+1+1,0,none⟩))).put 1 (.pointer (some ⟨bb,0,none⟩))).put 2 (.pointer (some ⟨lb,0,none⟩))).put 3 (.pointer (some ⟨db,0,none⟩));have z0:=hF.cell 0;have z1:=hF.cell 1;have z2:=hF.cell 2;have z3:=hF.cell 3;simp at z0 z1 z2 z3;have Ts:=h_ ((((yp.setCell (p:=⟨w.heap.size,0,none⟩) UZz (.pointer (some ⟨w.heap.size+1+1,0,none⟩))).setCell (p:=⟨w.heap.size,1,none⟩) UZz (.pointer (some ⟨bb,0,none⟩))).setCell (p:=⟨w.heap.size,2,none⟩) UZz (.pointer (some ⟨lb,0,none⟩))).setCell (p:=⟨w.heap.size,3,none⟩) UZz (.pointer (some ⟨db,0,none⟩)))
 have ga:MsA w4 ⟨w.heap.size+1+1,w.heap.size+1,bb,w1.heap.size,lb,w2.heap.size,db,w3.heap.size⟩ m0:=
  ⟨k2.below c1 l2,k1.below c1 l1,(show BtA w2 bb w1.heap.size m0.bytes.flatten 0 from by rw[show m0.bytes.flatten=List.replicate 2048 1024 from Zfe];exact k3).below c2,k4.below b4,k5,by simp only;omega,by simp only;omega,by simp only;omega,by simp only;omega,by simp only;omega,by simp only;omega⟩
 have Bm:=ga.fr (((((Fr.refl (only w.heap.size) w4).setCell (p:=⟨w.heap.size,0,none⟩) (.inl rfl) (.pointer (some ⟨w.heap.size+1+1,0,none⟩))).setCell (p:=⟨w.heap.size,1,none⟩) (.inl rfl) (.pointer (some ⟨bb,0,none⟩))).setCell (p:=⟨w.heap.size,2,none⟩) (.inl rfl) (.pointer (some ⟨lb,0,none⟩))).setCell (p:=⟨w.heap.size,3,none⟩) (.inl rfl) (.pointer (some ⟨db,0,none⟩)))
  (by constructor<;>simp only[only]<;>omega)
 have tK:=h_ Bm;have Tt:Hid (PlB w.heap.size ⟨w.heap.size+1+1,w.heap.size+1,bb,w1.heap.size,lb,w2.heap.size,db,w3.heap.size⟩):=h_ (by constructor<;>simp only<;>omega);clear ga Bm hF qj yp k1 k2 k3 k4 k5 b1 b2 b3 b4 c1 c2 l1 l2 l3 l4 s1 s2 s3 s4 aS Na Dn sH mX Ht Hb Hn e1;go_wp2_with fail;refine bodyPost_ret (v:=.agg #[.pointer (some ⟨w.heap.size+1+1,0,none⟩),.pointer (some ⟨bb,0,none⟩),.pointer (some ⟨lb,0,none⟩),.pointer (some ⟨db,0,none⟩)]) (by simp[results,Tryz.results130,go_sem,z0,z1,z2,z3];try rfl) rfl ?_;exact⟨_,rfl,tK.o,Tt.o,Ts.o⟩
def pcC (t:Pc):Array Value:= #[.int .i64 (t.len:Int),.int .i64 (t.dist:Int),.int .u8 (t.byte.toNat:Int)]
structure WrSt (w:World) (p:Pl) (mb cb eb:Nat) (dv:Value) (x:Ms×En):Prop where
 ms:MsA w p x.1
 en:EnAt w eb dv x.2
 mc:Bk w mb 178 (setC p)
 cc:Bk w cb 153 #[.pointer (some ⟨eb,0,none⟩)]
def XZ (p:Pl) (eb:Nat) (dv:Value):Nat->Prop:=λk=>k=p.kg\/k=p.bb\/k=p.bg\/k=p.lg\/k=p.dg\/foot eb dv k
theorem Z6z {p:Pl} {eb:Nat} {dv:Value} {g:Nat} (hg:g=p.kg\/g=p.lg\/g=p.dg):∀k,Z13 g eb dv k->XZ p eb dv k:=λk h=>by
 rcases h with h|h
 ·rcases hg with e|e|e
  ·exact .inl (h.trans e)
  ·exact .inr (.inr (.inr (.inl (h.trans e))))
  ·exact .inr (.inr (.inr (.inr (.inl (h.trans e)))))
 ·exact .inr (.inr (.inr (.inr (.inr h))))
theorem ZiA {p:Pl} {eb:Nat} {dv:Value} :∀k,Zix p.bb p.bg eb dv k->XZ p eb dv k:=λk h=>by
 rcases h with h|h|h
 ·exact .inr (.inl h)
 ·exact .inr (.inr (.inl h))
 ·exact .inr (.inr (.inr (.inr (.inr h))))
theorem Z23 {p:Pl} {eb:Nat} {dv dr:Value} {w w1 w2:World} (h:Fr (XZ p eb dv) w w1) (k:Fr (XZ p eb dr) w1 w2) (ho:Zo w dv dr):Fr (XZ p eb dv) w w2:=
 h.trans' k (λi hi hs=>by
  rcases hs with hs|hs|hs|hs|hs|hs|hs
  ·exact .inl hs
  ·exact .inr (.inl hs)
  ·exact .inr (.inr (.inl hs))
  ·exact .inr (.inr (.inr (.inl hs)))
  ·exact .inr (.inr (.inr (.inr (.inl hs))))
  ·exact .inr (.inr (.inr (.inr (.inr (.inl hs)))))
  ·rcases ho with ho|ho
   ·exact .inr (.inr (.inr (.inr (.inr (.inr (ho▸hs))))))
   ·have:=ho i hs;omega)
theorem Z24 {w:World} {p:Pl} {m:Ms} (h:MsA w p m) {eb b:Nat} {dv:Value} {e:En} (he:EnAt w eb dv e) {t:TypeId} {cs:Array Value} (hb:Bk w b t cs) (h1:t≠206) (h2:5≠t) (h3:t≠3) (h4:t≠234):¬XZ p eb dv b:=λhs=>by
 rcases hs with hs|hs|hs|hs|hs|hs
 ·exact Bk.apart hb h.kn h3 hs
 ·exact Bk.apart hb h.bt.st h4 hs
 ·exact Bk.apart hb h.bt.nd h3 hs
 ·exact Bk.apart hb h.ln.2 h3 hs
 ·exact Bk.apart hb h.dn.2 h3 hs
 ·exact Z7Z he hb h1 h2 hs
theorem WrSt.mk_next {w w':World} {p:Pl} {mb cb eb:Nat} {dv cK:Value} {x y:Ms×En} (h:WrSt w p mb cb eb dv x) (hf:Fr (XZ p eb dv) w w') (hm:MsA w' p y.1) (he:EnAt w' eb cK y.2):WrSt w' p mb cb eb cK y:=
 ⟨hm,he,h.mc.fr hf (Z24 h.ms h.en h.mc (by decide) (by decide) (by decide) (by decide)),h.cc.fr hf (Z24 h.ms h.en h.cc (by decide) (by decide) (by decide) (by decide))⟩
theorem WrSt.below {w w':World} {p:Pl} {mb cb eb:Nat} {dv:Value} {x:Ms×En} (h:WrSt w p mb cb eb dv x) (hb:Below w.heap.size w w'):WrSt w' p mb cb eb dv x:=
 ⟨h.ms.below hb,h.en.below hb,h.mc.below hb h.mc.lt,h.cc.below hb h.cc.lt⟩
section
variable {w:World} {p:Pl} {mb cb eb:Nat} {dv:Value} {x:Ms×En}
theorem Zks (n v:Nat) (t:List Nat) (e:En) (h:t.length=2 ^ n):Z2t n 0 v 1 t e=tenc n v 1 t e:=by
 obtain⟨a,b⟩:=Z7N n 0 v 1 (2 ^ n) (t:=t) (e:=e) (by omega) (by omega);have e1:subL 0 (2 ^ n) t=t:=(by unfold subL;rw[Vco,<-h,Vbx]);rw[e1] at a b;rw[a];unfold putL;rw[Vbw,Vbz,Vbo,b,<-h,Vcm,Va3]
theorem Z5k (h:WrSt w p mb cb eb dv x) (hm:MOk x.1) (hv:Val 0 x.2) (b:Nat) (hb:b<2) (hl:x.2.out.length<=800000):
  Calls Tryz.prog 132 #[.pointer (some ⟨p.kb,0,none⟩),.pointer (some ⟨eb,0,none⟩),.int .i64 (b:Int)] w λr w'=>r=.returned (.tuple #[])/\∃cK,WrSt w' p mb cb eb cK (kenc b x)/\Fr (XZ p eb dv) w w'/\Zo w dv cK:=by
 have ho:=h.ms.offE h.en;refine(Z4Y h.ms.kind (by omega) (by rw[hm.k.2];decide) (by rw[hm.k.2];decide) hm.k.1 h.en ho.kb hv b (by omega) hl).mono ?_;rintro r w1 ⟨rfl,ht,mg,dU,aC,gy⟩;rw[Zks 1 b _ _ hm.k.2] at ht dU;have ai:=aC.mono (Z6z (p:=p) (.inl rfl));exact⟨rfl,mg,h.mk_next ai (h.ms.setK aC (λk hk=>hk) ho ht.nd) dU,ai,gy⟩
theorem ZcJ (h:WrSt w p mb cb eb dv x) (hm:MOk x.1) (hv:Val 0 x.2) (c:UInt8) (hl:x.2.out.length<=800000):
  Calls Tryz.prog 133 #[.pointer (some ⟨p.bb,0,none⟩),.pointer (some ⟨eb,0,none⟩),.int .u8 (c.toNat:Int)] w λr w'=>r=.returned (.tuple #[])/\∃cK,WrSt w' p mb cb eb cK (benc c x)/\Fr (XZ p eb dv) w w'/\Zo w dv cK:=by
 have ho:=h.ms.offE h.en;refine(Zcq h.ms.bt hm.b hm.bl h.en hv c hl).mono ?_;rintro r w1 ⟨rfl,ht,mg,dU,aC,gy⟩;have ai:=aC.mono (ZiA (p:=p));exact⟨rfl,mg,h.mk_next ai (h.ms.setB aC (λk hk=>hk) ho ht) dU,ai,gy⟩
theorem ZfM (h:WrSt w p mb cb eb dv x) (hm:MOk x.1) (hv:Val 0 x.2) (v:Nat) (jT:v<4611686018427387904) (hl:x.2.out.length<=800000):
  Calls Tryz.prog 134 #[.pointer (some ⟨p.lb,0,none⟩),.pointer (some ⟨eb,0,none⟩),.int .i64 (v:Int)] w λr w'=>r=.returned (.tuple #[])/\∃cK,WrSt w' p mb cb eb cK (lenc v x)/\Fr (XZ p eb dv) w w'/\Zo w dv cK:=by
 have ho:=h.ms.offE h.en;refine(Z3F h.ms.ln hm.l h.en hv v jT hl).mono ?_;rintro r w1 ⟨rfl,ht,mg,dU,aC,gy⟩;have ai:=aC.mono (Z6z (p:=p) (.inr (.inl rfl)));exact⟨rfl,mg,h.mk_next ai (h.ms.setL aC (λk hk=>hk) ho ht) dU,ai,gy⟩
theorem ZcK (h:WrSt w p mb cb eb dv x) (hm:MOk x.1) (hv:Val 0 x.2) (v:Nat) (jT:v<4611686018427387904) (hl:x.2.out.length<=800000):
  Calls Tryz.prog 134 #[.pointer (some ⟨p.db,0,none⟩),.pointer (some ⟨eb,0,none⟩),.int .i64 (v:Int)] w λr w'=>r=.returned (.tuple #[])/\∃cK,WrSt w' p mb cb eb cK (denc v x)/\Fr (XZ p eb dv) w w'/\Zo w dv cK:=by
 have ho:=h.ms.offE h.en;refine(Z3F h.ms.dn hm.d h.en hv v jT hl).mono ?_;rintro r w1 ⟨rfl,ht,mg,dU,aC,gy⟩;have ai:=aC.mono (Z6z (p:=p) (.inr (.inr rfl)));exact⟨rfl,mg,h.mk_next ai (h.ms.setD aC (λk hk=>hk) ho ht) dU,ai,gy⟩
end
theorem Z1j (b:Nat) (x:Ms×En):(kenc b x).2.out.length<=x.2.out.length+2:=Z3H b 1 1 x.1.kind x.2
theorem ZfN (c:UInt8) (x:Ms×En):(benc c x).2.out.length<=x.2.out.length+16:=Z3H c.toNat 8 1 (Z0y x.1) x.2
theorem Z80 {v:Nat} (hv:v<4611686018427387904) (x:Ms×En):(lenc v x).2.out.length<=x.2.out.length+134:=Z3I v hv (x.1.len,x.2)
theorem ZfO {v:Nat} (hv:v<4611686018427387904) (x:Ms×En):(denc v x).2.out.length<=x.2.out.length+134:=Z3I v hv (x.1.dist,x.2)
theorem Z81 {t:Pc} (h1:t.len<=1000000) (h2:t.dist<=1000000) (h3:t.dist=0/\1<=t.len\/2<=t.len) (x:Ms×En):(penc t x).2.out.length<=x.2.out.length+135*t.len:=by
 unfold penc;split
 ·have a:=Z1j 0 x;have b:=ZfN t.byte (kenc 0 x);omega
 ·have a:=Z1j 1 x;have b:=Z80 (v:=t.len-2) (by omega) (kenc 1 x);have c:=ZfO (v:=t.dist-1) (by omega) (lenc (t.len-2) (kenc 1 x));omega
theorem Z6A {w:World} {p:Pl} {mb cb eb:Nat} {dv:Value} {x:Ms×En} (h:WrSt w p mb cb eb dv x) (hm:MOk x.1) (hv:Val 0 x.2) (t:Pc) (h1:t.len<=1000000) (h2:t.dist<=1000000) (h3:t.dist=0/\1<=t.len\/1<=t.dist/\2<=t.len) (hl:x.2.out.length<=700000):
  Calls Tryz.prog 131 #[.agg (pcC t),.pointer (some ⟨mb,0,none⟩),.pointer (some ⟨cb,0,none⟩)] w λr w'=>r=.returned (.tuple #[])/\∃cK,WrSt w' p mb cb eb cK (penc t x)/\Fr (XZ p eb dv) w w'/\Zo w dv cK:=by
 have hN:=h_ (λ(o:Obj)=>h.below ((Vae w.heap.size w).alloc UZz o));obtain⟨tl,td,tb⟩:=t;simp only at h1 h2 h3;unfold pcC;simp only
 have hS:Hid (∀(W:World) (d:Value) (y:Ms×En),WrSt W p mb cb eb d y->W.cell? ⟨mb,0,none⟩=some (.pointer (some ⟨p.kb,0,none⟩))/\W.cell? ⟨mb,1,none⟩=some (.pointer (some ⟨p.bb,0,none⟩))/\W.cell? ⟨mb,2,none⟩=some (.pointer (some ⟨p.lb,0,none⟩))/\W.cell? ⟨mb,3,none⟩=some (.pointer (some ⟨p.db,0,none⟩))/\W.cell? ⟨cb,0,none⟩=some (.pointer (some ⟨eb,0,none⟩))):=
  h_ (λW d y hy=>⟨hy.mc.cell 0,hy.mc.cell 1,hy.mc.cell 2,hy.mc.cell 3,hy.cc.cell 0⟩)
 have hP:Hid (∀(W W':World) (d:Value) (y:Ms×En) (a b c:Value),WrSt W p mb cb eb d y->Fr (XZ p eb d) W W'->Bk W w.heap.size 181 #[a,b,c]->Bk W' w.heap.size 181 #[a,b,c]):=
  h_ (λW W' d y a b c hy hf hb=>hb.fr hf (Z24 hy.ms hy.en hb (by decide) (by decide) (by decide) (by decide)))
 have hA:=h_ (λ(W':World) (o:Obj) (d:Value) (hf:Fr (XZ p eb dv) (w.alloc o) W') (ho:Zo (w.alloc o) dv d)=>(⟨((Fr.refl (XZ p eb dv) w).alloc o).trans hf,(Zo.refl w dv).trans ho (by simp)⟩:Fr (XZ p eb dv) w W'/\Zo w dv d));have Bn:=Z1j 0 x;have Bo:=Z1j 1 x;obtain⟨kv0,wq⟩:=Xk (b:=0) hm hv;obtain⟨kv1,sI⟩:=Xk (b:=1) hm hv;obtain⟨c0,c1,c2,c3,c4⟩:=hS.o _ _ _ h;have Wq:=h.mc.lt;have xR:=h.cc.lt;by_cases hd:td=0
 ·subst hd;have hp:penc ⟨tl,0,tb⟩ x=benc tb (kenc 0 x):=rfl;rw[hp];have Hk:=h_ (λ(W:World) (hW:WrSt W p mb cb eb dv x)=>Z5k hW hm hv 0 (by omega) (by omega));have Hb:=h_ (λ(W:World) (d:Value) (hW:WrSt W p mb cb eb d (kenc 0 x))=>ZcJ hW kv0 wq tb (by omega));generalize kenc 0 x=y at*;generalize benc tb y=z at*;obtain⟨B,hB⟩:∃B,tb.toNat=B:=⟨_,rfl⟩;rw[hB] at Hb⊢;have jN:=h_ (Bk.new w 181 #[.int .i64 (tl:Int),.int .i64 ((0:Nat):Int),.int .u8 (B:Int)]);clear hp hB h hm hv kv0 wq kv1 sI Bn Bo hl h1 h2 h3;go_enter Tryz.func131,Tryz.ntmps131;go_wp2_with fail;refine(Hk.o _ (hN.o _)).mono ?_;rintro r w1 ⟨rfl,d1,eS,aC,gy⟩;have a7:=hP.o _ _ _ _ _ _ _ (hN.o _) aC jN.o;obtain⟨e0,e1,e2,e3,e4⟩:=hS.o _ _ _ eS;have t0:=a7.cell 0;have t1:=a7.cell 1;have t2:=a7.cell 2;simp at t0 t1 t2;obtain⟨nL,nN⟩:=hA.o _ _ _ aC gy;have aM:=nL.size;clear c0 c1 c2 c3 c4 aC gy a7;go_wp2_with fail;refine(Hb.o _ _ eS).mono ?_;rintro r w2 ⟨rfl,d2,gH,ai,dD⟩;go_wp2;first|go_end0|go_returns
  exact⟨rfl,d2,gH,Z23 nL ai nN,nN.trans dD aM⟩
 ·have hp:penc ⟨tl,td,tb⟩ x=denc (td-1) (lenc (tl-2) (kenc 1 x)):=(by unfold penc;rw[Vad hd]);rw[hp];have fI:=Z80 (v:=tl-2) (by omega) (kenc 1 x);obtain⟨lv,Nb⟩:=Z1c (v:=tl-2) kv1 sI;have Hk:=h_ (λ(W:World) (hW:WrSt W p mb cb eb dv x)=>Z5k hW hm hv 1 (by omega) (by omega));have Hl:=h_ (λ(W:World) (d:Value) (hW:WrSt W p mb cb eb d (kenc 1 x))=>ZfM hW kv1 sI (tl-2) (by omega) (by omega));have Hd:=h_ (λ(W:World) (d:Value) (hW:WrSt W p mb cb eb d (lenc (tl-2) (kenc 1 x)))=>ZcK hW lv Nb (td-1) (by omega) (by omega));generalize kenc 1 x=y at*;generalize lenc (tl-2) y=u at*;generalize denc (td-1) u=z at*;obtain⟨B,hB⟩:∃B,tb.toNat=B:=⟨_,rfl⟩;rw[hB];have jN:=h_ (Bk.new w 181 #[.int .i64 (tl:Int),.int .i64 (td:Int),.int .u8 (B:Int)]);have i1:(tl:Int)-2=((tl-2:Nat):Int):=(by omega);have i2:(td:Int)-1=((td-1:Nat):Int):=(by omega);have ko:((td:Int)==0)=false:=(by rw[Vam];omega);obtain⟨Wr,dt⟩:∃q,tl-2=q:=⟨_,rfl⟩;obtain⟨Ws,iX⟩:∃q,td-1=q:=⟨_,rfl⟩;rw[dt] at Hl i1;rw[iX] at Hd i2;clear hp hB h hm hv kv0 wq kv1 sI Bn Bo hl h3 lv Nb fI hd dt iX;go_enter Tryz.func131,Tryz.ntmps131;go_wp2_with fail;refine(Hk.o _ (hN.o _)).mono ?_;rintro r w1 ⟨rfl,d1,eS,aC,gy⟩;have a7:=hP.o _ _ _ _ _ _ _ (hN.o _) aC jN.o;obtain⟨e0,e1,e2,e3,e4⟩:=hS.o _ _ _ eS;have t0:=a7.cell 0;have t1:=a7.cell 1;simp at t0 t1;obtain⟨nL,nN⟩:=hA.o _ _ _ aC gy;have aM:=nL.size;have ao:=h_ a7;clear c0 c1 c2 c3 c4 aC gy a7;go_wp2_with fail;refine(Hl.o _ _ eS).mono ?_;rintro r w2 ⟨rfl,d2,gH,ai,dD⟩;have a8:=hP.o _ _ _ _ _ _ _ eS ai ao.o;obtain⟨g0,g1,g2,g3,g4⟩:=hS.o _ _ _ gH;have v0:=a8.cell 0;have v1:=a8.cell 1;simp at v0 v1;have pf:=Z23 nL ai nN;have Bp:=nN.trans dD aM;have cV:=pf.size;clear e0 e1 e2 e3 e4 ai dD a8 t0 t1 nL nN;go_wp2_with fail;refine(Hd.o _ _ gH).mono ?_;rintro r w3 ⟨rfl,d3,DC,aO,mO⟩;go_wp2;first|go_end0|go_returns
  exact⟨rfl,d3,DC,Z23 pf aO Bp,Bp.trans mO cV⟩
end Go.Proofs.YtchokmkfobandaaGreatDoor
namespace Go.Proofs.YtchokmkfobandaaGreatDoor
open Go.RowKit Go.Proofs Wv Wv.Vi Wv.Mo Wv.Lz
def Z25:Value:=.agg #[.int .i64 9,.int .i64 12,.int .i64 1,.int .i64 1]
theorem Z9k (t:Pc) (h1:t.len<=4096) (h2:t.dist<=4096) (w:World):
  Calls Tryz.prog 214 #[Z25,.agg (pcC t)] w λx w'=>x=.returned (.int .i64 (price t:Nat))/\Below w.heap.size w w':=by
 obtain⟨tl,td,tb⟩:=t;simp only at h1 h2;have hp:price ⟨tl,td,tb⟩=if td=0 then 9 else 12+blen td+blen tl:=rfl
 rw[hp];unfold pcC Z25;simp only;have aB:=h_ (((Vae w.heap.size w).alloc UZz (.cells #[.int .i64 9,.int .i64 12,.int .i64 1,.int .i64 1] 226)).alloc (by simp) (.cells #[.int .i64 (tl:Int),.int .i64 (td:Int),.int .u8 (tb.toNat:Int)] 181));generalize (tb.toNat:Int)=B at*;clear hp;by_cases hd:td=0
 ·rw[Vaf hd];subst hd;go_enter Tryz.func214,Tryz.ntmps214;go_wp2;go_returns;exact⟨rfl,aB.o⟩
 ·rw[Vad hd];have ko:((td:Int)==0)=false:=(by rw[Vam];omega);have Hd:=λW=>Z3E td (by omega) W;have Hl:=λW=>Z3E tl (by omega) W;have wd:(td:Int)=IntKind.u64.wrap (td:Int):=(by rw[IntKind.wrap_u64];omega);have wl:(tl:Int)=IntKind.u64.wrap (tl:Int):=(by rw[IntKind.wrap_u64];omega);rw[wd] at Hd;rw[wl] at Hl
  have Hw:Hid (IntKind.i64.wrap (IntKind.i64.wrap (12+IntKind.i64.wrap (blen td:Nat))+IntKind.i64.wrap (blen tl:Nat))=((12+blen td+blen tl:Nat):Int)):=h_ (by
   have b1:=Z0C h1;have b2:=Z0C h2;simp only[IntKind.wrap_i64];omega)
  have b1:=Z0C h1;have b2:=Z0C h2;have Hd:=h_ Hd;have Hl:=h_ Hl;generalize blen td=x at*;generalize blen tl=y at*;clear wd wl hd;go_enter Tryz.func214,Tryz.ntmps214;go_wp2;go_quiet ((go_at_call 178;first|(with_reducible exact q1 (Hd.o _))|(with_reducible exact q1 (Hl.o _))));go_wp2;go_returns;exact⟨Zw Hw.o,bdN aB.o _⟩
def stc (x:St):List Value:=[.int .i64 (x.cost:Int),.int .i64 (x.pcs:Int),.int .i64 (x.first.len:Int),.int .i64 (x.first.dist:Int),.int .u8 (x.first.byte.toNat:Int)]
def stA (L:List St):Array Value:=(L.flatMap stc).toArray
theorem Z6B (L:List St) (k:Nat) (h:k<L.length):(stA L)[k*5]? =some (.int .i64 ((L.getD k st0).cost:Int))/\(stA L)[k*5+1]? =some (.int .i64 ((L.getD k st0).pcs:Int))/\(stA L)[k*5+2]? =some (.int .i64 ((L.getD k st0).first.len:Int))/\(stA L)[k*5+3]? =some (.int .i64 ((L.getD k st0).first.dist:Int))/\(stA L)[k*5+4]? =some (.int .u8 ((L.getD k st0).first.byte.toNat:Int)):=by
 unfold stA;simp only[Vbe];induction L generalizing k with
 |nil=>simp at h
 |cons x r ih=>
  cases k with
  |zero=>exact⟨rfl,rfl,rfl,rfl,rfl⟩
  |succ k=>
   obtain⟨a,b,c,d,e⟩:=ih k (by simpa using h)
   have key:∀j,((x::r).flatMap stc)[(k+1)*5+j]? =(r.flatMap stc)[k*5+j]? :=λj=>by
    rw[Vb0,Vbc (by show 5<=_;omega)];congr 1;show(k+1)*5+j-5=_;omega
   have k0:=key 0;rw[Vb3,Vb3] at k0;rw[List.getD_cons_succ,k0,key,key,key,key];exact⟨a,b,c,d,e⟩
theorem ZiB (L:List St) (k:Nat) (x:St) (h:k<L.length):(((((stA L).setIfInBounds (k*5) (.int .i64 (x.cost:Int))).setIfInBounds (k*5+1) (.int .i64 (x.pcs:Int))).setIfInBounds (k*5+2) (.int .i64 (x.first.len:Int))).setIfInBounds (k*5+3) (.int .i64 (x.first.dist:Int))).setIfInBounds (k*5+4) (.int .u8 (x.first.byte.toNat:Int))=stA (L.set k x):=by
 apply Vbj.1;unfold stA;simp only[Array.toList_setIfInBounds];induction L generalizing k with
 |nil=>simp at h
 |cons y r ih=>
  cases k with
  |zero=>rfl
  |succ k=>
   have e:=ih k (by simpa using h);rw[List.set_cons_succ,Vb0,Vb0,<-e]
   have key:∀(l:List Value) (j:Nat) (v:Value),(stc y++l).set ((k+1)*5+j) v=stc y++l.set (k*5+j) v:=λl j v=>by
    rw[Va8 _ _ (by show 5<=_;omega)];congr 2;show(k+1)*5+j-5=_;omega
   have k0:=λl v=>key l 0 v;simp only[Vb3] at k0;rw[k0,key,key,key,key]
structure TrSt (w:World) (T bb ib cb sb:Nat) (L:List St) (i:Nat) (seen:Bool):Prop where
 tb:Bk w T 279 (stA L)
 best:Bk w bb 277 #[.slice (some ⟨T,0,none⟩) L.length L.length]
 i:Bk w ib 3 #[.int .i64 (i:Int)]
 c:Bk w cb 226 #[.int .i64 9,.int .i64 12,.int .i64 1,.int .i64 1]
 sn:Bk w sb 4 #[.bool seen]
theorem TrSt.below {w w':World} {T bb ib cb sb:Nat} {L:List St} {i:Nat} {seen:Bool} (h:TrSt w T bb ib cb sb L i seen) (hb:Below w.heap.size w w'):TrSt w' T bb ib cb sb L i seen:=
 ⟨h.tb.below hb h.tb.lt,h.best.below hb h.best.lt,h.i.below hb h.i.lt,h.c.below hb h.c.lt,h.sn.below hb h.sn.lt⟩
theorem TrSt.drewN {w:World} {T bb ib cb sb:Nat} {L:List St} {i:Nat} {seen:Bool} (h:TrSt w T bb ib cb sb L i seen) (n:Nat):TrSt (w.drewN n) T bb ib cb sb L i seen:=⟨h.tb,h.best,h.i,h.c,h.sn⟩
theorem TrSt.set {w:World} {T bb ib cb sb:Nat} {L:List St} {i:Nat} {seen:Bool} (h:TrSt w T bb ib cb sb L i seen) {k:Nat} (hk:k<L.length) (x:St):
  TrSt ((((((w.setCell ⟨T,k*5,none⟩ (.int .i64 (x.cost:Int))).setCell ⟨T,k*5+1,none⟩ (.int .i64 (x.pcs:Int))).setCell ⟨T,k*5+2,none⟩ (.int .i64 (x.first.len:Int))).setCell ⟨T,k*5+3,none⟩ (.int .i64 (x.first.dist:Int))).setCell ⟨T,k*5+4,none⟩ (.int .u8 (x.first.byte.toNat:Int))).setCell ⟨sb,0,none⟩ (.bool true)) T bb ib cb sb (L.set k x) i true:=by
 have hf:Fr (only T) w (((((w.setCell ⟨T,k*5,none⟩ (.int .i64 (x.cost:Int))).setCell ⟨T,k*5+1,none⟩ (.int .i64 (x.pcs:Int))).setCell ⟨T,k*5+2,none⟩ (.int .i64 (x.first.len:Int))).setCell ⟨T,k*5+3,none⟩ (.int .i64 (x.first.dist:Int))).setCell ⟨T,k*5+4,none⟩ (.int .u8 (x.first.byte.toNat:Int))):=
  (((((Fr.refl (only T) w).setCell (p:=⟨T,k*5,none⟩) (.inl rfl) _).setCell (p:=⟨T,k*5+1,none⟩) (.inl rfl) _).setCell (p:=⟨T,k*5+2,none⟩) (.inl rfl) _).setCell (p:=⟨T,k*5+3,none⟩) (.inl rfl) _).setCell (p:=⟨T,k*5+4,none⟩) (.inl rfl) _
 have ht:=((((h.tb.put (k*5) (.int .i64 (x.cost:Int))).put (k*5+1) (.int .i64 (x.pcs:Int))).put (k*5+2) (.int .i64 (x.first.len:Int))).put (k*5+3) (.int .i64 (x.first.dist:Int))).put (k*5+4) (.int .u8 (x.first.byte.toNat:Int));rw[ZiB L k x hk] at ht;have hs:=h.sn.fr hf (Bk.apart h.sn h.tb (by decide));have hb:=h.best.fr hf (Bk.apart h.best h.tb (by decide));have hi:=h.i.fr hf (Bk.apart h.i h.tb (by decide));have hc:=h.c.fr hf (Bk.apart h.c h.tb (by decide));refine⟨ht.off (p:=⟨sb,0,none⟩) (Bk.apart ht hs (by decide)) _,?_,hi.off (p:=⟨sb,0,none⟩) (Bk.apart hi hs (by decide)) _,hc.off (p:=⟨sb,0,none⟩) (Bk.apart hc hs (by decide)) _,hs.put 0 _⟩;rw[Vbh];exact hb.off (p:=⟨sb,0,none⟩) (Bk.apart hb hs (by decide)) _
def xOf (L:List St) (i:Nat) (t:Pc):St:=⟨(L.getD (i+t.len) st0).cost+price t,(L.getD (i+t.len) st0).pcs+1,t⟩
theorem TrSt.cells {w:World} {T bb ib cb sb:Nat} {L:List St} {i:Nat} {seen:Bool} (h:TrSt w T bb ib cb sb L i seen):w.cell? ⟨bb,0,none⟩=some (.slice (some ⟨T,0,none⟩) L.length L.length)/\w.cell? ⟨ib,0,none⟩=some (.int .i64 (i:Int))/\w.cell? ⟨cb,0,none⟩=some (.int .i64 9)/\w.cell? ⟨cb,1,none⟩=some (.int .i64 12)/\w.cell? ⟨cb,2,none⟩=some (.int .i64 1)/\w.cell? ⟨cb,3,none⟩=some (.int .i64 1)/\w.cell? ⟨sb,0,none⟩=some (.bool seen):=
 ⟨h.best.cell 0,h.i.cell 0,h.c.cell 0,h.c.cell 1,h.c.cell 2,h.c.cell 3,h.sn.cell 0⟩
theorem TrSt.at {w:World} {T bb ib cb sb:Nat} {L:List St} {i:Nat} {seen:Bool} (h:TrSt w T bb ib cb sb L i seen) {k:Nat} (hk:k<L.length):w.cell? ⟨T,k*5,none⟩=some (.int .i64 ((L.getD k st0).cost:Int))/\w.cell? ⟨T,k*5+1,none⟩=some (.int .i64 ((L.getD k st0).pcs:Int))/\w.cell? ⟨T,k*5+2,none⟩=some (.int .i64 ((L.getD k st0).first.len:Int))/\w.cell? ⟨T,k*5+3,none⟩=some (.int .i64 ((L.getD k st0).first.dist:Int))/\w.cell? ⟨T,k*5+4,none⟩=some (.int .u8 ((L.getD k st0).first.byte.toNat:Int)):=by
 obtain⟨a,b,c,d,e⟩:=Z6B L k hk;exact⟨(h.tb.cell _).trans a,(h.tb.cell _).trans b,(h.tb.cell _).trans c,(h.tb.cell _).trans d,(h.tb.cell _).trans e⟩
theorem Z3Z {W W':World} {p:Addr} {v:Value} (h:W.cell? p=some v) (hb:Below W.heap.size W W'):W'.cell? p=some v:=by
 have hl:p.block<W.heap.size:=by
  rcases Nat.lt_or_ge p.block W.heap.size with h1|h1
  ·exact h1
  ·simp[World.cell?,Array.getElem?_eq_none h1] at h
 rw[hb.cell hl];exact h
theorem Z40 {W:World} {p q:Addr} {v u:Value} (h:W.cell? p=some v) (az:q.block≠p.block):(W.setCell q u).cell? p=some v:=by
 have hf:Fr (only q.block) W (W.setCell q u):=(Fr.refl (only q.block) W).setCell (p:=q) (.inl rfl) u
 have hl:p.block<W.heap.size:=by
  rcases Nat.lt_or_ge p.block W.heap.size with h1|h1
  ·exact h1
  ·simp[World.cell?,Array.getElem?_eq_none h1] at h
 rw[hf.cell hl (λe=>az e.symm)];exact h
abbrev LvC (W0:World) (B1 B2 B3:Nat) (nc np tl td fY:Nat) (W:World):Prop:=
 W.cell? ⟨B1,0,none⟩=some (.int .i64 (nc:Int))/\W.cell? ⟨B1,1,none⟩=some (.int .i64 (np:Int))/\W.cell? ⟨B2,0,none⟩=some (.int .i64 (tl:Int))/\W.cell? ⟨B2,1,none⟩=some (.int .i64 (td:Int))/\W.cell? ⟨B2,2,none⟩=some (.int .u8 (fY:Int))/\W.cell? ⟨B3,0,none⟩=some (.int .i64 9)/\W.cell? ⟨B3,1,none⟩=some (.int .i64 12)/\W.cell? ⟨B3,2,none⟩=some (.int .i64 1)/\W.cell? ⟨B3,3,none⟩=some (.int .i64 1)/\Below W0.heap.size W0 W
theorem LvC.below {W0 W W':World} {B1 B2 B3:Nat} {nc np tl td fY:Nat} (h:LvC W0 B1 B2 B3 nc np tl td fY W) (hb:Below W.heap.size W W'):LvC W0 B1 B2 B3 nc np tl td fY W':=
 ⟨Z3Z h.1 hb,Z3Z h.2.1 hb,Z3Z h.2.2.1 hb,Z3Z h.2.2.2.1 hb,Z3Z h.2.2.2.2.1 hb,Z3Z h.2.2.2.2.2.1 hb,Z3Z h.2.2.2.2.2.2.1 hb,Z3Z h.2.2.2.2.2.2.2.1 hb,Z3Z h.2.2.2.2.2.2.2.2.1 hb,h.2.2.2.2.2.2.2.2.2.trans (hb.mono h.2.2.2.2.2.2.2.2.2.size)⟩
theorem LvC.belowb {W0 W W':World} {B1 B2 B3:Nat} {nc np tl td fY:Nat} (hb:Below W.heap.size W W') (h:LvC W0 B1 B2 B3 nc np tl td fY W):LvC W0 B1 B2 B3 nc np tl td fY W':=h.below hb
theorem LvC.dralloc {W0 W:World} {B1 B2 B3:Nat} {nc np tl td fY:Nat} (h:LvC W0 B1 B2 B3 nc np tl td fY W.drew) (o:Obj):LvC W0 B1 B2 B3 nc np tl td fY (W.alloc o).drew:=h.below ((Vae W.drew.heap.size W.drew).alloc UZz o)
theorem LvC.alloc {W0 W:World} {B1 B2 B3:Nat} {nc np tl td fY:Nat} (h:LvC W0 B1 B2 B3 nc np tl td fY W) (o:Obj):LvC W0 B1 B2 B3 nc np tl td fY (W.alloc o):=h.below ((Vae _ _).alloc UZz o)
theorem LvC.put {W0 W:World} {B1 B2 B3:Nat} {nc np tl td fY:Nat} (h:LvC W0 B1 B2 B3 nc np tl td fY W) {r:Nat} (hr:W0.heap.size<=r) (h1:B1<W0.heap.size) (h2:B2<W0.heap.size) (h3:B3<W0.heap.size) (a b c d e:Value):LvC W0 B1 B2 B3 nc np tl td fY (((((W.setCell ⟨r,0,none⟩ a).setCell ⟨r,1,none⟩ b).setCell ⟨r,2,none⟩ c).setCell ⟨r,3,none⟩ d).setCell ⟨r,4,none⟩ e):=by
 have go:∀ {W:World} (i:Nat) (u:Value),LvC W0 B1 B2 B3 nc np tl td fY W->LvC W0 B1 B2 B3 nc np tl td fY (W.setCell ⟨r,i,none⟩ u):=λi u h=>
  ⟨Z40 h.1 (by show r≠B1;omega),Z40 h.2.1 (by show r≠B1;omega),Z40 h.2.2.1 (by show r≠B2;omega),Z40 h.2.2.2.1 (by show r≠B2;omega),Z40 h.2.2.2.2.1 (by show r≠B2;omega),Z40 h.2.2.2.2.2.1 (by show r≠B3;omega),Z40 h.2.2.2.2.2.2.1 (by show r≠B3;omega),Z40 h.2.2.2.2.2.2.2.1 (by show r≠B3;omega),Z40 h.2.2.2.2.2.2.2.2.1 (by show r≠B3;omega),h.2.2.2.2.2.2.2.2.2.setCell (p:=⟨r,i,none⟩) hr u⟩
 exact go 4 e (go 3 d (go 2 c (go 1 b (go 0 a h))))
theorem lvA {wr w2:World} (a8:Below (wr.alloc (.cells #[.int .i64 0,.int .i64 0,.int .i64 0,.int .i64 0,.int .u8 0] 279)).drew.heap.size (wr.alloc (.cells #[.int .i64 0,.int .i64 0,.int .i64 0,.int .i64 0,.int .u8 0] 279)).drew w2):Bk w2 wr.heap.size 279 #[.int .i64 0,.int .i64 0,.int .i64 0,.int .i64 0,.int .u8 0]/\Below wr.heap.size wr w2:=
  ⟨Bk.below (show Bk (wr.alloc (.cells #[.int .i64 0,.int .i64 0,.int .i64 0,.int .i64 0,.int .u8 0] 279)).drew wr.heap.size 279 #[.int .i64 0,.int .i64 0,.int .i64 0,.int .i64 0,.int .u8 0] from Bk.new _ _ _) a8 (by show wr.heap.size<(wr.alloc _).heap.size;simp),
   ((Vae wr.heap.size wr).alloc UZz (.cells #[.int .i64 0,.int .i64 0,.int .i64 0,.int .i64 0,.int .u8 0] 279)).drew.trans (a8.mono (by show wr.heap.size<=(wr.alloc _).heap.size;rw[World.size_alloc];omega))⟩
theorem lvB {wr w2:World} (a8:Below wr.drew.heap.size wr.drew w2):Below wr.heap.size wr w2:=((Vae wr.heap.size wr).drew).trans (a8.mono UZz)
theorem ZfP {w:World} {g:Nat} {t:TypeId} (h:Bk w g t #[.int .i64 0,.int .i64 0,.int .i64 0,.int .i64 0,.int .u8 0]) (a b c d e:Value):Bk (((((w.setCell ⟨g,0,none⟩ a).setCell ⟨g,1,none⟩ b).setCell ⟨g,2,none⟩ c).setCell ⟨g,3,none⟩ d).setCell ⟨g,4,none⟩ e) g t #[a,b,c,d,e]:=((((h.put 0 a).put 1 b).put 2 c).put 3 d).put 4 e
theorem Z9l {w wb:World} {B g:Nat} (h:Below B wb w) (hg:B<=g) (a b c d e:Value):Below B wb (((((w.setCell ⟨g,0,none⟩ a).setCell ⟨g,1,none⟩ b).setCell ⟨g,2,none⟩ c).setCell ⟨g,3,none⟩ d).setCell ⟨g,4,none⟩ e):=
 ((((h.setCell (p:=⟨g,0,none⟩) hg a).setCell (p:=⟨g,1,none⟩) hg b).setCell (p:=⟨g,2,none⟩) hg c).setCell (p:=⟨g,3,none⟩) hg d).setCell (p:=⟨g,4,none⟩) hg e
theorem ZfQ {w : World} {T bb ib cb sb : Nat} {L : List St} {i : Nat} {seen : Bool} (h : TrSt w T bb ib cb sb L i seen) (hL : L.length <= 5000) (hc : ∀ x ∈ L, x.cost <= 1000000 /\ x.pcs <= 1000000) (t : Pc) (h1 : t.len <= 4096) (h2 : t.dist <= 4096) (h0 : 1 <= t.len) (hi : i + t.len < L.length) :
    Calls Tryz.prog 213 #[.agg (pcC t),.pointer (some ⟨bb,0,none⟩),.pointer (some ⟨ib,0,none⟩),.pointer (some ⟨cb,0,none⟩),.pointer (some ⟨sb,0,none⟩)] w λx w'=>x=.returned (.tuple #[])/\TrSt w' T bb ib cb sb (if(!seen||bett (xOf L i t) (L.getD i st0))=true then L.set i (xOf L i t) else L) i true/\Fr (λk=>k=T\/k=sb) w w':=by
  have wA:=Z1g h2 h1;have Hp:=h_ (λW=>Z9k t h1 h2 W);unfold Z25 at Hp;obtain⟨m1,m2⟩:(L.getD (i+t.len) st0).cost<=1000000/\(L.getD (i+t.len) st0).pcs<=1000000:=hc _ (by rw[Vbn,Van hi];exact Vak _);obtain⟨b1,b2,b3,b4,b5,b6,b7⟩:=h.cells;obtain⟨a1,a2,a3,a4,a5⟩:=h.at hi;have Tu:=h.tb.lt;have aS:=h.best.lt;have sa:=h.i.lt;have oa:=h.c.lt;have Ei:=h.sn.lt;have H:=h_ h;have mR:xOf L i t=⟨(L.getD (i+t.len) st0).cost+price t,(L.getD (i+t.len) st0).pcs+1,t⟩:=rfl;obtain⟨tl,td,tb⟩:=t;unfold pcC at*;simp only at h1 h2 h0 hi m1 m2 a1 a2 a3 a4 a5 mR Hp⊢;obtain⟨nx,j0⟩:∃x,L.getD (i+tl) st0=x:=⟨_,rfl⟩;rw[j0] at m1 m2 a1 a2 a3 a4 a5 mR;obtain⟨nc,np,⟨nl,nd,nb⟩⟩:=nx;simp only at m1 m2 a1 a2 a3 a4 a5 mR;obtain⟨pr,Nc⟩:∃p,price ⟨tl,td,tb⟩=p:=⟨_,rfl⟩;rw[Nc] at wA mR Hp;rw[mR];obtain⟨xc,Nd⟩:∃x,nc+pr=x:=⟨_,rfl⟩;obtain⟨xp,gj⟩:∃x,np+1=x:=⟨_,rfl⟩;rw[Nd,gj] at mR⊢;have e1:(nc:Int)+(pr:Int)=(xc:Int):=(by omega);have e2:(np:Int)+1=(xp:Int):=(by omega);have e3:IntKind.i64.wrap (xc:Int)=(xc:Int):=(by rw[IntKind.wrap_i64];omega);have e4:IntKind.i64.wrap (xp:Int)=(xp:Int):=(by rw[IntKind.wrap_i64];omega);have Wt:xc<=2000000/\xp<=2000000:=(by omega);have Ix:i<L.length:=(by omega);clear Nd gj;have sd:(i:Int)+(tl:Int)<(L.length:Int):=(by omega);have iZ:(0:Int)<=(i:Int)+(tl:Int):=(by omega);obtain⟨fY,wB⟩:∃x,tb.toNat=x:=⟨_,rfl⟩;obtain⟨Ej,Bq⟩:∃x,nb.toNat=x:=⟨_,rfl⟩;rw[wB] at Hp⊢;rw[Bq] at a5;have Iy:=h_ wB;have Nf:=h_ mR;obtain⟨RL,Iz⟩:∃R,(if(!seen||bett ⟨xc,xp,⟨tl,td,tb⟩⟩ (L.getD i st0))=true then L.set i ⟨xc,xp,⟨tl,td,tb⟩⟩ else L)=R:=⟨_,rfl⟩;rw[Iz];have Ng:=h_ Iz;clear mR j0 Nc wB Bq h Iz;go_enter Tryz.func213,Tryz.ntmps213;go_upto_region 2 with fail;have mX:=h_ (((Vae w.heap.size w).alloc UZz (.cells #[.int .i64 (tl:Int),.int .i64 (td:Int),.int .u8 (fY:Int)] 181)).alloc (by simp) (.cells #[.int .i64 (nc:Int),.int .i64 (np:Int),.int .i64 (nl:Int),.int .i64 (nd:Int),.int .u8 (Ej:Int)] 279));have lB:=h_ ((Bk.new w 181 #[.int .i64 (tl:Int),.int .i64 (td:Int),.int .u8 (fY:Int)]).alloc (.cells #[.int .i64 (nc:Int),.int .i64 (np:Int),.int .i64 (nl:Int),.int .i64 (nd:Int),.int .u8 (Ej:Int)] 279));have fZ:=h_ (Bk.newN (w.alloc (.cells #[.int .i64 (tl:Int),.int .i64 (td:Int),.int .u8 (fY:Int)] 181)) 279 #[.int .i64 (nc:Int),.int .i64 (np:Int),.int .i64 (nl:Int),.int .i64 (nd:Int),.int .u8 (Ej:Int)] (n:=w.heap.size+1) (by simp));generalize (w.alloc (.cells #[.int .i64 (tl:Int),.int .i64 (td:Int),.int .u8 (fY:Int)] 181)).alloc (.cells #[.int .i64 (nc:Int),.int .i64 (np:Int),.int .i64 (nl:Int),.int .i64 (nd:Int),.int .u8 (Ej:Int)] 279)=W0 at*;have Br:=h_ (H.o.below mX.o)
  have hK:Hid (∀W',Below W0.heap.size W0 W'->(W'.cell? ⟨w.heap.size+1,0,none⟩=some (.int .i64 (nc:Int))/\W'.cell? ⟨w.heap.size+1,1,none⟩=some (.int .i64 (np:Int))/\W'.cell? ⟨w.heap.size,0,none⟩=some (.int .i64 (tl:Int))/\W'.cell? ⟨w.heap.size,1,none⟩=some (.int .i64 (td:Int))/\W'.cell? ⟨w.heap.size,2,none⟩=some (.int .u8 (fY:Int))/\W'.cell? ⟨cb,0,none⟩=some (.int .i64 9)/\W'.cell? ⟨cb,1,none⟩=some (.int .i64 12)/\W'.cell? ⟨cb,2,none⟩=some (.int .i64 1)/\W'.cell? ⟨cb,3,none⟩=some (.int .i64 1))):=
    h_ (λW' hb=>by
      have n0:=fZ.o.below hb fZ.o.lt;have t0:=lB.o.below hb lB.o.lt;obtain⟨_,_,d1,d2,d3,d4,_⟩:=(Br.o.below hb).cells;exact⟨n0.cell 0,n0.cell 1,t0.cell 0,t0.cell 1,t0.cell 2,d1,d2,d3,d4⟩)
  obtain⟨k1,k2,k3,k4,k5,k6,k7,k8,k9⟩:=hK.o W0 (Vae _ _);have dP:=fZ.o.lt;have wC:=lB.o.lt;have wD:=Br.o.c.lt;clear b1 b2 b3 b4 b5 b6 b7 a1 a2 a3 a4 a5 sd iZ;go_cut [7] (λs7 wx=>∃b,s7=.pointer (some ⟨b,0,none⟩)/\Hid (Bk wx b 279 #[.int .i64 (xc:Int),.int .i64 (xp:Int),.int .i64 (tl:Int),.int .i64 (td:Int),.int .u8 (fY:Int)])/\Hid (Below W0.heap.size W0 wx)/\W0.heap.size<=b)
  case first=>
    clear mX lB fZ Br H Iy Nf hc m1 m2 wA hL h1 h2 h0 hi;have H1:LvC W0 (w.heap.size+1) w.heap.size cb nc np tl td fY W0.drew:=⟨k1,k2,k3,k4,k5,k6,k7,k8,k9,(Vae _ _).drew⟩;unfold LvC at H1;have lC:=h_ dP;have tY:=h_ wC;have IA:=h_ wD;clear dP wC wD hK
    go_region_held3 (λW=>W.cell? ⟨w.heap.size+1,0,none⟩=some (.int .i64 (nc:Int))/\W.cell? ⟨w.heap.size+1,1,none⟩=some (.int .i64 (np:Int))/\W.cell? ⟨w.heap.size,0,none⟩=some (.int .i64 (tl:Int))/\W.cell? ⟨w.heap.size,1,none⟩=some (.int .i64 (td:Int))/\W.cell? ⟨w.heap.size,2,none⟩=some (.int .u8 (fY:Int))/\W.cell? ⟨cb,0,none⟩=some (.int .i64 9)/\W.cell? ⟨cb,1,none⟩=some (.int .i64 12)/\W.cell? ⟨cb,2,none⟩=some (.int .i64 1)/\W.cell? ⟨cb,3,none⟩=some (.int .i64 1)/\Below W0.heap.size W0 W) (first|with_reducible assumption|with_reducible exact H1|with_reducible exact LvC.alloc (by assumption) _|with_reducible exact LvC.alloc yq.o _|with_reducible exact LvC.dralloc (by assumption) _|with_reducible exact LvC.belowb (by assumption) (by assumption)|with_reducible exact LvC.put (by assumption) (by first|exact UZz|exact yq.o.2.2.2.2.2.2.2.2.2.size) lC.o tY.o IA.o _ _ _ _ _)
      (first|(go_at_call 214;with_reducible refine(Hp.o _).mono ?_;rintro r wm ⟨rfl,kJ⟩;have yq:Hid (LvC W0 (w.heap.size+1) w.heap.size cb nc np tl td fY wm):=h_ (LvC.belowb kJ (by with_reducible assumption));first|((with_reducible (have me:=lvA kJ));have q0:=me.1.cell 0;have q1:=me.1.cell 1;have q2:=me.1.cell 2;have q3:=me.1.cell 3;have q4:=me.1.cell 4;have p0:=me.1.frozen 0;have p1:=me.1.frozen 1;have p2:=me.1.frozen 2;have p3:=me.1.frozen 3;have p4:=me.1.frozen 4;simp at q0 q1 q2 q3 q4)|skip))
    · go_wp2
      go_meet;case rel=>exact⟨_,rfl,h_ (Bk.new _ _ _),h_ (yq.o.2.2.2.2.2.2.2.2.2.alloc yq.o.2.2.2.2.2.2.2.2.2.size _),yq.o.2.2.2.2.2.2.2.2.2.size⟩
    · go_wp2
      go_meet;case rel=>exact⟨_,rfl,h_ (ZfP me.1 _ _ _ _ _),h_ (Z9l yq.o.2.2.2.2.2.2.2.2.2 UZz _ _ _ _ _),UZz⟩
  case rest=>
    obtain⟨b,rfl,hX,vQ,vW⟩:=hcut;have gW:=Br.o.below vQ.o;have IB:Fr (λk=>k=T\/k=sb) w wc:=Fr.of_below (mX.o.trans (vQ.o.mono mX.o.size));clear k1 k2 k3 k4 k5 k6 k7 k8 k9 dP wC wD mX lB fZ Br H hK Hp e1 e2 e3 e4 m1 m2 wA vQ h1 h2 h0 hi;obtain⟨b1,b2,b3,b4,b5,b6,b7⟩:=gW.cells;obtain⟨a1,a2,a3,a4,a5⟩:=gW.at Ix;have x0:=hX.o.cell 0;have x1:=hX.o.cell 1;have x2:=hX.o.cell 2;have x3:=hX.o.cell 3;have x4:=hX.o.cell 4;simp at x0 x1 x2 x3 x4;have lV:(L.getD i st0).cost<=1000000/\(L.getD i st0).pcs<=1000000:=hc _ (by rw[Vbn,Van Ix];exact Vak _);have iA:bett ⟨xc,xp,⟨tl,td,tb⟩⟩ (L.getD i st0)=(decide (xc<(L.getD i st0).cost)||(decide (xc=(L.getD i st0).cost)&&decide (xp<(L.getD i st0).pcs))):=rfl;have hR:=Ng.o;rw[iA] at hR;obtain⟨cc,jA⟩:∃x,(L.getD i st0).cost=x:=⟨_,rfl⟩;obtain⟨cp,u9⟩:∃x,(L.getD i st0).pcs=x:=⟨_,rfl⟩;rw[jA] at a1 lV hR;rw[u9] at a2 lV hR;have yr:=h_ (λn=>(gW.drewN n).set Ix ⟨xc,xp,⟨tl,td,tb⟩⟩);simp only at yr;rw[Iy.o] at yr;have wE:=h_ (λn (a b c d e f:Value)=>((((((IB.drewN n).setCell (p:=⟨T,i*5,none⟩) (.inl (.inl rfl)) a).setCell (p:=⟨T,i*5+1,none⟩) (.inl (.inl rfl)) b).setCell (p:=⟨T,i*5+2,none⟩) (.inl (.inl rfl)) c).setCell (p:=⟨T,i*5+3,none⟩) (.inl (.inl rfl)) d).setCell (p:=⟨T,i*5+4,none⟩) (.inl (.inl rfl)) e).setCell (p:=⟨sb,0,none⟩) (.inl (.inr rfl)) f);have g0:=gW.tb.frozen (i*5);have g1:=gW.tb.frozen (i*5+1);have g2:=gW.tb.frozen (i*5+2);have g3:=gW.tb.frozen (i*5+3);have g4:=gW.tb.frozen (i*5+4);have g5:=gW.sn.frozen 0;have sd:(i:Int)<(L.length:Int):=(by omega);have iZ:(0:Int)<=(i:Int):=(by omega);have Tv:sb≠T:=Bk.apart gW.sn gW.tb (by decide);have Wu:T≠sb:=Ne.symm Tv;have Nh:=h_ gW;have Ni:=h_ IB;clear jA u9 iA hX gW IB hc hL Iy Tu aS sa oa Ei Nf;clear Ng
    have mf:(seen=false\/(seen=true/\(xc<cc\/(xc=cc/\xp<cp))))\/(seen=true/\(cc<xc\/(xc=cc/\¬xp<cp))):=by
      cases seen with
      |false=>exact .inl (.inl rfl)
      | true => rcases Nat.lt_trichotomy xc cc with h | h | h
                · exact .inl (.inr ⟨rfl,.inl h⟩)
                · by_cases h2:xp<cp
                  · exact .inl (.inr ⟨rfl,.inr ⟨h,h2⟩⟩)
                  · exact .inr ⟨rfl,.inr ⟨h,h2⟩⟩
                · exact .inr ⟨rfl,.inl h⟩
    rcases mf with dK|dw
    · have ec : L.set i ⟨xc, xp, ⟨tl, td, tb⟩⟩ = RL := by
        rw[<-hR];rcases dK with h|⟨h,h2|⟨h2,h3⟩⟩
        · rw[h];rfl
        · rw[h,Vao h2];rfl
        · rw[Vao h2,Vao h3,h]
          simp
      have aN:=h_ ec;clear hR ec;rcases dK with rfl|⟨rfl,ab|⟨heq,ab⟩⟩
      · go_wp2
        go_quiet (fail);go_wp2;first|go_end0|go_returns
        rw[<-aN.o];exact⟨rfl,yr.o _,wE.o _ _ _ _ _ _ _⟩
      · have iK:(xc:Int)<(cc:Int):=by omega
        have hd:decide ((xc:Int)<(cc:Int))=true:=Vao iK;have IC:decide (xc<cc)=true:=Vao ab;go_wp2;go_quiet (fail);go_wp2;first|go_end0|go_returns
        rw[<-aN.o];exact⟨rfl,yr.o _,wE.o _ _ _ _ _ _ _⟩
      · subst heq
        have ko:¬(xc:Int)<(xc:Int):=(by omega);have iK:(xp:Int)<(cp:Int):=(by omega);have hd:decide ((xp:Int)<(cp:Int))=true:=Vao iK;have IC:decide (xp<cp)=true:=Vao ab;have Tw:decide (xc<xc)=false:=Vai (Nat.lt_irrefl _);go_wp2;go_quiet (fail);go_wp2;first|go_end0|go_returns
        rw[<-aN.o];exact⟨rfl,yr.o _,wE.o _ _ _ _ _ _ _⟩
    · have ec : L = RL := by
        rw[<-hR];rcases dw with ⟨h,h2|⟨h2,h3⟩⟩
        · rw[h,Vai (show ¬xc<cc by omega),Vai (show ¬xc=cc by omega)];rfl
        · rw[h,Vai (show ¬xc<cc by omega),Vao h2,Vai h3];rfl
      have aN:=h_ ec;clear hR ec yr wE;rcases dw with ⟨rfl,ab|⟨heq,ab⟩⟩
      · have iK:¬(xc:Int)<(cc:Int):=by omega
        have IC:decide (xc<cc)=false:=Vai (by omega);have Ww:decide (xc=cc)=false:=Vai (by omega);have az:((xc:Int)==(cc:Int))=false:=(by rw[Vam];omega);go_wp2;go_quiet (fail);go_wp2;first|go_end0|go_returns
        rw[<-aN.o];exact⟨rfl,Nh.o.drewN _,Ni.o.drewN _⟩
      · subst heq
        have ko:¬(xc:Int)<(xc:Int):=(by omega);have iK:¬(xp:Int)<(cp:Int):=(by omega);have IC:decide (xp<cp)=false:=Vai ab;have Tw:decide (xc<xc)=false:=Vai (Nat.lt_irrefl _);go_wp2;go_quiet (fail);go_wp2;first|go_end0|go_returns
        rw[<-aN.o];exact⟨rfl,Nh.o.drewN _,Ni.o.drewN _⟩
end Go.Proofs.YtchokmkfobandaaGreatDoor
