import Derived.Test.YtchokmkfobandaaGreatDoorJ32
set_option linter.unusedVariables false
set_option linter.unusedSimpArgs false
set_option maxRecDepth 100000
set_option maxHeartbeats 8000000
namespace Go.Proofs.YtchokmkfobandaaGreatDoor
open Go.RowKit Go.Proofs Wv Wv.Vi Wv.Rc Wv.Mo Wv.Lz
structure RdA (w:World) (p:Pl) (mb eb:Nat) (m:Ms) (d:De):Prop where
 ms:MsA w p m
 de:DAt w eb d
 mc:Bk w mb 178 (setC p)
def Z16 (p:Pl) (eb:Nat):Nat->Prop:=λk=>k=p.kg\/k=p.bb\/k=p.bg\/k=p.lg\/k=p.dg\/k=eb
theorem Zd4 {w:World} {p:Pl} {m:Ms} (h:MsA w p m) {eb b:Nat} {d:De} (he:DAt w eb d) {t:TypeId} {cs:Array Value} (hb:Bk w b t cs) (h1:t≠292) (h3:t≠3) (h4:t≠234):¬Z16 p eb b:=λhs=>by
 rcases hs with hs|hs|hs|hs|hs|hs
 ·exact Bk.apart hb h.kn h3 hs
 ·exact Bk.apart hb h.bt.st h4 hs
 ·exact Bk.apart hb h.bt.nd h3 hs
 ·exact Bk.apart hb h.ln.2 h3 hs
 ·exact Bk.apart hb h.dn.2 h3 hs
 ·exact Bk.apart hb he h1 hs
theorem RdA.next {w w':World} {p:Pl} {mb eb:Nat} {m m':Ms} {d d':De} (h:RdA w p mb eb m d) (hf:Fr (Z16 p eb) w w') (hm:MsA w' p m') (he:DAt w' eb d'):RdA w' p mb eb m' d':=
 ⟨hm,he,h.mc.fr hf (Zd4 h.ms h.de h.mc (by decide) (by decide) (by decide))⟩
theorem RdA.below {w w':World} {p:Pl} {mb eb:Nat} {m:Ms} {d:De} (h:RdA w p mb eb m d) (hb:Below w.heap.size w w'):RdA w' p mb eb m d:=⟨h.ms.below hb,h.de.below hb,h.mc.below hb h.mc.lt⟩
theorem RdA.drew {w:World} {p:Pl} {mb eb:Nat} {m:Ms} {d:De} (h:RdA w p mb eb m d):RdA w.drew p mb eb m d:=⟨h.ms.drew,h.de.drew,h.mc⟩
theorem RdA.keep {w w':World} {p:Pl} {mb eb:Nat} {m:Ms} {d:De} (h:RdA w p mb eb m d) (hk:∀xb T cs,Bk w xb T cs->5≠T->Bk w' xb T cs):RdA w' p mb eb m d:=
 ⟨⟨hk _ _ _ h.ms.ks (by decide),hk _ _ _ h.ms.kn (by decide),⟨hk _ _ _ h.ms.bt.st (by decide),hk _ _ _ h.ms.bt.nd (by decide)⟩,⟨hk _ _ _ h.ms.ln.1 (by decide),hk _ _ _ h.ms.ln.2 (by decide)⟩,⟨hk _ _ _ h.ms.dn.1 (by decide),hk _ _ _ h.ms.dn.2 (by decide)⟩,h.ms.a1,h.ms.a2,h.ms.a3,h.ms.a4,h.ms.a5,h.ms.a6⟩,
  hk _ _ _ h.de (by decide),hk _ _ _ h.mc (by decide)⟩
theorem RdA.row {w w':World} {p:Pl} {mb eb:Nat} {m:Ms} {d:De} (h:RdA w p mb eb m d) (hf:Fr (Z16 p eb) w w') {B n:Nat} {v:Value} {xs:List Value} (hr:w.ownsRow B 5 1 v n xs):w'.ownsRow B 5 1 v n xs:=
 Zn hr hf (λg hg hs=>by
  rcases hs with hs|hs|hs|hs|hs|hs
  ·exact Z2 hr h.ms.kn (by decide) (hs▸hg)
  ·exact Z2 hr h.ms.bt.st (by decide) (hs▸hg)
  ·exact Z2 hr h.ms.bt.nd (by decide) (hs▸hg)
  ·exact Z2 hr h.ms.ln.2 (by decide) (hs▸hg)
  ·exact Z2 hr h.ms.dn.2 (by decide) (hs▸hg)
  ·exact Z2 hr h.de (by decide) (hs▸hg))
theorem rnew {B:Nat} {p:Pl} {eb:Nat} {w wr w':World} (hp:PlB B p) (he:B<=eb) (hb:Below B w wr) (hB:B<=wr.heap.size) (hf:Fr (Z16 p eb) wr w'):Below B w w':=
 hb.trans (hf.toBelow' hB (λk hk hs=>by
  rcases hs with hs|hs|hs|hs|hs|hs
  ·have:=hp.kg;omega
  ·have:=hp.bb;omega
  ·have:=hp.bg;omega
  ·have:=hp.lg;omega
  ·have:=hp.dg;omega
  ·omega))
theorem Z6M {p:Pl} {eb g:Nat} (hg:g=p.kg\/g=p.lg\/g=p.dg):∀k,Z2m g eb k->Z16 p eb k:=λk h=>by
 rcases h with h|h
 ·rcases hg with e|e|e
  ·exact .inl (h.trans e)
  ·exact .inr (.inr (.inr (.inl (h.trans e))))
  ·exact .inr (.inr (.inr (.inr (.inl (h.trans e)))))
 ·exact .inr (.inr (.inr (.inr (.inr h))))
theorem Zh9 (n:Nat) (t:List Nat) (d:De) (h:t.length=2 ^ n):Xv n 0 1 t d=tdec n 1 t d:=by
 obtain⟨a,b⟩:=Z7O n 0 1 (2 ^ n) (t:=t) (d:=d) (by omega) (by omega);have e1:subL 0 (2 ^ n) t=t:=(by unfold subL;rw[Vco,<-h,Vbx]);rw[e1] at a b;rw[a];unfold putL;rw[Vbw,Vbz,Vbo,b,<-h,Vcm,Va3]
theorem ZiR {m:Ms} {d:De} (h:MOk m) (hv:DV 0 d):MOk (kdec m d).2.1/\DV 0 (kdec m d).2.2:=by
 obtain⟨a,b,c,_,_⟩:=Z4x 1 1 m.kind d h.k.1 (by rw[h.k.2];decide) hv;exact⟨⟨⟨a,b.trans h.k.2⟩,h.bl,h.b,h.l,h.d⟩,c⟩
theorem ZiS {m:Ms} {d:De} (h:MOk m) (hv:DV 0 d):MOk (bdec m d).2.1/\DV 0 (bdec m d).2.2:=by
 obtain⟨t1,t2⟩:=Z1b h;obtain⟨a,b,c,_,_⟩:=Z4x 8 1 (Z0y m) d t1 (by rw[t2];decide) hv;exact⟨⟨h.k,by show(List.set _ _ _).length=8;rw[Vbh];exact h.bl,Z7o h ⟨a,b.trans t2⟩ _,h.l,h.d⟩,c⟩
theorem ZiT {m:Ms} {d:De} (h:MOk m) (hv:DV 0 d):MOk (ldec m d).2.1/\DV 0 (ldec m d).2.2:=by
 obtain⟨a,b⟩:=Zbp h.l hv;exact⟨⟨h.k,h.bl,h.b,a,h.d⟩,b⟩
theorem ZiU {m:Ms} {d:De} (h:MOk m) (hv:DV 0 d):MOk (ddec m d).2.1/\DV 0 (ddec m d).2.2:=by
 obtain⟨a,b⟩:=Zbp h.d hv;exact⟨⟨h.k,h.bl,h.b,h.l,a⟩,b⟩
section
variable {w:World} {p:Pl} {mb eb:Nat} {m:Ms} {d:De}
theorem Zd5 (h:RdA w p mb eb m d) (hm:MOk m) (hv:DV 0 d):
  Calls Tryz.prog 222 #[.pointer (some ⟨p.kb,0,none⟩),.pointer (some ⟨eb,0,none⟩)] w λr w'=>r=.returned (.int .i64 ((kdec m d).1:Nat))/\RdA w' p mb eb (kdec m d).2.1 (kdec m d).2.2/\Fr (Z16 p eb) w w':=by
 refine(Z4Z h.ms.kind (by omega) (by rw[hm.k.2];decide) (by rw[hm.k.2];decide) hm.k.1 h.de (Bk.apart h.ms.ks h.de (by decide)) hv).mono ?_;rintro r w1 ⟨rfl,ht,hd,hf⟩;rw[Zh9 1 _ _ hm.k.2] at ht hd;rw[Zh9 1 _ _ hm.k.2];have ai:=hf.mono (Z6M (p:=p) (.inl rfl));exact⟨rfl,h.next ai (h.ms.setK hf (λk hk=>hk) (h.ms.offD h.de) ht.nd) hd,ai⟩
theorem Zd6 (h:RdA w p mb eb m d) (hm:MOk m) (hv:DV 0 d):
  Calls Tryz.prog 223 #[.pointer (some ⟨p.bb,0,none⟩),.pointer (some ⟨eb,0,none⟩)] w λr w'=>r=.returned (.int .u8 (((bdec m d).1.toNat:Nat):Int))/\RdA w' p mb eb (bdec m d).2.1 (bdec m d).2.2/\Fr (Z16 p eb) w w':=by
 refine(Zcr h.ms.bt hm.b hm.bl h.de hv).mono ?_;rintro r w1 ⟨rfl,ht,hd,hf⟩
 have ai:Fr (Z16 p eb) w w1:=hf.mono (λk hk=>by
  rcases hk with h|h|h
  ·exact .inr (.inl h)
  ·exact .inr (.inr (.inl h))
  ·exact .inr (.inr (.inr (.inr (.inr h)))))
 exact⟨rfl,h.next ai (h.ms.setB hf (λk hk=>hk) (h.ms.offD h.de) ht) hd,ai⟩
theorem Zg5 (h:RdA w p mb eb m d) (hm:MOk m) (hv:DV 0 d):
  Calls Tryz.prog 224 #[.pointer (some ⟨p.lb,0,none⟩),.pointer (some ⟨eb,0,none⟩)] w λr w'=>r=.returned (.int .i64 (ldec m d).1)/\RdA w' p mb eb (ldec m d).2.1 (ldec m d).2.2/\Fr (Z16 p eb) w w':=by
 refine(Z3G h.ms.ln hm.l h.de hv).mono ?_;rintro r w1 ⟨rfl,ht,hd,hf⟩;have ai:=hf.mono (Z6M (p:=p) (.inr (.inl rfl)));exact⟨rfl,h.next ai (h.ms.setL hf (λk hk=>hk) (h.ms.offD h.de) ht) hd,ai⟩
theorem Zd7 (h:RdA w p mb eb m d) (hm:MOk m) (hv:DV 0 d):
  Calls Tryz.prog 224 #[.pointer (some ⟨p.db,0,none⟩),.pointer (some ⟨eb,0,none⟩)] w λr w'=>r=.returned (.int .i64 (ddec m d).1)/\RdA w' p mb eb (ddec m d).2.1 (ddec m d).2.2/\Fr (Z16 p eb) w w':=by
 refine(Z3G h.ms.dn hm.d h.de hv).mono ?_;rintro r w1 ⟨rfl,ht,hd,hf⟩;have ai:=hf.mono (Z6M (p:=p) (.inr (.inr rfl)));exact⟨rfl,h.next ai (h.ms.setD hf (λk hk=>hk) (h.ms.offD h.de) ht) hd,ai⟩
theorem RdA.cells (h:RdA w p mb eb m d):w.cell? ⟨mb,0,none⟩=some (.pointer (some ⟨p.kb,0,none⟩))/\w.cell? ⟨mb,1,none⟩=some (.pointer (some ⟨p.bb,0,none⟩))/\w.cell? ⟨mb,2,none⟩=some (.pointer (some ⟨p.lb,0,none⟩))/\w.cell? ⟨mb,3,none⟩=some (.pointer (some ⟨p.db,0,none⟩)):=
 ⟨h.mc.cell 0,h.mc.cell 1,h.mc.cell 2,h.mc.cell 3⟩
end
theorem Z9A (d n:Nat) (o:List UInt8):Qa d (n+1) o=Qa d n (o++[o.getD (o.length-d) 0]):=rfl
theorem Zd8 (o:List UInt8) (c:UInt8):o.map bv++[.int .u8 (c.toNat:Int)]=(o++[c]).map bv:=by simp[bv]
def optB (o:Option (List UInt8)):Value:=match o with
 |some t=>.tuple #[.string (bs t),.bool true]
 |none=>.tuple #[.string (bs []),.bool false]
def slen (v:Value):Nat:=match v with
 |.slice _ n _=>n
 |_=>0
theorem ZiV {f n:Nat} {o:List UInt8} {m:Ms} {d:De} (h:¬o.length<n):rdP f n o m d=some o:=by
 cases f with
 |zero=>rfl
 |succ f=>rw[rdP,Vad h]
theorem Zha:(Tryz.prog.info? 5).map (λi=>(i.zero,i.size,i.bytes))=some (some (.int .u8 0),1,1):=by kernel_rfl
theorem Z9B (data:List UInt8) (n:Nat) (hn:n<=4096) (w:World):
  Calls Tryz.prog 182 #[.string (bs data),.int .i64 (n:Int)] w λx w'=>x=.returned (optB (lzR data n))/\Below w.heap.size w w':=by
 have Hs:=h_ (λW=>Z2Z W);unfold setC at Hs;have He:=h_ (λW=>Z7f data W);have o7:Hid (rdP n n [] m0 (d0 data)=lzR data n):=h_ rfl;have qV:=d0_v data;obtain⟨R,hR⟩:∃R,lzR data n=R:=⟨_,rfl⟩;rw[hR] at o7⊢;generalize d0 data=D0 at*;generalize bs data=S at*;clear hR;go_enter Tryz.func182,Tryz.ntmps182;go_wp2_with fail;refine(Hs.o _).mono ?_;rintro x w1 ⟨p,rfl,dC,dB,a7⟩;go_wp2_with fail;refine(He.o _).mono ?_;rintro x w2 ⟨rfl,oc,a8⟩;have s1:=a7.size;have s2:=a8.size
 have yB:RdA (w2.alloc (.cells (setC p) 178)) p w2.heap.size w1.heap.size m0 D0:=
  ⟨(dC.below a8).below ((Vae w2.heap.size w2).alloc UZz _),oc.below ((Vae w2.heap.size w2).alloc UZz _),Bk.new _ _ _⟩
 have aH:=(a7.trans (a8.mono s1)).alloc (by omega) (.cells (setC p) 178);have qx:=h_ yB;have bE:=h_ aH;have HP:=h_ dB;have uh:w.heap.size<=w1.heap.size:=(by omega);have qA:Hid ((w2.alloc (.cells (setC p) 178)).ownsRow w.heap.size 5 1 (.slice none 0 0) ([]:List UInt8).length (([]:List UInt8).map bv)):=h_ Zk;have hcell:=yB.cells;unfold setC at qx bE qA hcell;clear yB aH dC dB a7 oc a8 s1 s2 Hs He;go_wp2;generalize (w2.alloc (.cells #[.pointer (some ⟨p.kb,0,none⟩),.pointer (some ⟨p.bb,0,none⟩),.pointer (some ⟨p.lb,0,none⟩),.pointer (some ⟨p.db,0,none⟩)] 178))=W5 at*;generalize w2.heap.size=mb at*;generalize w1.heap.size=eb at*;clear hcell;go_loopw [8] (λs8 wx=>∃(f:Nat) (o:List UInt8) (m:Ms) (d:De) (ov:Value),s8=ov/\Hid (RdA wx p mb eb m d)/\Hid (MOk m/\DV 0 d)/\Hid (rdP f n o m d=R)/\Hid (n<=o.length+f)/\Hid (o.length<=n)/\Hid (wx.ownsRow w.heap.size 5 1 ov o.length (o.map bv))/\Hid (Below w.heap.size w wx)) (λs8 _=>n-slen s8);case atStart=>exact⟨n,[],m0,D0,_,rfl,qx,h_ ⟨ZaT,qV⟩,o7,h_ (by simp),h_ (Vat _),qA,bE⟩
 case round=>
  clear qx bE qA o7 qV;obtain⟨f,o,m,d,ov,rfl,hW,mB,yx,rB,ew,aX,hb⟩:=hrel;obtain⟨A,cap,rfl,_⟩:=Zl aX.o;obtain⟨ol,fS⟩:∃x,o.length=x:=⟨_,rfl⟩;by_cases ab:o.length<n
  ·obtain⟨f1,rfl⟩:∃g,f=g+1:=⟨f-1,by have:=rB.o;omega⟩;have iO:=yx.o;rw[rdP,Vaf ab] at iO;obtain⟨kv1,kv2⟩:=ZiR mB.o.1 mB.o.2;have Hk:=h_ (Zd5 hW.o mB.o.1 mB.o.2);obtain⟨c0,c1,c2,c3⟩:=hW.o.cells;have iK:(ol:Int)<(n:Int):=(by omega);have nC:=h_ fS;have cT:=aX.o;rw[fS] at cT⊢;have EB:=hW;obtain⟨kk,kI⟩:∃x,(kdec m d).1=x:=⟨_,rfl⟩;rw[kI] at iO Hk;generalize (kdec m d).2.1=m1 at*;generalize (kdec m d).2.2=d1 at*;clear kI hW yx ab fS;by_cases hz:kk=0
   ·subst hz;rw[Vaf rfl] at iO;have z0:((0:Nat):Int)=0:=rfl;rw[z0] at Hk;obtain⟨Oh,Oi⟩:=ZiS kv1 kv2;have Jc:=h_ (λ(W:World) (h:RdA W p mb eb m1 d1)=>Zd6 h kv1 kv2);obtain⟨c,hc⟩:∃x,(bdec m1 d1).1=x:=⟨_,rfl⟩;rw[hc] at iO Jc;generalize (bdec m1 d1).2.1=m2 at*;generalize (bdec m1 d1).2.2=d2 at*;have x8:=h_ iO;have gg:=h_ cT;have eW:=h_ (And.intro Oh Oi);clear hc iO cT aX kv1 kv2 Oh Oi c2 c3 mB;go_wp2_with fail;refine(Hk.o).mono ?_;rintro x w3 ⟨rfl,uk,aO⟩;have eI:=EB.o.row aO gg.o;have af:=rnew HP.o uh hb.o hb.o.size aO;obtain⟨e0,e1,e2,e3⟩:=uk.cells;clear c0 c1 e2 e3 aO Hk hb gg EB;go_wp2_with fail;refine(Jc.o _ uk).mono ?_;rintro x w4 ⟨rfl,By,aF⟩;have um:=uk.row aF eI;have ax:=rnew HP.o uh af af.size aF;obtain⟨v',w5,hr,eh,aH,dO⟩:=Yq (P:=Tryz.prog) 115 5 _ _ Tryz.underlying115 Zha rfl um ax ax.size (.int .u8 (c.toNat:Int)) rfl (by unfold maxLen;have:=ew.o;have:=nC.o;omega) (by have:=ew.o;have:=nC.o;omega);rw[Zd8] at eh;have cC:ol+1=(o++[c]).length:=(by rw[Vab,Vbd,nC.o]);rw[cC] at eh;have qx:=h_ (By.keep dO);have qB:=h_ eh;have bE:=h_ aH;have aq:=h_ hr;have Uj:Hid (n<=(o++[c]).length+f1):=h_ (by rw[<-cC];have:=rB.o;have:=nC.o;omega);have Uk:Hid ((o++[c]).length<=n):=h_ (by rw[<-cC];omega)
    have Jd:Hid (n-slen v'<n-ol):=h_ (by
     obtain⟨A',bp,e,_⟩:=Zl eh;rw[e];show n-(o++[c]).length<_;rw[<-cC];omega)
    obtain⟨A5,M5,aY,rfl⟩:=Zd eh;generalize (c.toNat:Int)=C at*;clear e0 e1 aF uk eI af By um ax hr eh aH dO cC rB ew Jc;go_wp2_with (at_builtin;refine Z3 (by with_reducible rfl) rfl _ _ _ rfl _ _ (by rfl) (by rfl) aq.o ?_);refine⟨⟨f1,_,m2,d2,_,rfl,qx,eW,x8,Uj,Uk,qB,bE⟩,?_⟩;exact Jd.o
   ·rw[Vad hz] at iO;have du:((kk:Int)==0)=false:=(by rw[Vam];omega);obtain⟨Je,Jf⟩:=ZiT kv1 kv2;have il:=h_ (λ(W:World) (h:RdA W p mb eb m1 d1)=>Zg5 h kv1 kv2);obtain⟨L,hL⟩:∃x,(ldec m1 d1).1=x:=⟨_,rfl⟩;rw[hL] at iO il;generalize (ldec m1 d1).2.1=m2 at*;generalize (ldec m1 d1).2.2=d2 at*;obtain⟨mg,Ds⟩:=ZiU Je Jf;have wH:=h_ (λ(W:World) (h:RdA W p mb eb m2 d2)=>Zd7 h Je Jf);obtain⟨D,hD⟩:∃x,(ddec m2 d2).1=x:=⟨_,rfl⟩;rw[hD] at iO wH;generalize (ddec m2 d2).2.1=m3 at*;generalize (ddec m2 d2).2.2=d3 at*;have x8:=h_ iO;have gg:=h_ cT;have yu:=h_ (And.intro mg Ds);clear hL hD iO cT aX kv1 kv2 Je Jf mg Ds mB hz;go_wp2_with fail;refine(Hk.o).mono ?_;rintro x w3 ⟨rfl,uk,aO⟩;have eI:=EB.o.row aO gg.o;have af:=rnew HP.o uh hb.o hb.o.size aO;obtain⟨e0,e1,e2,e3⟩:=uk.cells;have qC:=h_ eI;have aJ:=h_ af;have EC:=h_ uk;clear c0 c1 c2 c3 aO Hk hb gg EB eI af e0 e1 uk;go_wp2;go_cut [9,10] (λs9 lh wx=>s9=.int .i64 L/\lh=.int .i64 D/\Hid (RdA wx p mb eb m3 d3)/\Hid (Fr (Z16 p eb) w3 wx))
    case first=>
     have H1:w3.drew.cell? ⟨mb,2,none⟩=some (.pointer (some ⟨p.lb,0,none⟩))/\w3.drew.cell? ⟨mb,3,none⟩=some (.pointer (some ⟨p.db,0,none⟩)):=⟨e2,e3⟩;have Ul:RdA w3.drew p mb eb m1 d1:=EC.o.drew;clear x8 yu qC aJ EC HP rB ew
     go_region_held3 (λW=>W.cell? ⟨mb,2,none⟩=some (.pointer (some ⟨p.lb,0,none⟩))/\W.cell? ⟨mb,3,none⟩=some (.pointer (some ⟨p.db,0,none⟩))) (first|with_reducible assumption|with_reducible exact H1)
      (first
       |(go_at_call 224;with_reducible refine(il.o _ (by with_reducible assumption)).mono ?_;rintro r wa ⟨rfl,Oj,Um⟩;have WH:wa.cell? ⟨mb,2,none⟩=some (.pointer (some ⟨p.lb,0,none⟩))/\wa.cell? ⟨mb,3,none⟩=some (.pointer (some ⟨p.db,0,none⟩)):=⟨Oj.cells.2.2.1,Oj.cells.2.2.2⟩)
       |(go_at_call 224;with_reducible refine(wH.o _ (by with_reducible assumption)).mono ?_;rintro r wb ⟨rfl,Jg,G9⟩;have WI:wb.cell? ⟨mb,2,none⟩=some (.pointer (some ⟨p.lb,0,none⟩))/\wb.cell? ⟨mb,3,none⟩=some (.pointer (some ⟨p.db,0,none⟩)):=⟨Jg.cells.2.2.1,Jg.cells.2.2.2⟩))
     all_goals
      go_wp2;go_meet;case rel=>exact⟨rfl,rfl,h_ Jg,h_ (((Fr.refl (Z16 p eb) w3).drew.trans Um).trans G9)⟩
    case rest=>
     obtain⟨rfl,rfl,Jh,Ji⟩:=hcut;have uo:=EC.o.row Ji.o qC.o;have oa:=rnew HP.o uh aJ.o aJ.o.size Ji.o;have qD:=h_ uo;have Jj:=h_ oa;clear uo oa Ji qC aJ EC il wH e2 e3;cases au:badL n o L D with
     |true=>
      have rA:R=none:=by
       have:=x8.o;rw[au,Vaf rfl] at this;exact this.symm
      subst rA
      have hcs:L<0\/(¬L<0/\(271<L\/(¬271<L/\((n:Int)-(ol:Int)<L+2\/(¬(n:Int)-(ol:Int)<L+2/\(D<0\/(¬D<0/\(ol:Int)<=D))))))):=by
       unfold badL at au;rw[nC.o] at au;simp only[Bool.or_eq_true,Vas] at au;omega
      have Jk:ol<=4096:=(by have:=ew.o;have:=nC.o;omega);clear au x8 yu rB ew qD Jh;have he:bs ([]:List UInt8)=⟨#[]⟩:=rfl;rcases hcs with h1|⟨h1,h2|⟨h2,h3|⟨h3,h4|⟨h4,h5⟩⟩⟩⟩
      all_goals
       go_wp2;go_returns;exact⟨rfl,Jj.o⟩
     |false=>
      have hcs:0<=L/\L<=271/\L+2<=(n:Int)-(ol:Int)/\0<=D/\D<(ol:Int):=by
       unfold badL at au;rw[nC.o] at au;simp only[Bool.or_eq_false_iff,Vbp] at au;omega
      have qE:=x8.o;rw[au,Vad (by decide)] at qE;obtain⟨a,rfl⟩:∃a:Nat,L=a:=⟨L.toNat,by omega⟩;obtain⟨b,rfl⟩:∃a:Nat,D=a:=⟨D.toNat,by omega⟩;rw[Vav,Vav] at qE;obtain⟨h1,h2,h3,h4,h5⟩:=hcs;have L7:¬(a:Int)<0:=(by omega);have Un:¬(271:Int)<(a:Int):=(by omega);have Uo:¬(n:Int)-(ol:Int)<(a:Int)+2:=(by omega);have Up:¬(b:Int)<0:=(by omega);have Uq:¬(ol:Int)<=(b:Int):=(by omega);have WJ:ol+a+2<=n:=(by omega);have WK:b<ol:=(by omega);have mM:((a+2:Nat):Int)=(a:Int)+2:=(by omega);obtain⟨N2,rH⟩:∃x,a+2=x:=⟨_,rfl⟩;have Ur:(a:Int)+2=(N2:Int):=(by omega);rw[rH] at qE;have Jl:=h_ qE;have eF:Hid (Qa (b+1) (N2-0) o=Qa (b+1) N2 o):=h_ (by rw[Nat.sub_zero]);have Jk:ol<=4096:=(by have:=ew.o;have:=nC.o;omega);have Us:N2<=4096:=(by omega);have Ut:n<=ol+f1+1:=(by have:=rB.o;have:=nC.o;omega);have WL:ol+N2<=n:=(by omega);clear au x8 qE h1 h2 h3 h4 h5 mM rB ew;go_wp2;clear L7 Un Uo Up Uq;go_loopw [8,65] (λs8 x9 wy=>∃(j:Nat) (o':List UInt8) (ov:Value),j<=N2/\x9=.int .i64 (j:Int)/\s8=ov/\Hid (o'.length=ol+j)/\Hid (Qa (b+1) (N2-j) o'=Qa (b+1) N2 o)/\Hid (wy.ownsRow w.heap.size 5 1 ov o'.length (o'.map bv))/\Hid (RdA wy p mb eb m3 d3)/\Hid (Below w.heap.size w wy)) (λ_ x9 _=>(N2-intOf x9).toNat);case atStart=>exact⟨0,o,_,Vat _,rfl,rfl,h_ (by rw[Vb3];exact nC.o),eF,h_ (by rw[nC.o];exact qD.o),Jh,Jj⟩
      case round=>
       clear eF qD Jh Jj;obtain⟨j,o',ov,hj,rfl,rfl,jl,u9,aX,hW,hb⟩:=hrel;obtain⟨lj,oz⟩:∃x,o'.length=x:=⟨_,rfl⟩;have Cg:lj=ol+j:=(by rw[<-oz];exact jl.o);obtain⟨g,bp,rfl,fN⟩:=QT aX.o (by rw[oz];omega);have cT:=aX.o;rw[oz] at cT⊢;by_cases cN:j<N2
       ·obtain⟨r,hr⟩:∃r,N2-j=r+1:=⟨N2-j-1,by omega⟩;have ky:=u9.o;rw[hr,Z9A,oz] at ky;obtain⟨ix,Ol⟩:∃x,lj-(b+1)=x:=⟨_,rfl⟩;rw[Ol] at ky;obtain⟨c,hc⟩:∃x,o'.getD ix 0=x:=⟨_,rfl⟩;rw[hc] at ky;have Ch:ix<lj:=(by omega)
        have Om:(o'.map bv)[ix]? =some (.int .u8 (c.toNat:Int)):=by
         rw[Vbb,Van (by rw[oz];exact Ch),<-hc];simp[List.getD,bv,oz,Ch]
        obtain⟨cc,_⟩:=QS cT ix _ Om;have Uu:(lj:Int)-(b:Int)-1=(ix:Int):=(by omega);have Uv:(ix:Int)<(lj:Int):=(by omega);have Uw:(0:Int)<=(ix:Int):=(by omega);have Jm:(j:Int)<(N2:Int):=(by omega);have Ux:lj<=10000:=(by omega);obtain⟨v',w5,On,eh,aH,dO⟩:=Yq (P:=Tryz.prog) 115 5 _ _ Tryz.underlying115 Zha rfl cT hb.o hb.o.size (.int .u8 (c.toNat:Int)) rfl (by unfold maxLen;omega) (by omega);rw[Zd8] at eh;have cC:lj+1=(o'++[c]).length:=(by rw[Vab,Vbd,oz]);rw[cC] at eh;have qx:=h_ (hW.o.keep dO);have qB:=h_ eh;have bE:=h_ aH;have aq:=h_ On;have Jn:Hid ((o'++[c]).length=ol+(j+1)):=h_ (by rw[<-cC];omega);have Jo:Hid (Qa (b+1) (N2-(j+1)) (o'++[c])=Qa (b+1) N2 o):=h_ (by rw[show N2-(j+1)=r by omega];exact ky);obtain⟨A5,M5,aY,rfl⟩:=Zd eh;generalize (c.toNat:Int)=C at*;clear jl u9 aX hW hb cT hr ky Ol hc Om On eh aH dO cC oz Cg fN;go_wp2_with (at_builtin;refine Z3 (by with_reducible rfl) rfl _ _ _ rfl _ _ (by rfl) (by rfl) aq.o ?_);refine⟨⟨j+1,_,_,cN,by go_num,rfl,Jn,Jo,qB,qx,bE⟩,?_⟩;simp[intOf]<;>omega
       ·have iB:j=N2:=(by omega);subst iB;have ky:=u9.o;rw[Va7] at ky;have Ci:o'=Qa (b+1) j o:=ky;have Jm:¬(j:Int)<(j:Int):=(by omega);have Jp:Hid (rdP f1 n o' m3 d3=R):=h_ (by rw[Ci];exact Jl.o);have Jq:Hid (n<=o'.length+f1):=h_ (by rw[oz];omega);have lW:Hid (o'.length<=n):=h_ (by rw[oz];omega);have Jd:Hid (n-lj<n-ol):=h_ (by omega);have Cj:Hid (wr.ownsRow w.heap.size 5 1 (.slice (some ⟨g,0,none⟩) lj bp) o'.length (o'.map bv)):=h_ (by rw[oz];exact cT);clear jl u9 ky Ci oz Cg fN cT;go_wp2;refine⟨⟨f1,o',m3,d3,_,rfl,hW,yu,Jp,Jq,lW,Cj,hb⟩,?_⟩;exact Jd.o
  ·have Uy:o.length=n:=(by have:=ew.o;omega);have Uz:R=some o:=(by rw[<-yx.o];exact ZiV ab);subst Uz;have iK:¬(ol:Int)<(n:Int):=(by omega);have eD:=Z7d (P:=Tryz.prog) 115 9 5 Tryz.underlying115 Tryz.underlying5 Tryz.underlying9 aX.o;rw[fS] at eD⊢;have Ck:optB (some o)=.tuple #[.string (bs o),.bool true]:=rfl;have Jr:=h_ Ck;generalize bs o=OS at*;clear hW mB yx rB ew aX Ck Uy ab;go_wp2;go_returns;rw[Jr.o];exact⟨rfl,hb.o⟩
end Go.Proofs.YtchokmkfobandaaGreatDoor
namespace Wv.Lz
open Wv.Rc
theorem ZiW:∀(f n:Nat) (o:List UInt8) (m:Ms) (d:De) (s:List UInt8),o.length<=n->rdP f n o m d=some s->s.length<=n:=by
 intro f;induction f with
 |zero=>intro n o m d s h hs;injection hs with hs;rw[<-hs];exact h
 |succ f ih=>
  intro n o m d s h hs;rw[rdP] at hs;split at hs
  ·split at hs
   ·exact ih n _ _ _ s (by rw[Vab,Vbd];omega) hs
   ·split at hs
    ·cases hs
    ·rename_i hb;refine ih n _ _ _ s ?_ hs
     have key:∀(d k:Nat) (o:List UInt8),(Qa d k o).length=o.length+k:=by
      intro d k;induction k with
      |zero=>intro o;rfl
      |succ k ih=>intro o;show(Qa d k (o++_)).length=_;rw[ih,Vab,Vbd];omega
     rw[key];unfold badL at hb;simp only[Bool.or_eq_true,Vas,not_or] at hb;omega
  ·injection hs with hs;rw[<-hs];exact h
end Wv.Lz
namespace Go.Proofs.YtchokmkfobandaaGreatDoor
open Go.RowKit Go.Proofs Wv Wv.Vi Wv.Rc Wv.Mo Wv.Ru Wv.Lz
theorem Z88 (a b:List UInt8):(((bs a).toList !=(bs b).toList)= !decide (a=b))/\(((bs a).toList==(bs b).toList)=decide (a=b)):=by
 have h2:((bs a).toList==(bs b).toList)=decide (a=b):=by
  rw[Vbl,beq_iff_eq,Vas,ByteArray.toList_eq,ByteArray.toList_eq];exact Iff.rfl
 exact⟨by rw[bne,h2],h2⟩
def lzV (x:List UInt8×Nat):Value:=.tuple #[.string (bs x.1),.int .i64 (x.2:Int)]
theorem Z0W (data:List UInt8) (hd:data.length<=1000000000) (most:Int) (w:World):
  Calls Tryz.prog 139 #[.string (bs data),.int .i64 most] w λx w'=>x=.returned (lzV (lzD data most))/\Below w.heap.size w w':=by
 have Hv:=h_ (ZN (bs data) w);have ad:(bs data).size<=1099511627776:=(by rw[Z0];omega);have Hn:=h_ (λ(W:World) (b:Nat) (h:RV W b (bs data) 0)=>Zi h ad 4096);have he:bs ([]:List UInt8)=⟨#[]⟩:=rfl
 have hD:lzD data most=match rnum data 4096 with
  |none=>([],12)
  |some (n,r)=>if most<(n:Int) then([],2) else match lzR r n with
   |none=>([],12)
   |some s=>if lzE s=some data then(s,0) else([],12):=rfl
 obtain⟨RD,xa⟩:∃R,lzD data most=R:=⟨_,rfl⟩;rw[xa] at hD⊢;cases hr:rnum data 4096 with
 |none=>
  rw[hr] at hD;simp only at hD;subst hD;obtain⟨e,dU,cO⟩:=Z4U hr;rw[show((4096:Nat):Int)=4096 from rfl] at cO;rw[cO] at Hn;have az:((e:Int) !=0)=true:=(by rw[Va0];omega);have qF:lzV ([],12)=.tuple #[.string ⟨#[]⟩,.int .i64 12]:=rfl;rw[qF];generalize bs data=S at*;clear hr xa he cO hd qF;go_enter Tryz.func139,Tryz.ntmps139;go_wp2_with fail;refine(Hv.o).mono ?_;rintro x w1 ⟨rfl,h1,a7⟩;go_wp2_with fail;refine(Hn.o _ _ h1).mono ?_;rintro x w2 ⟨rfl,h2,ai⟩;have gZ:=h_ (Za h2);have a8:=ZI a7 UZz ai;go_wp2_with fail;refine(gZ.o).mono ?_;rintro x w3 ⟨rfl,rfl⟩;go_wp2;go_returns;exact⟨rfl,a8⟩
 |some q=>
  obtain⟨n,r⟩:=q;rw[hr] at hD;simp only at hD;obtain⟨k1,k2,k3⟩:=Z0D hr;rw[show((4096:Nat):Int)=4096 from rfl] at k1;rw[k1] at Hn;simp only at Hn;by_cases n6:most<(n:Int)
  ·rw[Vaf n6] at hD;subst hD;have qF:lzV ([],2)=.tuple #[.string ⟨#[]⟩,.int .i64 2]:=rfl;rw[qF];generalize bs data=S at*;generalize bs r=RS at*;clear hr xa k1 hd qF;go_enter Tryz.func139,Tryz.ntmps139;go_wp2_with fail;refine(Hv.o).mono ?_;rintro x w1 ⟨rfl,h1,a7⟩;go_wp2_with fail;refine(Hn.o _ _ h1).mono ?_;rintro x w2 ⟨rfl,h2,ai⟩;have gZ:=h_ (Za h2);have a8:=ZI a7 UZz ai;go_wp2_with fail;refine(gZ.o).mono ?_;rintro x w3 ⟨rfl,rfl⟩;go_wp2;go_returns;exact⟨rfl,a8⟩
  ·rw[Vad n6] at hD;have rO:(bs r).size=r.length:=Z0 r
   have ay:ZC (bs r) 0 (r.length:Int)=(bs r,bs [],0):=by
    rw[Z1M UZz,Vbx,Vcm]
   have il:=h_ (λ(W:World) (b:Nat) (h:RV W b (bs r) 0)=>Zt h (by rw[rO];omega));have yD:=h_ (λ(W:World) (b:Nat) (h:RV W b (bs r) 0)=>Zu h (by rw[rO];omega) (r.length:Int));rw[ay] at yD;rw[rO] at il;simp only at yD;have lO:=h_ (λW=>Z9B r n k2 W);have dc:r.length<=1000000000:=(by omega);generalize jc:bs r=RS at*;cases hR:lzR r n with
   |none=>
    rw[hR] at hD lO;simp only at hD;subst hD;have qF:lzV ([],12)=.tuple #[.string ⟨#[]⟩,.int .i64 12]:=rfl;have fX:optB none=.tuple #[.string ⟨#[]⟩,.bool false]:=rfl;rw[fX] at lO;rw[qF];generalize bs data=S at*;generalize bs ([]:List UInt8)=E0 at*;clear hr xa k1 hd qF rO ay jc hR fX;go_enter Tryz.func139,Tryz.ntmps139;go_wp2_with fail;refine(Hv.o).mono ?_;rintro x w1 ⟨rfl,h1,a7⟩;go_wp2_with fail;refine(Hn.o _ _ h1).mono ?_;rintro x w2 ⟨rfl,h2,ai⟩;have gZ:=h_ (Za h2);have a8:=ZI a7 UZz ai;go_wp2_with fail;refine(gZ.o).mono ?_;rintro x w3 ⟨rfl,rfl⟩;go_wp2_with fail;refine(il.o _ _ h2).mono ?_;rintro x w3 ⟨rfl,rfl⟩;go_wp2_with fail;refine(yD.o _ _ h2).mono ?_;rintro x w3 ⟨rfl,h3,aO⟩;have af:=ZI a8 UZz aO;clear h1 h2 h3 ai aO a7 a8;go_wp2_with fail;refine(lO.o _).mono ?_;rintro x w4 ⟨rfl,ax⟩;have hb:=h_ (af.trans (ax.mono af.size));clear af ax;go_wp2;go_returns;exact⟨rfl,hb.o⟩
   |some s=>
    rw[hR] at hD lO;simp only at hD;have fX:optB (some s)=.tuple #[.string (bs s),.bool true]:=rfl;rw[fX] at lO
    have hsl:s.length<=1000000000:=by
     have:=ZiW n n [] m0 (d0 r) s (Vat _) hR;omega
    have ic:=h_ (λW=>Z0V s hsl W);cases hE:lzE s with
    |none=>
     rw[hE,Vad (by simp)] at hD;subst hD;have dE:optV none=.tuple #[.string ⟨#[]⟩,.int .i64 9]:=rfl;rw[hE,dE] at ic;have qF:lzV ([],12)=.tuple #[.string ⟨#[]⟩,.int .i64 12]:=rfl;rw[qF];generalize bs data=S at*;generalize bs s=SS at*;generalize bs ([]:List UInt8)=E0 at*;clear hr xa k1 hd qF rO ay jc hR fX hE dE hsl;go_enter Tryz.func139,Tryz.ntmps139;go_wp2_with fail;refine(Hv.o).mono ?_;rintro x w1 ⟨rfl,h1,a7⟩;go_wp2_with fail;refine(Hn.o _ _ h1).mono ?_;rintro x w2 ⟨rfl,h2,ai⟩;have gZ:=h_ (Za h2);have a8:=ZI a7 UZz ai;go_wp2_with fail;refine(gZ.o).mono ?_;rintro x w3 ⟨rfl,rfl⟩;go_wp2_with fail;refine(il.o _ _ h2).mono ?_;rintro x w3 ⟨rfl,rfl⟩;go_wp2_with fail;refine(yD.o _ _ h2).mono ?_;rintro x w3 ⟨rfl,h3,aO⟩;have af:=ZI a8 UZz aO;clear h1 h2 h3 ai aO a7 a8;go_wp2_with fail;refine(lO.o _).mono ?_;rintro x w4 ⟨rfl,ax⟩;have hb:=af.trans (ax.mono af.size);clear af ax;go_wp2_with fail;refine(ic.o _).mono ?_;rintro x w5 ⟨rfl,aH⟩;have aS:=h_ (hb.trans (aH.mono hb.size));clear hb aH;go_wp2;go_returns;exact⟨rfl,aS.o⟩
    |some t=>
     have dE:optV (some t)=.tuple #[.string (bs t),.int .i64 0]:=rfl;rw[hE,dE] at ic;rw[hE] at hD;obtain⟨q1,q2⟩:=Z88 t data
     have xd:lzV RD=if t=data then .tuple #[.string (bs s),.int .i64 0] else .tuple #[.string ⟨#[]⟩,.int .i64 12]:=by
      rw[hD];by_cases h:t=data
      ·rw[Vaf (by rw[h]),Vaf h];rfl
      ·rw[Vad (by simpa using h),Vad h];rfl
     rw[xd];by_cases yE:t=data
     ·rw[Vaf yE];rw[Vao yE] at q1 q2;generalize bs data=S at*;generalize bs s=SS at*;generalize bs t=TT at*;generalize bs ([]:List UInt8)=E0 at*;clear hr xa k1 hd rO ay jc hR fX hE dE hsl xd hD yE;go_enter Tryz.func139,Tryz.ntmps139;go_wp2_with fail;refine(Hv.o).mono ?_;rintro x w1 ⟨rfl,h1,a7⟩;go_wp2_with fail;refine(Hn.o _ _ h1).mono ?_;rintro x w2 ⟨rfl,h2,ai⟩;have gZ:=h_ (Za h2);have a8:=ZI a7 UZz ai;go_wp2_with fail;refine(gZ.o).mono ?_;rintro x w3 ⟨rfl,rfl⟩;go_wp2_with fail;refine(il.o _ _ h2).mono ?_;rintro x w3 ⟨rfl,rfl⟩;go_wp2_with fail;refine(yD.o _ _ h2).mono ?_;rintro x w3 ⟨rfl,h3,aO⟩;have af:=ZI a8 UZz aO;clear h1 h2 h3 ai aO a7 a8;go_wp2_with fail;refine(lO.o _).mono ?_;rintro x w4 ⟨rfl,ax⟩;have hb:=af.trans (ax.mono af.size);clear af ax;go_wp2_with fail;refine(ic.o _).mono ?_;rintro x w5 ⟨rfl,aH⟩;have aS:=h_ (hb.trans (aH.mono hb.size));clear hb aH;go_wp2;go_returns;exact⟨rfl,aS.o⟩
     ·rw[Vad yE];rw[Vai yE] at q1 q2;generalize bs data=S at*;generalize bs s=SS at*;generalize bs t=TT at*;generalize bs ([]:List UInt8)=E0 at*;clear hr xa k1 hd rO ay jc hR fX hE dE hsl xd hD yE;go_enter Tryz.func139,Tryz.ntmps139;go_wp2_with fail;refine(Hv.o).mono ?_;rintro x w1 ⟨rfl,h1,a7⟩;go_wp2_with fail;refine(Hn.o _ _ h1).mono ?_;rintro x w2 ⟨rfl,h2,ai⟩;have gZ:=h_ (Za h2);have a8:=ZI a7 UZz ai;go_wp2_with fail;refine(gZ.o).mono ?_;rintro x w3 ⟨rfl,rfl⟩;go_wp2_with fail;refine(il.o _ _ h2).mono ?_;rintro x w3 ⟨rfl,rfl⟩;go_wp2_with fail;refine(yD.o _ _ h2).mono ?_;rintro x w3 ⟨rfl,h3,aO⟩;have af:=ZI a8 UZz aO;clear h1 h2 h3 ai aO a7 a8;go_wp2_with fail;refine(lO.o _).mono ?_;rintro x w4 ⟨rfl,ax⟩;have hb:=af.trans (ax.mono af.size);clear af ax;go_wp2_with fail;refine(ic.o _).mono ?_;rintro x w5 ⟨rfl,aH⟩;have aS:=h_ (hb.trans (aH.mono hb.size));clear hb aH;go_wp2;go_returns;exact⟨rfl,aS.o⟩
end Go.Proofs.YtchokmkfobandaaGreatDoor
