import Derived.Test.YtchokmkfobandaaGreatDoorM32
set_option linter.unusedVariables false
set_option linter.unusedSimpArgs false
set_option maxRecDepth 100000
set_option maxHeartbeats 8000000
namespace Go.Proofs.YtchokmkfobandaaGreatDoor
open Go.RowKit Go.Proofs Wv Wv.Vi Wv.Rc Wv.Mo Wv.Lz
structure RdA (w:World) (p:Pl) (mb eb:Nat) (m:Ms) (d:De):Prop where
 ms:MsA w p m
 de:DAt w eb d
 mc:Bk w mb 178 (setC p)
def Z1a (p:Pl) (eb:Nat):Nat->Prop:=λk=>k=p.kg\/k=p.bb\/k=p.bg\/k=p.lg\/k=p.dg\/k=eb
theorem Zd4 {w:World} {p:Pl} {m:Ms} (h:MsA w p m) {eb b:Nat} {d:De} (he:DAt w eb d) {t:TypeId} {cs:Array Value} (hb:Bk w b t cs) (h1:t≠292) (h3:t≠3) (h4:t≠234):¬Z1a p eb b:=λhs=>by
 rcases hs with hs|hs|hs|hs|hs|hs
 ·exact Bk.apart hb h.kn h3 hs
 ·exact Bk.apart hb h.bt.st h4 hs
 ·exact Bk.apart hb h.bt.nd h3 hs
 ·exact Bk.apart hb h.ln.2 h3 hs
 ·exact Bk.apart hb h.dn.2 h3 hs
 ·exact Bk.apart hb he h1 hs
theorem RdA.next {w w':World} {p:Pl} {mb eb:Nat} {m m':Ms} {d d':De} (h:RdA w p mb eb m d) (hf:Fr (Z1a p eb) w w') (hm:MsA w' p m') (he:DAt w' eb d'):RdA w' p mb eb m' d':=
 ⟨hm,he,h.mc.fr hf (Zd4 h.ms h.de h.mc (by decide) (by decide) (by decide))⟩
theorem RdA.below {w w':World} {p:Pl} {mb eb:Nat} {m:Ms} {d:De} (h:RdA w p mb eb m d) (hb:Below w.heap.size w w'):RdA w' p mb eb m d:=⟨h.ms.below hb,h.de.below hb,h.mc.below hb h.mc.lt⟩
theorem RdA.drew {w:World} {p:Pl} {mb eb:Nat} {m:Ms} {d:De} (h:RdA w p mb eb m d):RdA w.drew p mb eb m d:=⟨h.ms.drew,h.de.drew,h.mc⟩
theorem RdA.keep {w w':World} {p:Pl} {mb eb:Nat} {m:Ms} {d:De} (h:RdA w p mb eb m d) (hk:∀xb T cs,Bk w xb T cs->5≠T->Bk w' xb T cs):RdA w' p mb eb m d:=
 ⟨⟨hk _ _ _ h.ms.ks (by decide),hk _ _ _ h.ms.kn (by decide),⟨hk _ _ _ h.ms.bt.st (by decide),hk _ _ _ h.ms.bt.nd (by decide)⟩,⟨hk _ _ _ h.ms.ln.1 (by decide),hk _ _ _ h.ms.ln.2 (by decide)⟩,⟨hk _ _ _ h.ms.dn.1 (by decide),hk _ _ _ h.ms.dn.2 (by decide)⟩,h.ms.a1,h.ms.a2,h.ms.a3,h.ms.a4,h.ms.a5,h.ms.a6⟩,
  hk _ _ _ h.de (by decide),hk _ _ _ h.mc (by decide)⟩
theorem RdA.row {w w':World} {p:Pl} {mb eb:Nat} {m:Ms} {d:De} (h:RdA w p mb eb m d) (hf:Fr (Z1a p eb) w w') {B n:Nat} {v:Value} {xs:List Value} (hr:w.ownsRow B 5 1 v n xs):w'.ownsRow B 5 1 v n xs:=
 Zl hr hf (λg hg hs=>by
  rcases hs with hs|hs|hs|hs|hs|hs
  ·exact Z3 hr h.ms.kn (by decide) (hs▸hg)
  ·exact Z3 hr h.ms.bt.st (by decide) (hs▸hg)
  ·exact Z3 hr h.ms.bt.nd (by decide) (hs▸hg)
  ·exact Z3 hr h.ms.ln.2 (by decide) (hs▸hg)
  ·exact Z3 hr h.ms.dn.2 (by decide) (hs▸hg)
  ·exact Z3 hr h.de (by decide) (hs▸hg))
theorem rnew {B:Nat} {p:Pl} {eb:Nat} {w wr w':World} (hp:PlB B p) (he:B<=eb) (hb:Below B w wr) (hB:B<=wr.heap.size) (hf:Fr (Z1a p eb) wr w'):Below B w w':=
 hb.trans (hf.toBelow' hB (λk hk hs=>by
  rcases hs with hs|hs|hs|hs|hs|hs
  ·have:=hp.kg;omega
  ·have:=hp.bb;omega
  ·have:=hp.bg;omega
  ·have:=hp.lg;omega
  ·have:=hp.dg;omega
  ·omega))
theorem Z6P {p:Pl} {eb g:Nat} (hg:g=p.kg\/g=p.lg\/g=p.dg):∀k,Z2t g eb k->Z1a p eb k:=λk h=>by
 rcases h with h|h
 ·rcases hg with e|e|e
  ·exact .inl (h.trans e)
  ·exact .inr (.inr (.inr (.inl (h.trans e))))
  ·exact .inr (.inr (.inr (.inr (.inl (h.trans e)))))
 ·exact .inr (.inr (.inr (.inr (.inr h))))
theorem Zhd (n:Nat) (t:List Nat) (d:De) (h:t.length=2 ^ n):Xu n 0 1 t d=tdec n 1 t d:=by
 obtain⟨a,b⟩:=Z7O n 0 1 (2 ^ n) (t:=t) (d:=d) (by omega) (by omega);have e1:subL 0 (2 ^ n) t=t:=(by unfold subL;rw[Vcn,<-h,Vbx]);rw[e1] at a b;rw[a];unfold putL;rw[Vbw,Vbz,Vbo,b,<-h,Vcl,Va3]
theorem ZiW {m:Ms} {d:De} (h:MOk m) (hv:DV 0 d):MOk (kdec m d).2.1/\DV 0 (kdec m d).2.2:=by
 obtain⟨a,b,c,_,_⟩:=Z4C 1 1 m.kind d h.k.1 (by rw[h.k.2];decide) hv;exact⟨⟨⟨a,b.trans h.k.2⟩,h.bl,h.b,h.l,h.d⟩,c⟩
theorem ZiX {m:Ms} {d:De} (h:MOk m) (hv:DV 0 d):MOk (bdec m d).2.1/\DV 0 (bdec m d).2.2:=by
 obtain⟨t1,t2⟩:=Z1g h;obtain⟨a,b,c,_,_⟩:=Z4C 8 1 (Z0A m) d t1 (by rw[t2];decide) hv;exact⟨⟨h.k,by show(List.set _ _ _).length=8;rw[Vbh];exact h.bl,Z7o h ⟨a,b.trans t2⟩ _,h.l,h.d⟩,c⟩
theorem ZiY {m:Ms} {d:De} (h:MOk m) (hv:DV 0 d):MOk (ldec m d).2.1/\DV 0 (ldec m d).2.2:=by
 obtain⟨a,b⟩:=Zbq h.l hv;exact⟨⟨h.k,h.bl,h.b,a,h.d⟩,b⟩
theorem ZiZ {m:Ms} {d:De} (h:MOk m) (hv:DV 0 d):MOk (ddec m d).2.1/\DV 0 (ddec m d).2.2:=by
 obtain⟨a,b⟩:=Zbq h.d hv;exact⟨⟨h.k,h.bl,h.b,h.l,a⟩,b⟩
section
variable {w:World} {p:Pl} {mb eb:Nat} {m:Ms} {d:De}
theorem Zd5 (h:RdA w p mb eb m d) (hm:MOk m) (hv:DV 0 d):
  Calls Tryz.prog 222 #[.pointer (some ⟨p.kb,0,none⟩),.pointer (some ⟨eb,0,none⟩)] w λr w'=>r=.returned (.int .i64 ((kdec m d).1:Nat))/\RdA w' p mb eb (kdec m d).2.1 (kdec m d).2.2/\Fr (Z1a p eb) w w':=by
 refine(Z55 h.ms.kind (by omega) (by rw[hm.k.2];decide) (by rw[hm.k.2];decide) hm.k.1 h.de (Bk.apart h.ms.ks h.de (by decide)) hv).mono ?_;rintro r w1 ⟨rfl,ht,hd,hf⟩;rw[Zhd 1 _ _ hm.k.2] at ht hd;rw[Zhd 1 _ _ hm.k.2];have ai:=hf.mono (Z6P (p:=p) (.inl rfl));exact⟨rfl,h.next ai (h.ms.setK hf (λk hk=>hk) (h.ms.offD h.de) ht.nd) hd,ai⟩
theorem Zd6 (h:RdA w p mb eb m d) (hm:MOk m) (hv:DV 0 d):
  Calls Tryz.prog 223 #[.pointer (some ⟨p.bb,0,none⟩),.pointer (some ⟨eb,0,none⟩)] w λr w'=>r=.returned (.int .u8 (((bdec m d).1.toNat:Nat):Int))/\RdA w' p mb eb (bdec m d).2.1 (bdec m d).2.2/\Fr (Z1a p eb) w w':=by
 refine(Zcr h.ms.bt hm.b hm.bl h.de hv).mono ?_;rintro r w1 ⟨rfl,ht,hd,hf⟩
 have ai:Fr (Z1a p eb) w w1:=hf.mono (λk hk=>by
  rcases hk with h|h|h
  ·exact .inr (.inl h)
  ·exact .inr (.inr (.inl h))
  ·exact .inr (.inr (.inr (.inr (.inr h)))))
 exact⟨rfl,h.next ai (h.ms.setB hf (λk hk=>hk) (h.ms.offD h.de) ht) hd,ai⟩
theorem Zga (h:RdA w p mb eb m d) (hm:MOk m) (hv:DV 0 d):
  Calls Tryz.prog 224 #[.pointer (some ⟨p.lb,0,none⟩),.pointer (some ⟨eb,0,none⟩)] w λr w'=>r=.returned (.int .i64 (ldec m d).1)/\RdA w' p mb eb (ldec m d).2.1 (ldec m d).2.2/\Fr (Z1a p eb) w w':=by
 refine(Z3N h.ms.ln hm.l h.de hv).mono ?_;rintro r w1 ⟨rfl,ht,hd,hf⟩;have ai:=hf.mono (Z6P (p:=p) (.inr (.inl rfl)));exact⟨rfl,h.next ai (h.ms.setL hf (λk hk=>hk) (h.ms.offD h.de) ht) hd,ai⟩
theorem Zd7 (h:RdA w p mb eb m d) (hm:MOk m) (hv:DV 0 d):
  Calls Tryz.prog 224 #[.pointer (some ⟨p.db,0,none⟩),.pointer (some ⟨eb,0,none⟩)] w λr w'=>r=.returned (.int .i64 (ddec m d).1)/\RdA w' p mb eb (ddec m d).2.1 (ddec m d).2.2/\Fr (Z1a p eb) w w':=by
 refine(Z3N h.ms.dn hm.d h.de hv).mono ?_;rintro r w1 ⟨rfl,ht,hd,hf⟩;have ai:=hf.mono (Z6P (p:=p) (.inr (.inr rfl)));exact⟨rfl,h.next ai (h.ms.setD hf (λk hk=>hk) (h.ms.offD h.de) ht) hd,ai⟩
theorem RdA.cells (h:RdA w p mb eb m d):w.cell? ⟨mb,0,none⟩=some (.pointer (some ⟨p.kb,0,none⟩))/\w.cell? ⟨mb,1,none⟩=some (.pointer (some ⟨p.bb,0,none⟩))/\w.cell? ⟨mb,2,none⟩=some (.pointer (some ⟨p.lb,0,none⟩))/\w.cell? ⟨mb,3,none⟩=some (.pointer (some ⟨p.db,0,none⟩)):=
 ⟨h.mc.cell 0,h.mc.cell 1,h.mc.cell 2,h.mc.cell 3⟩
end
theorem Z9A (d n:Nat) (o:List UInt8):Qc d (n+1) o=Qc d n (o++[o.getD (o.length-d) 0]):=rfl
theorem Zd8 (o:List UInt8) (c:UInt8):o.map bv++[.int .u8 (c.toNat:Int)]=(o++[c]).map bv:=by simp[bv]
def optB (o:Option (List UInt8)):Value:=match o with
 |some t=>.tuple #[.string (bs t),.bool true]
 |none=>.tuple #[.string (bs []),.bool false]
def slen (v:Value):Nat:=match v with
 |.slice _ n _=>n
 |_=>0
theorem Zj0 {f n:Nat} {o:List UInt8} {m:Ms} {d:De} (h:¬o.length<n):rdP f n o m d=some o:=by
 cases f with
 |zero=>rfl
 |succ f=>rw[rdP,Vad h]
theorem Zhe:(Tryz.prog.info? 5).map (λi=>(i.zero,i.size,i.bytes))=some (some (.int .u8 0),1,1):=by kernel_rfl
theorem Z9B (data:List UInt8) (n:Nat) (hn:n<=4096) (w:World):
  Calls Tryz.prog 182 #[.string (bs data),.int .i64 (n:Int)] w λx w'=>x=.returned (optB (lzR data n))/\Below w.heap.size w w':=by
 have Hs:=h_ (λW=>Z36 W);unfold setC at Hs;have He:=h_ (λW=>Z7f data W);have od:Hid (rdP n n [] m0 (d0 data)=lzR data n):=h_ rfl;have qZ:=d0_v data;obtain⟨R,hR⟩:∃R,lzR data n=R:=⟨_,rfl⟩;rw[hR] at od⊢;generalize d0 data=D0 at*;generalize bs data=S at*;clear hR;go_enter Tryz.func182,Tryz.ntmps182;go_wp2_with fail;refine(Hs.o _).mono ?_;rintro x w1 ⟨p,rfl,dH,dG,a7⟩;go_wp2_with fail;refine(He.o _).mono ?_;rintro x w2 ⟨rfl,og,a8⟩;have s1:=a7.size;have s2:=a8.size
 have yF:RdA (w2.alloc (.cells (setC p) 178)) p w2.heap.size w1.heap.size m0 D0:=
  ⟨(dH.below a8).below ((Vae w2.heap.size w2).alloc UZz _),og.below ((Vae w2.heap.size w2).alloc UZz _),Bk.new _ _ _⟩
 have aB:=(a7.trans (a8.mono s1)).alloc (by omega) (.cells (setC p) 178);have qB:=h_ yF;have bj:=h_ aB;have HP:=h_ dG;have wR:w.heap.size<=w1.heap.size:=(by omega);have qE:Hid ((w2.alloc (.cells (setC p) 178)).ownsRow w.heap.size 5 1 (.slice none 0 0) ([]:List UInt8).length (([]:List UInt8).map bv)):=h_ Zk;have hcell:=yF.cells;unfold setC at qB bj qE hcell;clear yF aB dH dG a7 og a8 s1 s2 Hs He;go_wp2;generalize (w2.alloc (.cells #[.pointer (some ⟨p.kb,0,none⟩),.pointer (some ⟨p.bb,0,none⟩),.pointer (some ⟨p.lb,0,none⟩),.pointer (some ⟨p.db,0,none⟩)] 178))=W5 at*;generalize w2.heap.size=mb at*;generalize w1.heap.size=eb at*;clear hcell;go_loopw [8] (λs8 wx=>∃(f:Nat) (o:List UInt8) (m:Ms) (d:De) (ov:Value),s8=ov/\Hid (RdA wx p mb eb m d)/\Hid (MOk m/\DV 0 d)/\Hid (rdP f n o m d=R)/\Hid (n<=o.length+f)/\Hid (o.length<=n)/\Hid (wx.ownsRow w.heap.size 5 1 ov o.length (o.map bv))/\Hid (Below w.heap.size w wx)) (λs8 _=>n-slen s8);case atStart=>exact⟨n,[],m0,D0,_,rfl,qB,h_ ⟨ZaU,qZ⟩,od,h_ (by simp),h_ (Var _),qE,bj⟩
 case round=>
  clear qB bj qE od qZ;obtain⟨f,o,m,d,ov,rfl,hW,mF,yC,um,eC,bd,hb⟩:=hrel;obtain⟨A,cap,rfl,_⟩:=Zm bd.o;obtain⟨ol,fQ⟩:∃x,o.length=x:=⟨_,rfl⟩;by_cases ab:o.length<n
  ·obtain⟨f1,rfl⟩:∃g,f=g+1:=⟨f-1,by have:=um.o;omega⟩;have iL:=yC.o;rw[rdP,Vaf ab] at iL;obtain⟨kv1,kv2⟩:=ZiW mF.o.1 mF.o.2;have Hk:=h_ (Zd5 hW.o mF.o.1 mF.o.2);obtain⟨c0,c1,c2,c3⟩:=hW.o.cells;have gq:(ol:Int)<(n:Int):=(by omega);have nJ:=h_ fQ;have cV:=bd.o;rw[fQ] at cV⊢;have EB:=hW;obtain⟨kk,kE⟩:∃x,(kdec m d).1=x:=⟨_,rfl⟩;rw[kE] at iL Hk;generalize (kdec m d).2.1=m1 at*;generalize (kdec m d).2.2=d1 at*;clear kE hW yC ab fQ;by_cases hz:kk=0
   ·subst hz;rw[Vaf rfl] at iL;have z0:((0:Nat):Int)=0:=rfl;rw[z0] at Hk;obtain⟨Oc,Od⟩:=ZiX kv1 kv2;have Jd:=h_ (λ(W:World) (h:RdA W p mb eb m1 d1)=>Zd6 h kv1 kv2);obtain⟨c,hc⟩:∃x,(bdec m1 d1).1=x:=⟨_,rfl⟩;rw[hc] at iL Jd;generalize (bdec m1 d1).2.1=m2 at*;generalize (bdec m1 d1).2.2=d2 at*;have x7:=h_ iL;have gd:=h_ cV;have fa:=h_ (And.intro Oc Od);clear hc iL cV bd kv1 kv2 Oc Od c2 c3 mF;go_wp2_with fail;refine(Hk.o).mono ?_;rintro x w3 ⟨rfl,uo,aR⟩;have eM:=EB.o.row aR gd.o;have af:=rnew HP.o wR hb.o hb.o.size aR;obtain⟨e0,e1,e2,e3⟩:=uo.cells;clear c0 c1 e2 e3 aR Hk hb gd EB;go_wp2_with fail;refine(Jd.o _ uo).mono ?_;rintro x w4 ⟨rfl,BK,aG⟩;have uq:=uo.row aG eM;have au:=rnew HP.o wR af af.size aG;obtain⟨v',w5,hr,ep,aB,dT⟩:=Yr (P:=Tryz.prog) 115 5 _ _ Tryz.underlying115 Zhe rfl uq au au.size (.int .u8 (c.toNat:Int)) rfl (by unfold maxLen;have:=eC.o;have:=nJ.o;omega) (by have:=eC.o;have:=nJ.o;omega);rw[Zd8] at ep;have bW:ol+1=(o++[c]).length:=(by rw[Vab,Vbe,nJ.o]);rw[bW] at ep;have qB:=h_ (BK.keep dT);have qF:=h_ ep;have bj:=h_ aB;have ar:=h_ hr;have U8:Hid (n<=(o++[c]).length+f1):=h_ (by rw[<-bW];have:=um.o;have:=nJ.o;omega);have U9:Hid ((o++[c]).length<=n):=h_ (by rw[<-bW];omega)
    have Je:Hid (n-slen v'<n-ol):=h_ (by
     obtain⟨A',bw,e,_⟩:=Zm ep;rw[e];show n-(o++[c]).length<_;rw[<-bW];omega)
    obtain⟨A5,M5,bo,rfl⟩:=Zg ep;generalize (c.toNat:Int)=C at*;clear e0 e1 aG uo eM af BK uq au hr ep aB dT bW um eC Jd;go_wp2_with (at_builtin;refine Z4 (by with_reducible rfl) rfl _ _ _ rfl _ _ (by rfl) (by rfl) ar.o ?_);refine⟨⟨f1,_,m2,d2,_,rfl,qB,fa,x7,U8,U9,qF,bj⟩,?_⟩;exact Je.o
   ·rw[Vad hz] at iL;have dA:((kk:Int)==0)=false:=(by rw[Van];omega);obtain⟨Jf,Jg⟩:=ZiY kv1 kv2;have ig:=h_ (λ(W:World) (h:RdA W p mb eb m1 d1)=>Zga h kv1 kv2);obtain⟨L,hL⟩:∃x,(ldec m1 d1).1=x:=⟨_,rfl⟩;rw[hL] at iL ig;generalize (ldec m1 d1).2.1=m2 at*;generalize (ldec m1 d1).2.2=d2 at*;obtain⟨mj,Du⟩:=ZiZ Jf Jg;have wF:=h_ (λ(W:World) (h:RdA W p mb eb m2 d2)=>Zd7 h Jf Jg);obtain⟨D,hD⟩:∃x,(ddec m2 d2).1=x:=⟨_,rfl⟩;rw[hD] at iL wF;generalize (ddec m2 d2).2.1=m3 at*;generalize (ddec m2 d2).2.2=d3 at*;have x7:=h_ iL;have gd:=h_ cV;have yz:=h_ (And.intro mj Du);clear hL hD iL cV bd kv1 kv2 Jf Jg mj Du mF hz;go_wp2_with fail;refine(Hk.o).mono ?_;rintro x w3 ⟨rfl,uo,aR⟩;have eM:=EB.o.row aR gd.o;have af:=rnew HP.o wR hb.o hb.o.size aR;obtain⟨e0,e1,e2,e3⟩:=uo.cells;have qG:=h_ eM;have aA:=h_ af;have EC:=h_ uo;clear c0 c1 c2 c3 aR Hk hb gd EB eM af e0 e1 uo;go_wp2;go_cut [9,10] (λs9 lh wx=>s9=.int .i64 L/\lh=.int .i64 D/\Hid (RdA wx p mb eb m3 d3)/\Hid (Fr (Z1a p eb) w3 wx))
    case first=>
     have H1:w3.drew.cell? ⟨mb,2,none⟩=some (.pointer (some ⟨p.lb,0,none⟩))/\w3.drew.cell? ⟨mb,3,none⟩=some (.pointer (some ⟨p.db,0,none⟩)):=⟨e2,e3⟩;have Ua:RdA w3.drew p mb eb m1 d1:=EC.o.drew;clear x7 yz qG aA EC HP um eC
     go_region_held3 (λW=>W.cell? ⟨mb,2,none⟩=some (.pointer (some ⟨p.lb,0,none⟩))/\W.cell? ⟨mb,3,none⟩=some (.pointer (some ⟨p.db,0,none⟩))) (first|with_reducible assumption|with_reducible exact H1)
      (first
       |(go_at_call 224;with_reducible refine(ig.o _ (by with_reducible assumption)).mono ?_;rintro r wa ⟨rfl,Oe,Ub⟩;have Wg:wa.cell? ⟨mb,2,none⟩=some (.pointer (some ⟨p.lb,0,none⟩))/\wa.cell? ⟨mb,3,none⟩=some (.pointer (some ⟨p.db,0,none⟩)):=⟨Oe.cells.2.2.1,Oe.cells.2.2.2⟩)
       |(go_at_call 224;with_reducible refine(wF.o _ (by with_reducible assumption)).mono ?_;rintro r wb ⟨rfl,Jh,G9⟩;have Wh:wb.cell? ⟨mb,2,none⟩=some (.pointer (some ⟨p.lb,0,none⟩))/\wb.cell? ⟨mb,3,none⟩=some (.pointer (some ⟨p.db,0,none⟩)):=⟨Jh.cells.2.2.1,Jh.cells.2.2.2⟩))
     all_goals
      go_wp2;go_meet;case rel=>exact⟨rfl,rfl,h_ Jh,h_ (((Fr.refl (Z1a p eb) w3).drew.trans Ub).trans G9)⟩
    case rest=>
     obtain⟨rfl,rfl,Ji,Jj⟩:=hcut;have ur:=EC.o.row Jj.o qG.o;have oe:=rnew HP.o wR aA.o aA.o.size Jj.o;have qH:=h_ ur;have Jk:=h_ oe;clear ur oe Jj qG aA EC ig wF e2 e3;cases aH:badL n o L D with
     |true=>
      have rC:R=none:=by
       have:=x7.o;rw[aH,Vaf rfl] at this;exact this.symm
      subst rC
      have hcs:L<0\/(¬L<0/\(271<L\/(¬271<L/\((n:Int)-(ol:Int)<L+2\/(¬(n:Int)-(ol:Int)<L+2/\(D<0\/(¬D<0/\(ol:Int)<=D))))))):=by
       unfold badL at aH;rw[nJ.o] at aH;simp only[Bool.or_eq_true,Vaq] at aH;omega
      have Jl:ol<=4096:=(by have:=eC.o;have:=nJ.o;omega);clear aH x7 yz um eC qH Ji;have he:bs ([]:List UInt8)=⟨#[]⟩:=rfl;rcases hcs with h1|⟨h1,h2|⟨h2,h3|⟨h3,h4|⟨h4,h5⟩⟩⟩⟩
      all_goals
       go_wp2;go_returns;exact⟨rfl,Jk.o⟩
     |false=>
      have hcs:0<=L/\L<=271/\L+2<=(n:Int)-(ol:Int)/\0<=D/\D<(ol:Int):=by
       unfold badL at aH;rw[nJ.o] at aH;simp only[Bool.or_eq_false_iff,Vbq] at aH;omega
      have qJ:=x7.o;rw[aH,Vad (by decide)] at qJ;obtain⟨a,rfl⟩:∃a:Nat,L=a:=⟨L.toNat,by omega⟩;obtain⟨b,rfl⟩:∃a:Nat,D=a:=⟨D.toNat,by omega⟩;rw[Vav,Vav] at qJ;obtain⟨h1,h2,h3,h4,h5⟩:=hcs;have KY:¬(a:Int)<0:=(by omega);have Uc:¬(271:Int)<(a:Int):=(by omega);have Ud:¬(n:Int)-(ol:Int)<(a:Int)+2:=(by omega);have Ue:¬(b:Int)<0:=(by omega);have Uf:¬(ol:Int)<=(b:Int):=(by omega);have Wj:ol+a+2<=n:=(by omega);have Wk:b<ol:=(by omega);have mP:((a+2:Nat):Int)=(a:Int)+2:=(by omega);obtain⟨N2,rH⟩:∃x,a+2=x:=⟨_,rfl⟩;have Ug:(a:Int)+2=(N2:Int):=(by omega);rw[rH] at qJ;have Jm:=h_ qJ;have eI:Hid (Qc (b+1) (N2-0) o=Qc (b+1) N2 o):=h_ (by rw[Nat.sub_zero]);have Jl:ol<=4096:=(by have:=eC.o;have:=nJ.o;omega);have Uh:N2<=4096:=(by omega);have Ui:n<=ol+f1+1:=(by have:=um.o;have:=nJ.o;omega);have Wl:ol+N2<=n:=(by omega);clear aH x7 qJ h1 h2 h3 h4 h5 mP um eC;go_wp2;clear KY Uc Ud Ue Uf;go_loopw [8,65] (λs8 x8 wy=>∃(j:Nat) (o':List UInt8) (ov:Value),j<=N2/\x8=.int .i64 (j:Int)/\s8=ov/\Hid (o'.length=ol+j)/\Hid (Qc (b+1) (N2-j) o'=Qc (b+1) N2 o)/\Hid (wy.ownsRow w.heap.size 5 1 ov o'.length (o'.map bv))/\Hid (RdA wy p mb eb m3 d3)/\Hid (Below w.heap.size w wy)) (λ_ x8 _=>(N2-intOf x8).toNat);case atStart=>exact⟨0,o,_,Var _,rfl,rfl,h_ (by rw[Vb3];exact nJ.o),eI,h_ (by rw[nJ.o];exact qH.o),Ji,Jk⟩
      case round=>
       clear eI qH Ji Jk;obtain⟨j,o',ov,hj,rfl,rfl,jd,ub,bd,hW,hb⟩:=hrel;obtain⟨lj,oJ⟩:∃x,o'.length=x:=⟨_,rfl⟩;have Cp:lj=ol+j:=(by rw[<-oJ];exact jd.o);obtain⟨g,bw,rfl,fN⟩:=QW bd.o (by rw[oJ];omega);have cV:=bd.o;rw[oJ] at cV⊢;by_cases cP:j<N2
       ·obtain⟨r,hr⟩:∃r,N2-j=r+1:=⟨N2-j-1,by omega⟩;have kj:=ub.o;rw[hr,Z9A,oJ] at kj;obtain⟨ix,Of⟩:∃x,lj-(b+1)=x:=⟨_,rfl⟩;rw[Of] at kj;obtain⟨c,hc⟩:∃x,o'.getD ix 0=x:=⟨_,rfl⟩;rw[hc] at kj;have Cq:ix<lj:=(by omega)
        have Og:(o'.map bv)[ix]? =some (.int .u8 (c.toNat:Int)):=by
         rw[Vbc,Vao (by rw[oJ];exact Cq),<-hc];simp[List.getD,bv,oJ,Cq]
        obtain⟨cc,_⟩:=QV cV ix _ Og;have Uj:(lj:Int)-(b:Int)-1=(ix:Int):=(by omega);have Uk:(ix:Int)<(lj:Int):=(by omega);have Ul:(0:Int)<=(ix:Int):=(by omega);have Jn:(j:Int)<(N2:Int):=(by omega);have Um:lj<=10000:=(by omega);obtain⟨v',w5,Oh,ep,aB,dT⟩:=Yr (P:=Tryz.prog) 115 5 _ _ Tryz.underlying115 Zhe rfl cV hb.o hb.o.size (.int .u8 (c.toNat:Int)) rfl (by unfold maxLen;omega) (by omega);rw[Zd8] at ep;have bW:lj+1=(o'++[c]).length:=(by rw[Vab,Vbe,oJ]);rw[bW] at ep;have qB:=h_ (hW.o.keep dT);have qF:=h_ ep;have bj:=h_ aB;have ar:=h_ Oh;have Jo:Hid ((o'++[c]).length=ol+(j+1)):=h_ (by rw[<-bW];omega);have Jp:Hid (Qc (b+1) (N2-(j+1)) (o'++[c])=Qc (b+1) N2 o):=h_ (by rw[show N2-(j+1)=r by omega];exact kj);obtain⟨A5,M5,bo,rfl⟩:=Zg ep;generalize (c.toNat:Int)=C at*;clear jd ub bd hW hb cV hr kj Of hc Og Oh ep aB dT bW oJ Cp fN;go_wp2_with (at_builtin;refine Z4 (by with_reducible rfl) rfl _ _ _ rfl _ _ (by rfl) (by rfl) ar.o ?_);refine⟨⟨j+1,_,_,cP,by go_num,rfl,Jo,Jp,qF,qB,bj⟩,?_⟩;simp[intOf]<;>omega
       ·have iB:j=N2:=(by omega);subst iB;have kj:=ub.o;rw[Va7] at kj;have Cr:o'=Qc (b+1) j o:=kj;have Jn:¬(j:Int)<(j:Int):=(by omega);have Jq:Hid (rdP f1 n o' m3 d3=R):=h_ (by rw[Cr];exact Jm.o);have Jr:Hid (n<=o'.length+f1):=h_ (by rw[oJ];omega);have lY:Hid (o'.length<=n):=h_ (by rw[oJ];omega);have Je:Hid (n-lj<n-ol):=h_ (by omega);have Cs:Hid (wr.ownsRow w.heap.size 5 1 (.slice (some ⟨g,0,none⟩) lj bw) o'.length (o'.map bv)):=h_ (by rw[oJ];exact cV);clear jd ub kj Cr oJ Cp fN cV;go_wp2;refine⟨⟨f1,o',m3,d3,_,rfl,hW,yz,Jq,Jr,lY,Cs,hb⟩,?_⟩;exact Je.o
  ·have Un:o.length=n:=(by have:=eC.o;omega);have Uo:R=some o:=(by rw[<-yC.o];exact Zj0 ab);subst Uo;have gq:¬(ol:Int)<(n:Int):=(by omega);have eH:=Z7d (P:=Tryz.prog) 115 9 5 Tryz.underlying115 Tryz.underlying5 Tryz.underlying9 bd.o;rw[fQ] at eH⊢;have Ct:optB (some o)=.tuple #[.string (bs o),.bool true]:=rfl;have Js:=h_ Ct;generalize bs o=OS at*;clear hW mF yC um eC bd Ct Un ab;go_wp2;go_returns;rw[Js.o];exact⟨rfl,hb.o⟩
end Go.Proofs.YtchokmkfobandaaGreatDoor
namespace Wv.Lz
open Wv.Rc
theorem Zj1:∀(f n:Nat) (o:List UInt8) (m:Ms) (d:De) (s:List UInt8),o.length<=n->rdP f n o m d=some s->s.length<=n:=by
 intro f;induction f with
 |zero=>intro n o m d s h hs;injection hs with hs;rw[<-hs];exact h
 |succ f ih=>
  intro n o m d s h hs;rw[rdP] at hs;split at hs
  ·split at hs
   ·exact ih n _ _ _ s (by rw[Vab,Vbe];omega) hs
   ·split at hs
    ·cases hs
    ·rename_i hb;refine ih n _ _ _ s ?_ hs
     have key:∀(d k:Nat) (o:List UInt8),(Qc d k o).length=o.length+k:=by
      intro d k;induction k with
      |zero=>intro o;rfl
      |succ k ih=>intro o;show(Qc d k (o++_)).length=_;rw[ih,Vab,Vbe];omega
     rw[key];unfold badL at hb;simp only[Bool.or_eq_true,Vaq,not_or] at hb;omega
  ·injection hs with hs;rw[<-hs];exact h
end Wv.Lz
namespace Go.Proofs.YtchokmkfobandaaGreatDoor
open Go.RowKit Go.Proofs Wv Wv.Vi Wv.Rc Wv.Mo Wv.Ru Wv.Lz
theorem Z88 (a b:List UInt8):(((bs a).toList !=(bs b).toList)= !decide (a=b))/\(((bs a).toList==(bs b).toList)=decide (a=b)):=by
 have h2:((bs a).toList==(bs b).toList)=decide (a=b):=by
  rw[Vbl,beq_iff_eq,Vaq,ByteArray.toList_eq,ByteArray.toList_eq];exact Iff.rfl
 exact⟨by rw[bne,h2],h2⟩
def lzV (x:List UInt8×Nat):Value:=.tuple #[.string (bs x.1),.int .i64 (x.2:Int)]
theorem Z11 (data:List UInt8) (hd:data.length<=1000000000) (most:Int) (w:World):
  Calls Tryz.prog 139 #[.string (bs data),.int .i64 most] w λx w'=>x=.returned (lzV (lzD data most))/\Below w.heap.size w w':=by
 have Hv:=h_ (ZN (bs data) w);have ad:(bs data).size<=1099511627776:=(by rw[Z0];omega);have Hn:=h_ (λ(W:World) (b:Nat) (h:RV W b (bs data) 0)=>Zi h ad 4096);have he:bs ([]:List UInt8)=⟨#[]⟩:=rfl
 have hD:lzD data most=match rnum data 4096 with
  |none=>([],12)
  |some (n,r)=>if most<(n:Int) then([],2) else match lzR r n with
   |none=>([],12)
   |some s=>if lzE s=some data then(s,0) else([],12):=rfl
 obtain⟨RD,x9⟩:∃R,lzD data most=R:=⟨_,rfl⟩;rw[x9] at hD⊢;cases hr:rnum data 4096 with
 |none=>
  rw[hr] at hD;simp only at hD;subst hD;obtain⟨e,eK,cR⟩:=Z4Z hr;rw[show((4096:Nat):Int)=4096 from rfl] at cR;rw[cR] at Hn;have ay:((e:Int) !=0)=true:=(by rw[Va1];omega);have qK:lzV ([],12)=.tuple #[.string ⟨#[]⟩,.int .i64 12]:=rfl;rw[qK];generalize bs data=S at*;clear hr x9 he cR hd qK;go_enter Tryz.func139,Tryz.ntmps139;go_wp2_with fail;refine(Hv.o).mono ?_;rintro x w1 ⟨rfl,h1,a7⟩;go_wp2_with fail;refine(Hn.o _ _ h1).mono ?_;rintro x w2 ⟨rfl,h2,ai⟩;have gZ:=h_ (Zb h2);have a8:=ZH a7 UZz ai;go_wp2_with fail;refine(gZ.o).mono ?_;rintro x w3 ⟨rfl,rfl⟩;go_wp2;go_returns;exact⟨rfl,a8⟩
 |some q=>
  obtain⟨n,r⟩:=q;rw[hr] at hD;simp only at hD;obtain⟨k1,k2,k3⟩:=Z0F hr;rw[show((4096:Nat):Int)=4096 from rfl] at k1;rw[k1] at Hn;simp only at Hn;by_cases ng:most<(n:Int)
  ·rw[Vaf ng] at hD;subst hD;have qK:lzV ([],2)=.tuple #[.string ⟨#[]⟩,.int .i64 2]:=rfl;rw[qK];generalize bs data=S at*;generalize bs r=RS at*;clear hr x9 k1 hd qK;go_enter Tryz.func139,Tryz.ntmps139;go_wp2_with fail;refine(Hv.o).mono ?_;rintro x w1 ⟨rfl,h1,a7⟩;go_wp2_with fail;refine(Hn.o _ _ h1).mono ?_;rintro x w2 ⟨rfl,h2,ai⟩;have gZ:=h_ (Zb h2);have a8:=ZH a7 UZz ai;go_wp2_with fail;refine(gZ.o).mono ?_;rintro x w3 ⟨rfl,rfl⟩;go_wp2;go_returns;exact⟨rfl,a8⟩
  ·rw[Vad ng] at hD;have rP:(bs r).size=r.length:=Z0 r
   have ax:ZB (bs r) 0 (r.length:Int)=(bs r,bs [],0):=by
    rw[Z1S UZz,Vbx,Vcl]
   have ig:=h_ (λ(W:World) (b:Nat) (h:RV W b (bs r) 0)=>Zt h (by rw[rP];omega));have yI:=h_ (λ(W:World) (b:Nat) (h:RV W b (bs r) 0)=>Zu h (by rw[rP];omega) (r.length:Int));rw[ax] at yI;rw[rP] at ig;simp only at yI;have lO:=h_ (λW=>Z9B r n k2 W);have df:r.length<=1000000000:=(by omega);generalize iV:bs r=RS at*;cases hR:lzR r n with
   |none=>
    rw[hR] at hD lO;simp only at hD;subst hD;have qK:lzV ([],12)=.tuple #[.string ⟨#[]⟩,.int .i64 12]:=rfl;have fX:optB none=.tuple #[.string ⟨#[]⟩,.bool false]:=rfl;rw[fX] at lO;rw[qK];generalize bs data=S at*;generalize bs ([]:List UInt8)=E0 at*;clear hr x9 k1 hd qK rP ax iV hR fX;go_enter Tryz.func139,Tryz.ntmps139;go_wp2_with fail;refine(Hv.o).mono ?_;rintro x w1 ⟨rfl,h1,a7⟩;go_wp2_with fail;refine(Hn.o _ _ h1).mono ?_;rintro x w2 ⟨rfl,h2,ai⟩;have gZ:=h_ (Zb h2);have a8:=ZH a7 UZz ai;go_wp2_with fail;refine(gZ.o).mono ?_;rintro x w3 ⟨rfl,rfl⟩;go_wp2_with fail;refine(ig.o _ _ h2).mono ?_;rintro x w3 ⟨rfl,rfl⟩;go_wp2_with fail;refine(yI.o _ _ h2).mono ?_;rintro x w3 ⟨rfl,h3,aR⟩;have af:=ZH a8 UZz aR;clear h1 h2 h3 ai aR a7 a8;go_wp2_with fail;refine(lO.o _).mono ?_;rintro x w4 ⟨rfl,au⟩;have hb:=h_ (af.trans (au.mono af.size));clear af au;go_wp2;go_returns;exact⟨rfl,hb.o⟩
   |some s=>
    rw[hR] at hD lO;simp only at hD;have fX:optB (some s)=.tuple #[.string (bs s),.bool true]:=rfl;rw[fX] at lO
    have hsl:s.length<=1000000000:=by
     have:=Zj1 n n [] m0 (d0 r) s (Var _) hR;omega
    have ic:=h_ (λW=>Z10 s hsl W);cases hE:lzE s with
    |none=>
     rw[hE,Vad (by simp)] at hD;subst hD;have dJ:optV none=.tuple #[.string ⟨#[]⟩,.int .i64 9]:=rfl;rw[hE,dJ] at ic;have qK:lzV ([],12)=.tuple #[.string ⟨#[]⟩,.int .i64 12]:=rfl;rw[qK];generalize bs data=S at*;generalize bs s=SS at*;generalize bs ([]:List UInt8)=E0 at*;clear hr x9 k1 hd qK rP ax iV hR fX hE dJ hsl;go_enter Tryz.func139,Tryz.ntmps139;go_wp2_with fail;refine(Hv.o).mono ?_;rintro x w1 ⟨rfl,h1,a7⟩;go_wp2_with fail;refine(Hn.o _ _ h1).mono ?_;rintro x w2 ⟨rfl,h2,ai⟩;have gZ:=h_ (Zb h2);have a8:=ZH a7 UZz ai;go_wp2_with fail;refine(gZ.o).mono ?_;rintro x w3 ⟨rfl,rfl⟩;go_wp2_with fail;refine(ig.o _ _ h2).mono ?_;rintro x w3 ⟨rfl,rfl⟩;go_wp2_with fail;refine(yI.o _ _ h2).mono ?_;rintro x w3 ⟨rfl,h3,aR⟩;have af:=ZH a8 UZz aR;clear h1 h2 h3 ai aR a7 a8;go_wp2_with fail;refine(lO.o _).mono ?_;rintro x w4 ⟨rfl,au⟩;have hb:=af.trans (au.mono af.size);clear af au;go_wp2_with fail;refine(ic.o _).mono ?_;rintro x w5 ⟨rfl,aB⟩;have aW:=h_ (hb.trans (aB.mono hb.size));clear hb aB;go_wp2;go_returns;exact⟨rfl,aW.o⟩
    |some t=>
     have dJ:optV (some t)=.tuple #[.string (bs t),.int .i64 0]:=rfl;rw[hE,dJ] at ic;rw[hE] at hD;obtain⟨q1,q2⟩:=Z88 t data
     have xa:lzV RD=if t=data then .tuple #[.string (bs s),.int .i64 0] else .tuple #[.string ⟨#[]⟩,.int .i64 12]:=by
      rw[hD];by_cases h:t=data
      ·rw[Vaf (by rw[h]),Vaf h];rfl
      ·rw[Vad (by simpa using h),Vad h];rfl
     rw[xa];by_cases yJ:t=data
     ·rw[Vaf yJ];rw[Vam yJ] at q1 q2;generalize bs data=S at*;generalize bs s=SS at*;generalize bs t=TT at*;generalize bs ([]:List UInt8)=E0 at*;clear hr x9 k1 hd rP ax iV hR fX hE dJ hsl xa hD yJ;go_enter Tryz.func139,Tryz.ntmps139;go_wp2_with fail;refine(Hv.o).mono ?_;rintro x w1 ⟨rfl,h1,a7⟩;go_wp2_with fail;refine(Hn.o _ _ h1).mono ?_;rintro x w2 ⟨rfl,h2,ai⟩;have gZ:=h_ (Zb h2);have a8:=ZH a7 UZz ai;go_wp2_with fail;refine(gZ.o).mono ?_;rintro x w3 ⟨rfl,rfl⟩;go_wp2_with fail;refine(ig.o _ _ h2).mono ?_;rintro x w3 ⟨rfl,rfl⟩;go_wp2_with fail;refine(yI.o _ _ h2).mono ?_;rintro x w3 ⟨rfl,h3,aR⟩;have af:=ZH a8 UZz aR;clear h1 h2 h3 ai aR a7 a8;go_wp2_with fail;refine(lO.o _).mono ?_;rintro x w4 ⟨rfl,au⟩;have hb:=af.trans (au.mono af.size);clear af au;go_wp2_with fail;refine(ic.o _).mono ?_;rintro x w5 ⟨rfl,aB⟩;have aW:=h_ (hb.trans (aB.mono hb.size));clear hb aB;go_wp2;go_returns;exact⟨rfl,aW.o⟩
     ·rw[Vad yJ];rw[Vah yJ] at q1 q2;generalize bs data=S at*;generalize bs s=SS at*;generalize bs t=TT at*;generalize bs ([]:List UInt8)=E0 at*;clear hr x9 k1 hd rP ax iV hR fX hE dJ hsl xa hD yJ;go_enter Tryz.func139,Tryz.ntmps139;go_wp2_with fail;refine(Hv.o).mono ?_;rintro x w1 ⟨rfl,h1,a7⟩;go_wp2_with fail;refine(Hn.o _ _ h1).mono ?_;rintro x w2 ⟨rfl,h2,ai⟩;have gZ:=h_ (Zb h2);have a8:=ZH a7 UZz ai;go_wp2_with fail;refine(gZ.o).mono ?_;rintro x w3 ⟨rfl,rfl⟩;go_wp2_with fail;refine(ig.o _ _ h2).mono ?_;rintro x w3 ⟨rfl,rfl⟩;go_wp2_with fail;refine(yI.o _ _ h2).mono ?_;rintro x w3 ⟨rfl,h3,aR⟩;have af:=ZH a8 UZz aR;clear h1 h2 h3 ai aR a7 a8;go_wp2_with fail;refine(lO.o _).mono ?_;rintro x w4 ⟨rfl,au⟩;have hb:=af.trans (au.mono af.size);clear af au;go_wp2_with fail;refine(ic.o _).mono ?_;rintro x w5 ⟨rfl,aB⟩;have aW:=h_ (hb.trans (aB.mono hb.size));clear hb aB;go_wp2;go_returns;exact⟨rfl,aW.o⟩
end Go.Proofs.YtchokmkfobandaaGreatDoor
