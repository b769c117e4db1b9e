import Derived.Test.YtchokmkfobandaaGreatDoorJ33
set_option linter.unusedVariables false
set_option linter.unusedSimpArgs false
set_option maxRecDepth 100000
set_option maxHeartbeats 8000000
namespace Go.Proofs.YtchokmkfobandaaGreatDoor
open Go.RowKit Go.Proofs Wv Wv.Vi Wv.Rc Wv.Mo Wv.Lz
structure RdA (w:World) (p:Pl) (mb eb:Nat) (m:Ms) (d:De):Prop where
 ms:MsA w p m
 de:DAt w eb d
 mc:Bk w mb 178 (setC p)
def Z53 (p:Pl) (eb:Nat):Nat->Prop:=λk=>k=p.kg\/k=p.bb\/k=p.bg\/k=p.lg\/k=p.dg\/k=eb
theorem ZgT {w:World} {p:Pl} {m:Ms} (h:MsA w p m) {eb b:Nat} {d:De} (he:DAt w eb d) {t:TypeId} {cs:Array Value} (hb:Bk w b t cs) (h1:t≠292) (h3:t≠3) (h4:t≠234):¬Z53 p eb b:=λhs=>by
 rcases hs with hs|hs|hs|hs|hs|hs
 ·exact Bk.apart hb h.kn h3 hs
 ·exact Bk.apart hb h.bt.st h4 hs
 ·exact Bk.apart hb h.bt.nd h3 hs
 ·exact Bk.apart hb h.ln.2 h3 hs
 ·exact Bk.apart hb h.dn.2 h3 hs
 ·exact Bk.apart hb he h1 hs
theorem RdA.next {w w':World} {p:Pl} {mb eb:Nat} {m m':Ms} {d d':De} (h:RdA w p mb eb m d) (hf:Fr (Z53 p eb) w w') (hm:MsA w' p m') (he:DAt w' eb d'):RdA w' p mb eb m' d':=
 ⟨hm,he,h.mc.fr hf (ZgT h.ms h.de h.mc (by decide) (by decide) (by decide))⟩
theorem RdA.below {w w':World} {p:Pl} {mb eb:Nat} {m:Ms} {d:De} (h:RdA w p mb eb m d) (hb:Below w.heap.size w w'):RdA w' p mb eb m d:=⟨h.ms.below hb,h.de.below hb,h.mc.below hb h.mc.lt⟩
theorem RdA.drew {w:World} {p:Pl} {mb eb:Nat} {m:Ms} {d:De} (h:RdA w p mb eb m d):RdA w.drew p mb eb m d:=⟨h.ms.drew,h.de.drew,h.mc⟩
theorem RdA.keep {w w':World} {p:Pl} {mb eb:Nat} {m:Ms} {d:De} (h:RdA w p mb eb m d) (hk:∀xb T cs,Bk w xb T cs->5≠T->Bk w' xb T cs):RdA w' p mb eb m d:=
 ⟨⟨hk _ _ _ h.ms.ks (by decide),hk _ _ _ h.ms.kn (by decide),⟨hk _ _ _ h.ms.bt.st (by decide),hk _ _ _ h.ms.bt.nd (by decide)⟩,⟨hk _ _ _ h.ms.ln.1 (by decide),hk _ _ _ h.ms.ln.2 (by decide)⟩,⟨hk _ _ _ h.ms.dn.1 (by decide),hk _ _ _ h.ms.dn.2 (by decide)⟩,h.ms.a1,h.ms.a2,h.ms.a3,h.ms.a4,h.ms.a5,h.ms.a6⟩,
  hk _ _ _ h.de (by decide),hk _ _ _ h.mc (by decide)⟩
theorem RdA.row {w w':World} {p:Pl} {mb eb:Nat} {m:Ms} {d:De} (h:RdA w p mb eb m d) (hf:Fr (Z53 p eb) w w') {B n:Nat} {v:Value} {xs:List Value} (hr:w.ownsRow B 5 1 v n xs):w'.ownsRow B 5 1 v n xs:=
 Z0v hr hf (λg hg hs=>by
  rcases hs with hs|hs|hs|hs|hs|hs
  ·exact Z02 hr h.ms.kn (by decide) (hs▸hg)
  ·exact Z02 hr h.ms.bt.st (by decide) (hs▸hg)
  ·exact Z02 hr h.ms.bt.nd (by decide) (hs▸hg)
  ·exact Z02 hr h.ms.ln.2 (by decide) (hs▸hg)
  ·exact Z02 hr h.ms.dn.2 (by decide) (hs▸hg)
  ·exact Z02 hr h.de (by decide) (hs▸hg))
theorem rnew {B:Nat} {p:Pl} {eb:Nat} {w wr w':World} (hp:PlB B p) (he:B<=eb) (hb:Below B w wr) (hB:B<=wr.heap.size) (hf:Fr (Z53 p eb) wr w'):Below B w w':=
 hb.trans (hf.toBelow' hB (λk hk hs=>by
  rcases hs with hs|hs|hs|hs|hs|hs
  ·have:=hp.kg;omega
  ·have:=hp.bb;omega
  ·have:=hp.bg;omega
  ·have:=hp.lg;omega
  ·have:=hp.dg;omega
  ·omega))
theorem ZaC {p:Pl} {eb g:Nat} (hg:g=p.kg\/g=p.lg\/g=p.dg):∀k,Z6h g eb k->Z53 p eb k:=λk h=>by
 rcases h with h|h
 ·rcases hg with e|e|e
  ·exact .inl (h.trans e)
  ·exact .inr (.inr (.inr (.inl (h.trans e))))
  ·exact .inr (.inr (.inr (.inr (.inl (h.trans e)))))
 ·exact .inr (.inr (.inr (.inr (.inr h))))
theorem ZkG (n:Nat) (t:List Nat) (d:De) (h:t.length=2 ^ n):Z2v n 0 1 t d=tdec n 1 t d:=by
 obtain⟨a,b⟩:=ZbK n 0 1 (2 ^ n) (t:=t) (d:=d) (by omega) (by omega);have e1:subL 0 (2 ^ n) t=t:=(by unfold subL;rw[List.drop_zero,<-h,List.take_length]);rw[e1] at a b;rw[a];unfold putL;rw[List.take_zero,List.nil_append,Nat.zero_add,b,<-h,List.drop_length,List.append_nil]
theorem Zml {m:Ms} {d:De} (h:MOk m) (hv:DV 0 d):MOk (kdec m d).2.1/\DV 0 (kdec m d).2.2:=by
 obtain⟨a,b,c,_,_⟩:=Z8x 1 1 m.kind d h.k.1 (by rw[h.k.2];decide) hv;exact⟨⟨⟨a,b.trans h.k.2⟩,h.bl,h.b,h.l,h.d⟩,c⟩
theorem Zmm {m:Ms} {d:De} (h:MOk m) (hv:DV 0 d):MOk (bdec m d).2.1/\DV 0 (bdec m d).2.2:=by
 obtain⟨t1,t2⟩:=Z58 h;obtain⟨a,b,c,_,_⟩:=Z8x 8 1 (Z4y m) d t1 (by rw[t2];decide) hv;exact⟨⟨h.k,by show(List.set _ _ _).length=8;rw[List.length_set];exact h.bl,Zbk h ⟨a,b.trans t2⟩ _,h.l,h.d⟩,c⟩
theorem Zmn {m:Ms} {d:De} (h:MOk m) (hv:DV 0 d):MOk (ldec m d).2.1/\DV 0 (ldec m d).2.2:=by
 obtain⟨a,b⟩:=Zfj h.l hv;exact⟨⟨h.k,h.bl,h.b,a,h.d⟩,b⟩
theorem Zmo {m:Ms} {d:De} (h:MOk m) (hv:DV 0 d):MOk (ddec m d).2.1/\DV 0 (ddec m d).2.2:=by
 obtain⟨a,b⟩:=Zfj h.d hv;exact⟨⟨h.k,h.bl,h.b,h.l,a⟩,b⟩
section
variable {w:World} {p:Pl} {mb eb:Nat} {m:Ms} {d:De}
theorem ZgU (h:RdA w p mb eb m d) (hm:MOk m) (hv:DV 0 d):
  Calls Tryz.prog 222 #[.pointer (some ⟨p.kb,0,none⟩),.pointer (some ⟨eb,0,none⟩)] w λr w'=>r=.returned (.int .i64 ((kdec m d).1:Nat))/\RdA w' p mb eb (kdec m d).2.1 (kdec m d).2.2/\Fr (Z53 p eb) w w':=by
 refine(Z90 h.ms.kind (by omega) (by rw[hm.k.2];decide) (by rw[hm.k.2];decide) hm.k.1 h.de (Bk.apart h.ms.ks h.de (by decide)) hv).mono ?_;rintro r w1 ⟨rfl,ht,hd,hf⟩;rw[ZkG 1 _ _ hm.k.2] at ht hd;rw[ZkG 1 _ _ hm.k.2];have ah:=hf.mono (ZaC (p:=p) (.inl rfl));exact⟨rfl,h.next ah (h.ms.setK hf (λk hk=>hk) (h.ms.offD h.de) ht.nd) hd,ah⟩
theorem ZgV (h:RdA w p mb eb m d) (hm:MOk m) (hv:DV 0 d):
  Calls Tryz.prog 223 #[.pointer (some ⟨p.bb,0,none⟩),.pointer (some ⟨eb,0,none⟩)] w λr w'=>r=.returned (.int .u8 (((bdec m d).1.toNat:Nat):Int))/\RdA w' p mb eb (bdec m d).2.1 (bdec m d).2.2/\Fr (Z53 p eb) w w':=by
 refine(Zg5 h.ms.bt hm.b hm.bl h.de hv).mono ?_;rintro r w1 ⟨rfl,ht,hd,hf⟩
 have ah:Fr (Z53 p eb) w w1:=hf.mono (λk hk=>by
  rcases hk with h|h|h
  ·exact .inr (.inl h)
  ·exact .inr (.inr (.inl h))
  ·exact .inr (.inr (.inr (.inr (.inr h)))))
 exact⟨rfl,h.next ah (h.ms.setB hf (λk hk=>hk) (h.ms.offD h.de) ht) hd,ah⟩
theorem ZjM (h:RdA w p mb eb m d) (hm:MOk m) (hv:DV 0 d):
  Calls Tryz.prog 224 #[.pointer (some ⟨p.lb,0,none⟩),.pointer (some ⟨eb,0,none⟩)] w λr w'=>r=.returned (.int .i64 (ldec m d).1)/\RdA w' p mb eb (ldec m d).2.1 (ldec m d).2.2/\Fr (Z53 p eb) w w':=by
 refine(Z7E h.ms.ln hm.l h.de hv).mono ?_;rintro r w1 ⟨rfl,ht,hd,hf⟩;have ah:=hf.mono (ZaC (p:=p) (.inr (.inl rfl)));exact⟨rfl,h.next ah (h.ms.setL hf (λk hk=>hk) (h.ms.offD h.de) ht) hd,ah⟩
theorem ZgW (h:RdA w p mb eb m d) (hm:MOk m) (hv:DV 0 d):
  Calls Tryz.prog 224 #[.pointer (some ⟨p.db,0,none⟩),.pointer (some ⟨eb,0,none⟩)] w λr w'=>r=.returned (.int .i64 (ddec m d).1)/\RdA w' p mb eb (ddec m d).2.1 (ddec m d).2.2/\Fr (Z53 p eb) w w':=by
 refine(Z7E h.ms.dn hm.d h.de hv).mono ?_;rintro r w1 ⟨rfl,ht,hd,hf⟩;have ah:=hf.mono (ZaC (p:=p) (.inr (.inr rfl)));exact⟨rfl,h.next ah (h.ms.setD hf (λk hk=>hk) (h.ms.offD h.de) ht) hd,ah⟩
theorem RdA.cells (h:RdA w p mb eb m d):w.cell? ⟨mb,0,none⟩=some (.pointer (some ⟨p.kb,0,none⟩))/\w.cell? ⟨mb,1,none⟩=some (.pointer (some ⟨p.bb,0,none⟩))/\w.cell? ⟨mb,2,none⟩=some (.pointer (some ⟨p.lb,0,none⟩))/\w.cell? ⟨mb,3,none⟩=some (.pointer (some ⟨p.db,0,none⟩)):=
 ⟨h.mc.cell 0,h.mc.cell 1,h.mc.cell 2,h.mc.cell 3⟩
end
theorem Zdm (d n:Nat) (o:List UInt8):Z39 d (n+1) o=Z39 d n (o++[o.getD (o.length-d) 0]):=rfl
theorem ZgX (o:List UInt8) (c:UInt8):o.map bv++[.int .u8 (c.toNat:Int)]=(o++[c]).map bv:=by simp[bv]
def optB (o:Option (List UInt8)):Value:=match o with
 |some t=>.tuple #[.string (bs t),.bool true]
 |none=>.tuple #[.string (bs []),.bool false]
def slen (v:Value):Nat:=match v with
 |.slice _ n _=>n
 |_=>0
theorem Zmp {f n:Nat} {o:List UInt8} {m:Ms} {d:De} (h:¬o.length<n):rdP f n o m d=some o:=by
 cases f with
 |zero=>rfl
 |succ f=>rw[rdP,if_neg h]
theorem ZkH:(Tryz.prog.info? 5).map (λi=>(i.zero,i.size,i.bytes))=some (some (.int .u8 0),1,1):=by kernel_rfl
theorem Zdn (data:List UInt8) (n:Nat) (hn:n<=4096) (w:World):
  Calls Tryz.prog 182 #[.string (bs data),.int .i64 (n:Int)] w λx w'=>x=.returned (optB (lzR data n))/\Below w.heap.size w w':=by
 have Hs:=h_ (λW=>Z6R W);unfold setC at Hs;have He:=h_ (λW=>Zbb data W);have nN:Hid (rdP n n [] m0 (d0 data)=lzR data n):=h_ rfl;have ml:=d0_v data;obtain⟨R,hR⟩:∃R,lzR data n=R:=⟨_,rfl⟩;rw[hR] at nN⊢;generalize d0 data=D0 at*;generalize bs data=S at*;clear hR;go_enter Tryz.func182,Tryz.ntmps182;go_wp2_with fail;refine(Hs.o _).mono ?_;rintro x w1 ⟨p,rfl,dh,dy,a7⟩;go_wp2_with fail;refine(He.o _).mono ?_;rintro x w2 ⟨rfl,mq,a8⟩;have s1:=a7.size;have s2:=a8.size
 have xM:RdA (w2.alloc (.cells (setC p) 178)) p w2.heap.size w1.heap.size m0 D0:=
  ⟨(dh.below a8).below ((Below.refl w2.heap.size w2).alloc (Nat.le_refl _) _),mq.below ((Below.refl w2.heap.size w2).alloc (Nat.le_refl _) _),Bk.new _ _ _⟩
 have aM:=(a7.trans (a8.mono s1)).alloc (by omega) (.cells (setC p) 178);have pW:=h_ xM;have bO:=h_ aM;have HP:=h_ dy;have vB:w.heap.size<=w1.heap.size:=(by omega);have qd:Hid ((w2.alloc (.cells (setC p) 178)).ownsRow w.heap.size 5 1 (.slice none 0 0) ([]:List UInt8).length (([]:List UInt8).map bv)):=h_ Z0p;have hcell:=xM.cells;unfold setC at pW bO qd hcell;clear xM aM dh dy a7 mq a8 s1 s2 Hs He;go_wp2;generalize (w2.alloc (.cells #[.pointer (some ⟨p.kb,0,none⟩),.pointer (some ⟨p.bb,0,none⟩),.pointer (some ⟨p.lb,0,none⟩),.pointer (some ⟨p.db,0,none⟩)] 178))=W5 at*;generalize w2.heap.size=mb at*;generalize w1.heap.size=eb at*;clear hcell;go_loopw [8] (λs8 wx=>∃(f:Nat) (o:List UInt8) (m:Ms) (d:De) (ov:Value),s8=ov/\Hid (RdA wx p mb eb m d)/\Hid (MOk m/\DV 0 d)/\Hid (rdP f n o m d=R)/\Hid (n<=o.length+f)/\Hid (o.length<=n)/\Hid (wx.ownsRow w.heap.size 5 1 ov o.length (o.map bv))/\Hid (Below w.heap.size w wx)) (λs8 _=>n-slen s8);case atStart=>exact⟨n,[],m0,D0,_,rfl,pW,h_ ⟨ZeN,ml⟩,nN,h_ (by simp),h_ (Nat.zero_le _),qd,bO⟩
 case round=>
  clear pW bO qd nN ml;obtain⟨f,o,m,d,ov,rfl,hW,lW,xR,qW,el,aU,hb⟩:=hrel;obtain⟨A,cap,rfl,_⟩:=Z0q aU.o;obtain⟨ol,fG⟩:∃x,o.length=x:=⟨_,rfl⟩;by_cases ab:o.length<n
  ·obtain⟨f1,rfl⟩:∃g,f=g+1:=⟨f-1,by have:=qW.o;omega⟩;have iF:=xR.o;rw[rdP,if_pos ab] at iF;obtain⟨kv1,kv2⟩:=Zml lW.o.1 lW.o.2;have Hk:=h_ (ZgU hW.o lW.o.1 lW.o.2);obtain⟨c0,c1,c2,c3⟩:=hW.o.cells;have gL:(ol:Int)<(n:Int):=(by omega);have ng:=h_ fG;have cN:=aU.o;rw[fG] at cN⊢;have DQ:=hW;obtain⟨kk,lr⟩:∃x,(kdec m d).1=x:=⟨_,rfl⟩;rw[lr] at iF Hk;generalize (kdec m d).2.1=m1 at*;generalize (kdec m d).2.2=d1 at*;clear lr hW xR ab fG;by_cases hz:kk=0
   ·subst hz;rw[if_pos rfl] at iF;have z0:((0:Nat):Int)=0:=rfl;rw[z0] at Hk;obtain⟨ND,NF⟩:=Zmm kv1 kv2;have ID:=h_ (λ(W:World) (h:RdA W p mb eb m1 d1)=>ZgV h kv1 kv2);obtain⟨c,hc⟩:∃x,(bdec m1 d1).1=x:=⟨_,rfl⟩;rw[hc] at iF ID;generalize (bdec m1 d1).2.1=m2 at*;generalize (bdec m1 d1).2.2=d2 at*;have vR:=h_ iF;have fR:=h_ cN;have eK:=h_ (And.intro ND NF);clear hc iF cN aU kv1 kv2 ND NF c2 c3 lW;go_wp2_with fail;refine(Hk.o).mono ?_;rintro x w3 ⟨rfl,tG,aL⟩;have eC:=DQ.o.row aL fR.o;have ae:=rnew HP.o vB hb.o hb.o.size aL;obtain⟨e0,e1,e2,e3⟩:=tG.cells;clear c0 c1 e2 e3 aL Hk hb fR DQ;go_wp2_with fail;refine(ID.o _ tG).mono ?_;rintro x w4 ⟨rfl,Bd,aG⟩;have tH:=tG.row aG eC;have aw:=rnew HP.o vB ae ae.size aG;obtain⟨v',w5,hr,dW,aM,dK⟩:=Z1X (P:=Tryz.prog) 115 5 _ _ Tryz.underlying115 ZkH rfl tH aw aw.size (.int .u8 (c.toNat:Int)) rfl (by unfold maxLen;have:=el.o;have:=ng.o;omega) (by have:=el.o;have:=ng.o;omega);rw[ZgX] at dW;have cj:ol+1=(o++[c]).length:=(by rw[List.length_append,List.length_singleton,ng.o]);rw[cj] at dW;have pW:=h_ (Bd.keep dK);have qe:=h_ dW;have bO:=h_ aM;have ao:=h_ hr;have Sf:Hid (n<=(o++[c]).length+f1):=h_ (by rw[<-cj];have:=qW.o;have:=ng.o;omega);have Sh:Hid ((o++[c]).length<=n):=h_ (by rw[<-cj];omega)
    have IE:Hid (n-slen v'<n-ol):=h_ (by
     obtain⟨A',bh,e,_⟩:=Z0q dW;rw[e];show n-(o++[c]).length<_;rw[<-cj];omega)
    obtain⟨A5,M5,bk,rfl⟩:=Z0c dW;generalize (c.toNat:Int)=C at*;clear e0 e1 aG tG eC ae Bd tH aw hr dW aM dK cj qW el ID;go_wp2_with (at_builtin;refine Z04 (by with_reducible rfl) rfl _ _ _ rfl _ _ (by rfl) (by rfl) ao.o ?_);refine⟨⟨f1,_,m2,d2,_,rfl,pW,eK,vR,Sf,Sh,qe,bO⟩,?_⟩;exact IE.o
   ·rw[if_neg hz] at iF;have dp:((kk:Int)==0)=false:=(by rw[beq_eq_false_iff_ne];omega);obtain⟨IF,IG⟩:=Zmn kv1 kv2;have gW:=h_ (λ(W:World) (h:RdA W p mb eb m1 d1)=>ZjM h kv1 kv2);obtain⟨L,hL⟩:∃x,(ldec m1 d1).1=x:=⟨_,rfl⟩;rw[hL] at iF gW;generalize (ldec m1 d1).2.1=m2 at*;generalize (ldec m1 d1).2.2=d2 at*;obtain⟨lK,CG⟩:=Zmo IF IG;have vF:=h_ (λ(W:World) (h:RdA W p mb eb m2 d2)=>ZgW h IF IG);obtain⟨D,hD⟩:∃x,(ddec m2 d2).1=x:=⟨_,rfl⟩;rw[hD] at iF vF;generalize (ddec m2 d2).2.1=m3 at*;generalize (ddec m2 d2).2.2=d3 at*;have vR:=h_ iF;have fR:=h_ cN;have xN:=h_ (And.intro lK CG);clear hL hD iF cN aU kv1 kv2 IF IG lK CG lW hz;go_wp2_with fail;refine(Hk.o).mono ?_;rintro x w3 ⟨rfl,tG,aL⟩;have eC:=DQ.o.row aL fR.o;have ae:=rnew HP.o vB hb.o hb.o.size aL;obtain⟨e0,e1,e2,e3⟩:=tG.cells;have qf:=h_ eC;have aF:=h_ ae;have DS:=h_ tG;clear c0 c1 c2 c3 aL Hk hb fR DQ eC ae e0 e1 tG;go_wp2;go_cut [9,10] (λs9 kG wx=>s9=.int .i64 L/\kG=.int .i64 D/\Hid (RdA wx p mb eb m3 d3)/\Hid (Fr (Z53 p eb) w3 wx))
    case first=>
     have H1:w3.drew.cell? ⟨mb,2,none⟩=some (.pointer (some ⟨p.lb,0,none⟩))/\w3.drew.cell? ⟨mb,3,none⟩=some (.pointer (some ⟨p.db,0,none⟩)):=⟨e2,e3⟩;have Si:RdA w3.drew p mb eb m1 d1:=DS.o.drew;clear vR xN qf aF DS HP qW el
     go_region_held3 (λW=>W.cell? ⟨mb,2,none⟩=some (.pointer (some ⟨p.lb,0,none⟩))/\W.cell? ⟨mb,3,none⟩=some (.pointer (some ⟨p.db,0,none⟩))) (first|with_reducible assumption|with_reducible exact H1)
      (first
       |(go_at_call 224;with_reducible refine(gW.o _ (by with_reducible assumption)).mono ?_;rintro r wa ⟨rfl,NG,Sj⟩;have UW:wa.cell? ⟨mb,2,none⟩=some (.pointer (some ⟨p.lb,0,none⟩))/\wa.cell? ⟨mb,3,none⟩=some (.pointer (some ⟨p.db,0,none⟩)):=⟨NG.cells.2.2.1,NG.cells.2.2.2⟩)
       |(go_at_call 224;with_reducible refine(vF.o _ (by with_reducible assumption)).mono ?_;rintro r wb ⟨rfl,IH,Fp⟩;have UX:wb.cell? ⟨mb,2,none⟩=some (.pointer (some ⟨p.lb,0,none⟩))/\wb.cell? ⟨mb,3,none⟩=some (.pointer (some ⟨p.db,0,none⟩)):=⟨IH.cells.2.2.1,IH.cells.2.2.2⟩))
     all_goals
      go_wp2;go_meet;case rel=>exact⟨rfl,rfl,h_ IH,h_ (((Fr.refl (Z53 p eb) w3).drew.trans Sj).trans Fp)⟩
    case rest=>
     obtain⟨rfl,rfl,II,IJ⟩:=hcut;have tI:=DS.o.row IJ.o qf.o;have nO:=rnew HP.o vB aF.o aF.o.size IJ.o;have qg:=h_ tI;have IK:=h_ nO;clear tI nO IJ qf aF DS gW vF e2 e3;cases aZ:badL n o L D with
     |true=>
      have DP:R=none:=by
       have:=vR.o;rw[aZ,if_pos rfl] at this;exact this.symm
      subst DP
      have hcs:L<0\/(¬L<0/\(271<L\/(¬271<L/\((n:Int)-(ol:Int)<L+2\/(¬(n:Int)-(ol:Int)<L+2/\(D<0\/(¬D<0/\(ol:Int)<=D))))))):=by
       unfold badL at aZ;rw[ng.o] at aZ;simp only[Bool.or_eq_true,decide_eq_true_iff] at aZ;omega
      have IL:ol<=4096:=(by have:=el.o;have:=ng.o;omega);clear aZ vR xN qW el qg II;have he:bs ([]:List UInt8)=⟨#[]⟩:=rfl;rcases hcs with h1|⟨h1,h2|⟨h2,h3|⟨h3,h4|⟨h4,h5⟩⟩⟩⟩
      all_goals
       go_wp2;go_returns;exact⟨rfl,IK.o⟩
     |false=>
      have hcs:0<=L/\L<=271/\L+2<=(n:Int)-(ol:Int)/\0<=D/\D<(ol:Int):=by
       unfold badL at aZ;rw[ng.o] at aZ;simp only[Bool.or_eq_false_iff,decide_eq_false_iff_not] at aZ;omega
      have qh:=vR.o;rw[aZ,if_neg (by decide)] at qh;obtain⟨a,rfl⟩:∃a:Nat,L=a:=⟨L.toNat,by omega⟩;obtain⟨b,rfl⟩:∃a:Nat,D=a:=⟨D.toNat,by omega⟩;rw[Int.toNat_natCast,Int.toNat_natCast] at qh;obtain⟨h1,h2,h3,h4,h5⟩:=hcs;have KH:¬(a:Int)<0:=(by omega);have Sk:¬(271:Int)<(a:Int):=(by omega);have Sl:¬(n:Int)-(ol:Int)<(a:Int)+2:=(by omega);have Sm:¬(b:Int)<0:=(by omega);have So:¬(ol:Int)<=(b:Int):=(by omega);have UY:ol+a+2<=n:=(by omega);have UZ:b<ol:=(by omega);have mj:((a+2:Nat):Int)=(a:Int)+2:=(by omega);obtain⟨N2,qZ⟩:∃x,a+2=x:=⟨_,rfl⟩;have Sp:(a:Int)+2=(N2:Int):=(by omega);rw[qZ] at qh;have IM:=h_ qh;have ez:Hid (Z39 (b+1) (N2-0) o=Z39 (b+1) N2 o):=h_ (by rw[Nat.sub_zero]);have IL:ol<=4096:=(by have:=el.o;have:=ng.o;omega);have Sq:N2<=4096:=(by omega);have Sr:n<=ol+f1+1:=(by have:=qW.o;have:=ng.o;omega);have V0:ol+N2<=n:=(by omega);clear aZ vR qh h1 h2 h3 h4 h5 mj qW el;go_wp2;clear KH Sk Sl Sm So;go_loopw [8,65] (λs8 IN wy=>∃(j:Nat) (o':List UInt8) (ov:Value),j<=N2/\IN=.int .i64 (j:Int)/\s8=ov/\Hid (o'.length=ol+j)/\Hid (Z39 (b+1) (N2-j) o'=Z39 (b+1) N2 o)/\Hid (wy.ownsRow w.heap.size 5 1 ov o'.length (o'.map bv))/\Hid (RdA wy p mb eb m3 d3)/\Hid (Below w.heap.size w wy)) (λ_ IN _=>(N2-intOf IN).toNat);case atStart=>exact⟨0,o,_,Nat.zero_le _,rfl,rfl,h_ (by rw[Nat.add_zero];exact ng.o),ez,h_ (by rw[ng.o];exact qg.o),II,IK⟩
      case round=>
       clear ez qg II IK;obtain⟨j,o',ov,hj,rfl,rfl,iW,tu,aU,hW,hb⟩:=hrel;obtain⟨lj,o8⟩:∃x,o'.length=x:=⟨_,rfl⟩;have Bt:lj=ol+j:=(by rw[<-o8];exact iW.o);obtain⟨g,bh,rfl,fB⟩:=Z3S aU.o (by rw[o8];omega);have cN:=aU.o;rw[o8] at cN⊢;by_cases cK:j<N2
       ·obtain⟨r,hr⟩:∃r,N2-j=r+1:=⟨N2-j-1,by omega⟩;have jP:=tu.o;rw[hr,Zdm,o8] at jP;obtain⟨ix,NH⟩:∃x,lj-(b+1)=x:=⟨_,rfl⟩;rw[NH] at jP;obtain⟨c,hc⟩:∃x,o'.getD ix 0=x:=⟨_,rfl⟩;rw[hc] at jP;have Bu:ix<lj:=(by omega)
        have NI:(o'.map bv)[ix]? =some (.int .u8 (c.toNat:Int)):=by
         rw[List.getElem?_map,List.getElem?_eq_getElem (by rw[o8];exact Bu),<-hc];simp[List.getD,bv,o8,Bu]
        obtain⟨cc,_⟩:=Z3R cN ix _ NI;have Ss:(lj:Int)-(b:Int)-1=(ix:Int):=(by omega);have Su:(ix:Int)<(lj:Int):=(by omega);have Sv:(0:Int)<=(ix:Int):=(by omega);have IP:(j:Int)<(N2:Int):=(by omega);have Sw:lj<=10000:=(by omega);obtain⟨v',w5,NJ,dW,aM,dK⟩:=Z1X (P:=Tryz.prog) 115 5 _ _ Tryz.underlying115 ZkH rfl cN hb.o hb.o.size (.int .u8 (c.toNat:Int)) rfl (by unfold maxLen;omega) (by omega);rw[ZgX] at dW;have cj:lj+1=(o'++[c]).length:=(by rw[List.length_append,List.length_singleton,o8]);rw[cj] at dW;have pW:=h_ (hW.o.keep dK);have qe:=h_ dW;have bO:=h_ aM;have ao:=h_ NJ;have IQ:Hid ((o'++[c]).length=ol+(j+1)):=h_ (by rw[<-cj];omega);have IR:Hid (Z39 (b+1) (N2-(j+1)) (o'++[c])=Z39 (b+1) N2 o):=h_ (by rw[show N2-(j+1)=r by omega];exact jP);obtain⟨A5,M5,bk,rfl⟩:=Z0c dW;generalize (c.toNat:Int)=C at*;clear iW tu aU hW hb cN hr jP NH hc NI NJ dW aM dK cj o8 Bt fB;go_wp2_with (at_builtin;refine Z04 (by with_reducible rfl) rfl _ _ _ rfl _ _ (by rfl) (by rfl) ao.o ?_);refine⟨⟨j+1,_,_,cK,by go_num,rfl,IQ,IR,qe,pW,bO⟩,?_⟩;simp[intOf]<;>omega
       ·have im:j=N2:=(by omega);subst im;have jP:=tu.o;rw[Nat.sub_self] at jP;have Bv:o'=Z39 (b+1) j o:=jP;have IP:¬(j:Int)<(j:Int):=(by omega);have IS:Hid (rdP f1 n o' m3 d3=R):=h_ (by rw[Bv];exact IM.o);have IT:Hid (n<=o'.length+f1):=h_ (by rw[o8];omega);have lC:Hid (o'.length<=n):=h_ (by rw[o8];omega);have IE:Hid (n-lj<n-ol):=h_ (by omega);have Bw:Hid (wr.ownsRow w.heap.size 5 1 (.slice (some ⟨g,0,none⟩) lj bh) o'.length (o'.map bv)):=h_ (by rw[o8];exact cN);clear iW tu jP Bv o8 Bt fB cN;go_wp2;refine⟨⟨f1,o',m3,d3,_,rfl,hW,xN,IS,IT,lC,Bw,hb⟩,?_⟩;exact IE.o
  ·have Sx:o.length=n:=(by have:=el.o;omega);have SH:R=some o:=(by rw[<-xR.o];exact Zmp ab);subst SH;have gL:¬(ol:Int)<(n:Int):=(by omega);have ew:=Zb9 (P:=Tryz.prog) 115 9 5 Tryz.underlying115 Tryz.underlying5 Tryz.underlying9 aU.o;rw[fG] at ew⊢;have Bx:optB (some o)=.tuple #[.string (bs o),.bool true]:=rfl;have IU:=h_ Bx;generalize bs o=OS at*;clear hW lW xR qW el aU Bx Sx ab;go_wp2;go_returns;rw[IU.o];exact⟨rfl,hb.o⟩
end Go.Proofs.YtchokmkfobandaaGreatDoor
namespace Wv.Lz
open Wv.Rc
theorem Zmq:∀(f n:Nat) (o:List UInt8) (m:Ms) (d:De) (s:List UInt8),o.length<=n->rdP f n o m d=some s->s.length<=n:=by
 intro f;induction f with
 |zero=>intro n o m d s h hs;injection hs with hs;rw[<-hs];exact h
 |succ f ih=>
  intro n o m d s h hs;rw[rdP] at hs;split at hs
  ·split at hs
   ·exact ih n _ _ _ s (by rw[List.length_append,List.length_singleton];omega) hs
   ·split at hs
    ·cases hs
    ·rename_i hb;refine ih n _ _ _ s ?_ hs
     have key:∀(d k:Nat) (o:List UInt8),(Z39 d k o).length=o.length+k:=by
      intro d k;induction k with
      |zero=>intro o;rfl
      |succ k ih=>intro o;show(Z39 d k (o++_)).length=_;rw[ih,List.length_append,List.length_singleton];omega
     rw[key];unfold badL at hb;simp only[Bool.or_eq_true,decide_eq_true_iff,not_or] at hb;omega
  ·injection hs with hs;rw[<-hs];exact h
end Wv.Lz
namespace Go.Proofs.YtchokmkfobandaaGreatDoor
open Go.RowKit Go.Proofs Wv Wv.Vi Wv.Rc Wv.Mo Wv.Ru Wv.Lz
theorem Zc1 (a b:List UInt8):(((bs a).toList !=(bs b).toList)= !decide (a=b))/\(((bs a).toList==(bs b).toList)=decide (a=b)):=by
 have h2:((bs a).toList==(bs b).toList)=decide (a=b):=by
  rw[Bool.eq_iff_iff,beq_iff_eq,decide_eq_true_iff,ByteArray.toList_eq,ByteArray.toList_eq];exact Iff.rfl
 exact⟨by rw[bne,h2],h2⟩
def lzV (x:List UInt8×Nat):Value:=.tuple #[.string (bs x.1),.int .i64 (x.2:Int)]
theorem Z4V (data:List UInt8) (hd:data.length<=1000000000) (most:Int) (w:World):
  Calls Tryz.prog 139 #[.string (bs data),.int .i64 most] w λx w'=>x=.returned (lzV (lzD data most))/\Below w.heap.size w w':=by
 have Hv:=h_ (Z0M (bs data) w);have ad:(bs data).size<=1099511627776:=(by rw[Z00];omega);have Hn:=h_ (λ(W:World) (b:Nat) (h:RV W b (bs data) 0)=>Z0h h ad 4096);have he:bs ([]:List UInt8)=⟨#[]⟩:=rfl
 have hD:lzD data most=match rnum data 4096 with
  |none=>([],12)
  |some (n,r)=>if most<(n:Int) then([],2) else match lzR r n with
   |none=>([],12)
   |some s=>if lzE s=some data then(s,0) else([],12):=rfl
 obtain⟨RD,vS⟩:∃R,lzD data most=R:=⟨_,rfl⟩;rw[vS] at hD⊢;cases hr:rnum data 4096 with
 |none=>
  rw[hr] at hD;simp only at hD;subst hD;obtain⟨e,eB,cF⟩:=Z8U hr;rw[show((4096:Nat):Int)=4096 from rfl] at cF;rw[cF] at Hn;have ay:((e:Int) !=0)=true:=(by rw[bne_iff_ne];omega);have qi:lzV ([],12)=.tuple #[.string ⟨#[]⟩,.int .i64 12]:=rfl;rw[qi];generalize bs data=S at*;clear hr vS he cF hd qi;go_enter Tryz.func139,Tryz.ntmps139;go_wp2_with fail;refine(Hv.o).mono ?_;rintro x w1 ⟨rfl,h1,a7⟩;go_wp2_with fail;refine(Hn.o _ _ h1).mono ?_;rintro x w2 ⟨rfl,h2,ah⟩;have gO:=h_ (Z0a h2);have a8:=Z0I a7 (Nat.le_refl _) ah;go_wp2_with fail;refine(gO.o).mono ?_;rintro x w3 ⟨rfl,rfl⟩;go_wp2;go_returns;exact⟨rfl,a8⟩
 |some q=>
  obtain⟨n,r⟩:=q;rw[hr] at hD;simp only at hD;obtain⟨k1,k2,k3⟩:=Z4D hr;rw[show((4096:Nat):Int)=4096 from rfl] at k1;rw[k1] at Hn;simp only at Hn;by_cases mG:most<(n:Int)
  ·rw[if_pos mG] at hD;subst hD;have qi:lzV ([],2)=.tuple #[.string ⟨#[]⟩,.int .i64 2]:=rfl;rw[qi];generalize bs data=S at*;generalize bs r=RS at*;clear hr vS k1 hd qi;go_enter Tryz.func139,Tryz.ntmps139;go_wp2_with fail;refine(Hv.o).mono ?_;rintro x w1 ⟨rfl,h1,a7⟩;go_wp2_with fail;refine(Hn.o _ _ h1).mono ?_;rintro x w2 ⟨rfl,h2,ah⟩;have gO:=h_ (Z0a h2);have a8:=Z0I a7 (Nat.le_refl _) ah;go_wp2_with fail;refine(gO.o).mono ?_;rintro x w3 ⟨rfl,rfl⟩;go_wp2;go_returns;exact⟨rfl,a8⟩
  ·rw[if_neg mG] at hD;have rk:(bs r).size=r.length:=Z00 r
   have ax:Z0C (bs r) 0 (r.length:Int)=(bs r,bs [],0):=by
    rw[Z5J (Nat.le_refl _),List.take_length,List.drop_length]
   have gW:=h_ (λ(W:World) (b:Nat) (h:RV W b (bs r) 0)=>Z0r h (by rw[rk];omega));have xT:=h_ (λ(W:World) (b:Nat) (h:RV W b (bs r) 0)=>Z0s h (by rw[rk];omega) (r.length:Int));rw[ax] at xT;rw[rk] at gW;simp only at xT;have ll:=h_ (λW=>Zdn r n k2 W);have cT:r.length<=1000000000:=(by omega);generalize iN:bs r=RS at*;cases hR:lzR r n with
   |none=>
    rw[hR] at hD ll;simp only at hD;subst hD;have qi:lzV ([],12)=.tuple #[.string ⟨#[]⟩,.int .i64 12]:=rfl;have fM:optB none=.tuple #[.string ⟨#[]⟩,.bool false]:=rfl;rw[fM] at ll;rw[qi];generalize bs data=S at*;generalize bs ([]:List UInt8)=E0 at*;clear hr vS k1 hd qi rk ax iN hR fM;go_enter Tryz.func139,Tryz.ntmps139;go_wp2_with fail;refine(Hv.o).mono ?_;rintro x w1 ⟨rfl,h1,a7⟩;go_wp2_with fail;refine(Hn.o _ _ h1).mono ?_;rintro x w2 ⟨rfl,h2,ah⟩;have gO:=h_ (Z0a h2);have a8:=Z0I a7 (Nat.le_refl _) ah;go_wp2_with fail;refine(gO.o).mono ?_;rintro x w3 ⟨rfl,rfl⟩;go_wp2_with fail;refine(gW.o _ _ h2).mono ?_;rintro x w3 ⟨rfl,rfl⟩;go_wp2_with fail;refine(xT.o _ _ h2).mono ?_;rintro x w3 ⟨rfl,h3,aL⟩;have ae:=Z0I a8 (Nat.le_refl _) aL;clear h1 h2 h3 ah aL a7 a8;go_wp2_with fail;refine(ll.o _).mono ?_;rintro x w4 ⟨rfl,aw⟩;have hb:=h_ (ae.trans (aw.mono ae.size));clear ae aw;go_wp2;go_returns;exact⟨rfl,hb.o⟩
   |some s=>
    rw[hR] at hD ll;simp only at hD;have fM:optB (some s)=.tuple #[.string (bs s),.bool true]:=rfl;rw[fM] at ll
    have hsl:s.length<=1000000000:=by
     have:=Zmq n n [] m0 (d0 r) s (Nat.zero_le _) hR;omega
    have gR:=h_ (λW=>Z4U s hsl W);cases hE:lzE s with
    |none=>
     rw[hE,if_neg (by simp)] at hD;subst hD;have dB:optV none=.tuple #[.string ⟨#[]⟩,.int .i64 9]:=rfl;rw[hE,dB] at gR;have qi:lzV ([],12)=.tuple #[.string ⟨#[]⟩,.int .i64 12]:=rfl;rw[qi];generalize bs data=S at*;generalize bs s=SS at*;generalize bs ([]:List UInt8)=E0 at*;clear hr vS k1 hd qi rk ax iN hR fM hE dB hsl;go_enter Tryz.func139,Tryz.ntmps139;go_wp2_with fail;refine(Hv.o).mono ?_;rintro x w1 ⟨rfl,h1,a7⟩;go_wp2_with fail;refine(Hn.o _ _ h1).mono ?_;rintro x w2 ⟨rfl,h2,ah⟩;have gO:=h_ (Z0a h2);have a8:=Z0I a7 (Nat.le_refl _) ah;go_wp2_with fail;refine(gO.o).mono ?_;rintro x w3 ⟨rfl,rfl⟩;go_wp2_with fail;refine(gW.o _ _ h2).mono ?_;rintro x w3 ⟨rfl,rfl⟩;go_wp2_with fail;refine(xT.o _ _ h2).mono ?_;rintro x w3 ⟨rfl,h3,aL⟩;have ae:=Z0I a8 (Nat.le_refl _) aL;clear h1 h2 h3 ah aL a7 a8;go_wp2_with fail;refine(ll.o _).mono ?_;rintro x w4 ⟨rfl,aw⟩;have hb:=ae.trans (aw.mono ae.size);clear ae aw;go_wp2_with fail;refine(gR.o _).mono ?_;rintro x w5 ⟨rfl,aM⟩;have aQ:=h_ (hb.trans (aM.mono hb.size));clear hb aM;go_wp2;go_returns;exact⟨rfl,aQ.o⟩
    |some t=>
     have dB:optV (some t)=.tuple #[.string (bs t),.int .i64 0]:=rfl;rw[hE,dB] at gR;rw[hE] at hD;obtain⟨q1,q2⟩:=Zc1 t data
     have vU:lzV RD=if t=data then .tuple #[.string (bs s),.int .i64 0] else .tuple #[.string ⟨#[]⟩,.int .i64 12]:=by
      rw[hD];by_cases h:t=data
      ·rw[if_pos (by rw[h]),if_pos h];rfl
      ·rw[if_neg (by simpa using h),if_neg h];rfl
     rw[vU];by_cases xU:t=data
     ·rw[if_pos xU];rw[decide_eq_true xU] at q1 q2;generalize bs data=S at*;generalize bs s=SS at*;generalize bs t=TT at*;generalize bs ([]:List UInt8)=E0 at*;clear hr vS k1 hd rk ax iN hR fM hE dB hsl vU hD xU;go_enter Tryz.func139,Tryz.ntmps139;go_wp2_with fail;refine(Hv.o).mono ?_;rintro x w1 ⟨rfl,h1,a7⟩;go_wp2_with fail;refine(Hn.o _ _ h1).mono ?_;rintro x w2 ⟨rfl,h2,ah⟩;have gO:=h_ (Z0a h2);have a8:=Z0I a7 (Nat.le_refl _) ah;go_wp2_with fail;refine(gO.o).mono ?_;rintro x w3 ⟨rfl,rfl⟩;go_wp2_with fail;refine(gW.o _ _ h2).mono ?_;rintro x w3 ⟨rfl,rfl⟩;go_wp2_with fail;refine(xT.o _ _ h2).mono ?_;rintro x w3 ⟨rfl,h3,aL⟩;have ae:=Z0I a8 (Nat.le_refl _) aL;clear h1 h2 h3 ah aL a7 a8;go_wp2_with fail;refine(ll.o _).mono ?_;rintro x w4 ⟨rfl,aw⟩;have hb:=ae.trans (aw.mono ae.size);clear ae aw;go_wp2_with fail;refine(gR.o _).mono ?_;rintro x w5 ⟨rfl,aM⟩;have aQ:=h_ (hb.trans (aM.mono hb.size));clear hb aM;go_wp2;go_returns;exact⟨rfl,aQ.o⟩
     ·rw[if_neg xU];rw[decide_eq_false xU] at q1 q2;generalize bs data=S at*;generalize bs s=SS at*;generalize bs t=TT at*;generalize bs ([]:List UInt8)=E0 at*;clear hr vS k1 hd rk ax iN hR fM hE dB hsl vU hD xU;go_enter Tryz.func139,Tryz.ntmps139;go_wp2_with fail;refine(Hv.o).mono ?_;rintro x w1 ⟨rfl,h1,a7⟩;go_wp2_with fail;refine(Hn.o _ _ h1).mono ?_;rintro x w2 ⟨rfl,h2,ah⟩;have gO:=h_ (Z0a h2);have a8:=Z0I a7 (Nat.le_refl _) ah;go_wp2_with fail;refine(gO.o).mono ?_;rintro x w3 ⟨rfl,rfl⟩;go_wp2_with fail;refine(gW.o _ _ h2).mono ?_;rintro x w3 ⟨rfl,rfl⟩;go_wp2_with fail;refine(xT.o _ _ h2).mono ?_;rintro x w3 ⟨rfl,h3,aL⟩;have ae:=Z0I a8 (Nat.le_refl _) aL;clear h1 h2 h3 ah aL a7 a8;go_wp2_with fail;refine(ll.o _).mono ?_;rintro x w4 ⟨rfl,aw⟩;have hb:=ae.trans (aw.mono ae.size);clear ae aw;go_wp2_with fail;refine(gR.o _).mono ?_;rintro x w5 ⟨rfl,aM⟩;have aQ:=h_ (hb.trans (aM.mono hb.size));clear hb aM;go_wp2;go_returns;exact⟨rfl,aQ.o⟩
end Go.Proofs.YtchokmkfobandaaGreatDoor
