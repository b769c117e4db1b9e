import Derived.Test.YtchokmkfobandaaGreatDoorM25
import Derived.Test.YtchokmkfobandaaGreatDoorM24
import Derived.Sort.OwnSortedInts
set_option linter.unusedVariables false
set_option linter.unusedSimpArgs false
set_option maxRecDepth 100000
set_option maxHeartbeats 8000000
namespace Go.Proofs.YtchokmkfobandaaGreatDoor
open Go.RowKit Go.Proofs Wv Wv.Vi Wv.Rc Wv.Mo Wv.Ru Wv.Tm
def fC0 (r:Nat):Value:=.func (.func 48) #[] #[.pointer (some ⟨r+1,0,none⟩),.pointer (some ⟨r,0,none⟩)]
def fC1 (r:Nat):Value:=.func (.func 51) #[] #[.pointer (some ⟨r,0,none⟩),.pointer (some ⟨r+1,0,none⟩)]
def fC2 (r:Nat):Value:=.func (.func 55) #[] #[.pointer (some ⟨r,0,none⟩)]
theorem X7 {w:World} {v:Value} {l:List Int} (h:IRes w v l):∃A cap,v=.slice A l.length cap/\At w A (ivs l):=h
structure CdSt (W:World) (r:Nat) (A:Option Addr) (n cap:Nat) (l:List Int):Prop where
 c1:W.cell? ⟨r,0,none⟩=some (.slice A n cap)
 c2:W.cell? ⟨r+1,0,none⟩=some (.func (.func 46) #[] #[])
 at_:At W A (ivs l)
theorem CdSt.below {W W':World} {r:Nat} {A:Option Addr} {n cap:Nat} {l:List Int} (h:CdSt W r A n cap l) (hb:Below W.heap.size W W'):CdSt W' r A n cap l:=
 ⟨(hb.cell (World.block_lt_of_cell? W _ h.c1)).trans h.c1,(hb.cell (World.block_lt_of_cell? W _ h.c2)).trans h.c2,h.at_.below hb⟩
theorem Z5o {w:World} {A:Option Addr} {l:List Int} (ha:At w A (ivs l)) (n cap:Nat):
  Calls Tryz.prog 32 #[.slice A n cap] w λx w'=>x=.returned (.slice (some ⟨w.heap.size+1+1,0,none⟩) 3 3)/\w'.cell? ⟨w.heap.size+1+1,0,none⟩=some (fC0 w.heap.size)/\w'.cell? ⟨w.heap.size+1+1,1,none⟩=some (fC1 w.heap.size)/\w'.cell? ⟨w.heap.size+1+1,2,none⟩=some (fC2 w.heap.size)/\CdSt w' w.heap.size A n cap l/\Below w.heap.size w w':=by
 have Ha:=h_ ha;clear ha;go_enter Tryz.func32,Tryz.ntmps32;go_wp2;go_ret;have bk:=((Bk.new w 31 #[.slice A n cap]).alloc (.cells #[.func (.func 46) #[] #[]] 93));have cK:=Bk.new (w.alloc (.cells #[.slice A n cap] 31)) 93 #[.func (.func 46) #[] #[]];have eN:=Bk.new ((w.alloc (.cells #[.slice A n cap] 31)).alloc (.cells #[.func (.func 46) #[] #[]] 93)) 63 #[fC0 w.heap.size,fC1 w.heap.size,fC2 w.heap.size];rw[World.size_alloc] at cK;rw[World.size_alloc,World.size_alloc] at eN;have hb:=(((Vae w.heap.size w).alloc UZz (.cells #[.slice A n cap] 31)).alloc (by simp) (.cells #[.func (.func 46) #[] #[]] 93)).alloc (by simp;omega) (.cells #[fC0 w.heap.size,fC1 w.heap.size,fC2 w.heap.size] 63);exact⟨rfl,eN.cell 0,eN.cell 1,eN.cell 2,⟨(bk.alloc _).cell 0,(cK.alloc _).cell 0,Ha.o.below hb⟩,hb⟩
theorem Z5p {G:List Int} (h:∀g∈G,0<=g/\g<=1099511627776):(G.map Int.toNat).map Int.ofNat=G:=by
 rw[Vb7];conv=>rhs;rw[<-List.map_id G]
 exact List.map_congr_left (λg hg=>Int.toNat_of_nonneg (h g hg).1)
theorem Z28 {w:World} {A:Option Addr} {G:List Int} (ha:At w A (ivs G)) (n cap:Nat) (hn:n=G.length) (hl:G.length<=4096) (hG:∀g∈G,0<=g/\g<=1099511627776):
  Calls Tryz.prog 46 #[.slice A n cap] w λx w'=>x=.returned (.string (bs (ZI G)))/\Below w.heap.size w w':=by
 rw[<-Z5p hG] at ha
 have He:=h_ (Yx ha n cap (by rw[Vag];exact hn) (by rw[Vag];exact hl) (λv hv=>by
  obtain⟨g,hg,rfl⟩:=Va6.1 hv;have:=hG g hg;omega))
 have hs:encn (G.map Int.toNat)=ZI G:=rfl;rw[hs] at He;clear ha hn hl hG hs;generalize bs (ZI G)=S at*;go_enter Tryz.func46,Tryz.ntmps46;go_wp2_with fail;refine(He.o).mono ?_;rintro x w1 ⟨rfl,hb⟩;go_wp2;go_ret;exact⟨rfl,hb⟩
theorem ZiE {w W:World} {r:Nat} {A:Option Addr} {n cap:Nat} {l:List Int} (h:W.cell? ⟨r,0,none⟩=some (.slice A n cap)/\W.cell? ⟨r+1,0,none⟩=some (.func (.func 46) #[] #[])/\CdSt W r A n cap l/\Below w.heap.size w W):Below w.heap.size w W:=h.2.2.2
theorem ZcD {w:World} {r:Nat} {A:Option Addr} {n cap:Nat} {l:List Int} (h:CdSt w r A n cap l) (hn:n=l.length) (hv:Ze l=true):
  Calls Tryz.prog 48 #[.pointer (some ⟨r+1,0,none⟩),.pointer (some ⟨r,0,none⟩)] w λx w'=>x=.returned (.string (bs (cod0 l)))/\Below w.heap.size w w':=by
 have Bm:=h_ (λW=>Zh 0 (by omega) (by omega) W);have oh:=Yd hv;obtain⟨_,_,v3⟩:=Z9.1 hv;have mQ:Hid (∀W,(W.cell? ⟨r,0,none⟩=some (.slice A n cap)/\W.cell? ⟨r+1,0,none⟩=some (.func (.func 46) #[] #[])/\CdSt W r A n cap l/\Below w.heap.size w W)->Calls Tryz.prog 50 #[.slice A n cap] W λx w'=>∃v,x=.returned v/\IRes w' v (Z7 l)/\Below W.heap.size W w'):=h_ (λW hW=>Z0n hW.2.2.1.at_ n cap hn hv);have Ee:Hid (∀W A2 c2,At W A2 (ivs (Z7 l))->Calls Tryz.prog 46 #[.slice A2 (Z7 l).length c2] W λx w'=>x=.returned (.string (bs (ZI (Z7 l))))/\Below W.heap.size W w'):=h_ (λW A2 c2 h2=>Z28 h2 _ c2 rfl (by unfold Z7;rw[ZX];exact v3) (Xi hv));have ly:bs (cod0 l)=bs (num (0:Int).toNat)++bs (ZI (Z7 l)):=(by rw[Zf];rfl);rw[ly];have bO:(bs (num (0:Int).toNat)).size<=9:=(by rw[Z0,Z8];have:=Y9 (0:Int).toNat;omega);have eF:(bs (ZI (Z7 l))).size<=600000:=(by rw[Z0];exact oh);generalize bs (num (0:Int).toNat)=S0 at*;generalize bs (ZI (Z7 l))=S1 at*;generalize Z7 l=G at*
 have ad:(9223372036854775807<S0.size+S1.size)=False:=by
  rw[eq_iff_iff,iff_false];omega
 have H1:CdSt w.drew r A n cap l:=h.below ((Vae _ _).drew);have H2:w.drew.cell? ⟨r,0,none⟩=some (.slice A n cap)/\w.drew.cell? ⟨r+1,0,none⟩=some (.func (.func 46) #[] #[])/\CdSt w.drew r A n cap l/\Below w.heap.size w w.drew:=⟨H1.c1,H1.c2,H1,(Vae _ _).drew⟩;have keep:∀(W W':World),(W.cell? ⟨r,0,none⟩=some (.slice A n cap)/\W.cell? ⟨r+1,0,none⟩=some (.func (.func 46) #[] #[])/\CdSt W r A n cap l/\Below w.heap.size w W)->Below W.heap.size W W'->(W'.cell? ⟨r,0,none⟩=some (.slice A n cap)/\W'.cell? ⟨r+1,0,none⟩=some (.func (.func 46) #[] #[])/\CdSt W' r A n cap l/\Below w.heap.size w W'):=λW W' h1 h2=>⟨(h1.2.2.1.below h2).c1,(h1.2.2.1.below h2).c2,h1.2.2.1.below h2,h1.2.2.2.trans (h2.mono h1.2.2.2.size)⟩;have sI:=h_ keep;clear hn hv v3 oh ly h H1 keep;go_enter Tryz.func48,Tryz.ntmps48;go_wp2
 go_region_held3 (λW=>W.cell? ⟨r,0,none⟩=some (.slice A n cap)/\W.cell? ⟨r+1,0,none⟩=some (.func (.func 46) #[] #[])/\CdSt W r A n cap l/\Below w.heap.size w W) (first|exact H2|assumption|exact sI.out _ _ (by assumption) (by assumption))
  (first
   |(go_at_call 49;with_reducible refine(Bm.o _).mono ?_;rintro q wn ⟨rfl,cU⟩)
   |(go_at_call 50;with_reducible refine(mQ.o _ (by assumption)).mono ?_;rintro q wg ⟨vg,rfl,yt,vU⟩;obtain⟨Ag,Bn,ql,lz⟩:=X7 yt;subst ql)
   |(go_at_call 46;with_reducible refine(Ee.o _ _ _ (by first|exact lz|exact lz.below cU)).mono ?_;rintro q wu ⟨rfl,Ii⟩))
 all_goals
  go_wp2;go_ret;exact⟨rfl,ZiE (r:=r) (A:=A) (n:=n) (cap:=cap) (l:=l) (by assumption)⟩
theorem ZcE {G:List Int} {k:Nat} (h:k<G.length):txts (G.take (k+1))=txts (G.take k)++[bs (num G[k].toNat)]:=by
 unfold txts;rw[Vac h,Vbk];rfl
theorem ZcF (l:List ByteArray) (s:ByteArray):svs (l++[s])=svs l++[.string s]:=by simp[svs,sv]
theorem ZcG {w:World} {r:Nat} {A:Option Addr} {n cap:Nat} {l:List Int} (h:CdSt w r A n cap l) (hn:n=l.length) (hv:Ze l=true):
  Calls Tryz.prog 55 #[.pointer (some ⟨r,0,none⟩)] w λx w'=>x=.returned (.string (bs (cod2 l)))/\Below w.heap.size w w':=by
 obtain⟨rB,tD⟩:=Z7T hv;obtain⟨_,_,v3⟩:=Z9.1 hv;have rr:(Z7 l).length<=4096:=(by unfold Z7;rw[ZX];exact v3);have hg:=Xi hv;have mQ:=h_ (Z0n h.at_ n cap hn hv);have Te:=h_ (λW=>Zh 2 (by omega) (by omega) W);have ly:bs (cod2 l)=bs (num (2:Int).toNat)++bs (enc (txts (Z7 l))).1:=(by rw[Zf];rfl);rw[ly];have c1:=h.c1;have gR:∀s∈txts (Z7 l),s.size<=9223372036854775807:=λs hs=>(by have:=Z1Y _ s hs;omega);generalize Z7 l=G at*;have bO:(bs (num (2:Int).toNat)).size<=9:=(by rw[Z0,Z8];have:=Y9 (2:Int).toNat;omega);have eF:(bs (enc (txts G)).1).size<=2000000:=(by rw[Z0];exact tD);generalize bs (num (2:Int).toNat)=S0 at*;obtain⟨SE,Iw⟩:∃S,bs (enc (txts G)).1=S:=⟨_,rfl⟩;rw[Iw] at eF⊢;have ic:Hid (∀(W:World) (A2:Option Addr) (c2:Nat),At W A2 (svs (txts G))->Calls Tryz.prog 34 #[.slice A2 (txts G).length c2] W λx w'=>x=.returned (.tuple #[.string SE,.int .i64 0])/\Below W.heap.size W w'):=h_ (λW A2 c2 h2=>(Yt h2 gR (txts G).length c2 rfl (by rw[X5];omega)).mono λx w' ⟨h1,h2⟩=>⟨by rw[h1,Iw,rB];rfl,h2⟩);have Hg:=h_ hg;have gk:=X5 G;have E8:=h_ gk;obtain⟨N,hN⟩:∃N,G.length=N:=⟨_,rfl⟩;have HN:=h_ hN;rw[hN] at rr;clear hn hv v3 tD ly h hg gR gk rB Iw
 have MZ:Hid (∀k,k<N->∃g:Nat,G[k]? =some (g:Int)/\g<=1099511627776/\txts (G.take (k+1))=txts (G.take k)++[bs (num g)]):=h_ (λk hk=>by
  have cK:k<G.length:=(by omega);have:=Hg.o G[k] (Vaj _);refine⟨G[k].toNat,?_,by omega,ZcE cK⟩;rw[Vao cK,Int.toNat_of_nonneg this.1])
 go_enter Tryz.func55,Tryz.ntmps55;go_wp2_with fail;refine(mQ.o).mono ?_;rintro x w1 ⟨v,rfl,yt,a7⟩;obtain⟨Ag,Bn,ql,lz⟩:=X7 yt;subst ql;rw[hN];have bJ:=h_ lz;have al:=h_ a7;clear lz yt a7 c1 mQ hN;go_wp2;go_loopw [2,10] (λs2 lh wr=>∃k:Nat,k<=N/\lh=.int .i64 (k:Int)/\Hid (wr.ownsRow w1.heap.size 9 1 s2 (txts (G.take k)).length (svs (txts (G.take k))))/\Hid (Below w1.heap.size w1 wr)) (λ_ lh _=>(N-intOf lh).toNat);case atStart=>exact⟨0,Var _,rfl,h_ Zk,h_ (Vae _ _)⟩
 case round=>
  obtain⟨k,hk,rfl,aa,eo⟩:=hrel;by_cases ab:k<N
  ·obtain⟨g,wh,du,cj⟩:=MZ.o k ab;have bu:(ivs G)[k]? =some (.int .i64 (g:Int)):=(by unfold ivs;rw[Vbc,wh];rfl);obtain⟨b',o',hA,eR,hc⟩:=(bJ.o.below eo.o).get k _ bu;subst hA;have dw:(k:Int)<(N:Int):=(by omega);have Ee:=h_ (λW=>Zh (g:Int) (by omega) (by omega) W);rw[Vav] at Ee;have Ia:=h_ cj;have ec:Hid ((txts (G.take k)).length<=4096):=h_ (by rw[X5,Vau,HN.o];omega);clear wh cj bu eR;go_wp2_with fail;refine(Ee.o _).mono ?_;rintro x w3 ⟨rfl,af⟩;have dL:=Zl aa.o (Fr.of_below (S:=nob) af) (λg hg h=>h);have au:=eo.o.trans (af.mono eo.o.size);have da:=ec.o;obtain⟨v',w4,ag,ah,aC,_⟩:=Yr (P:=Tryz.prog) 64 9 _ _ Tryz.underlying64 YC rfl dL au au.size (.string (bs (num g))) rfl (by unfold maxLen;omega) (by omega);have ar:=h_ ag
   have aJ:Hid (w4.ownsRow w1.heap.size 9 1 v' (txts (G.take (k+1))).length (svs (txts (G.take (k+1))))):=h_ (by
    rw[Ia.o,Vab,ZcF];exact ah)
   have cS:=h_ aC;clear ag ah aC aa eo dL au af da;generalize bs (num g)=SN at*
   go_wp2_with (
    at_builtin;refine Z4 (by with_reducible rfl) rfl _ _ _ rfl _ _ (by rfl) (by rfl) ar.o ?_)
   refine⟨⟨k+1,ab,by go_num,aJ,cS⟩,?_⟩;simp[intOf]<;>omega
  ·have Bo:k=N:=(by omega);subst Bo;obtain⟨W5,rfl⟩:∃W,W=wr:=⟨_,rfl⟩;have ax:G.take k=G:=Vai (by rw[HN.o];exact UZz);have jy:=aa.o;rw[ax] at jy;obtain⟨A9,iF,qg,fA⟩:=Zm jy;subst qg;have He:=h_ (ic.o _ _ iF fA);have jX:=h_ (al.o.trans (eo.o.mono al.o.size));clear ax aa jy fA ic eo al bJ MZ Hg;go_wp2_with fail;refine(He.o).mono ?_;rintro x w6 ⟨rfl,bQ⟩;have cQ:=h_ (jX.o.trans (bQ.mono jX.o.size));clear bQ;go_wp2_with fail;refine(Te.o _).mono ?_;rintro x w7 ⟨rfl,eA⟩;have oz:=h_ (cQ.o.trans (eA.mono cQ.o.size));clear eA;go_wp2;go_ret;exact⟨rfl,oz.o⟩
def C1S (w:World) (R r:Nat) (st f s n:Int) (A4:Option Addr) (m:List Int) (A5:Option Addr) (x:List Int) (W:World):Prop:=
 W.cell? ⟨R,0,none⟩=some (.int .i64 st)/\W.cell? ⟨R,1,none⟩=some (.int .i64 f)/\W.cell? ⟨R,2,none⟩=some (.int .i64 s)/\W.cell? ⟨R,3,none⟩=some (.int .i64 n)/\W.cell? ⟨r+1,0,none⟩=some (.func (.func 46) #[] #[])/\At W A4 (ivs m)/\At W A5 (ivs x)/\Below w.heap.size w W
theorem C1S.below {w W W':World} {R r:Nat} {st f s n:Int} {A4 A5:Option Addr} {m x:List Int} (h:C1S w R r st f s n A4 m A5 x W) (hb:Below W.heap.size W W'):C1S w R r st f s n A4 m A5 x W':=by
 obtain⟨h1,h2,h3,h4,h5,h6,h7,h8⟩:=h;have k:∀ {p:Addr} {v:Value},W.cell? p=some v->W'.cell? p=some v:=λ{p v} h=>(hb.cell (World.block_lt_of_cell? W p h)).trans h;exact⟨k h1,k h2,k h3,k h4,k h5,h6.below hb,h7.below hb,h8.trans (hb.mono h8.size)⟩
theorem C1S.bel {w W:World} {R r:Nat} {st f s n:Int} {A4 A5:Option Addr} {m x:List Int} (h:C1S w R r st f s n A4 m A5 x W):Below w.heap.size w W:=h.2.2.2.2.2.2.2
theorem Z9j {a b:Nat} (h:a+b<=9000000):(9223372036854775807<a+b)=False:=by
 rw[eq_iff_iff,iff_false];omega
theorem ZcH {w:World} {r:Nat} {A:Option Addr} {n cap:Nat} {l:List Int} (h:CdSt w r A n cap l) (hn:n=l.length) (hv:Ze l=true) (h2:2<=l.length):
  Calls Tryz.prog 51 #[.pointer (some ⟨r,0,none⟩),.pointer (some ⟨r+1,0,none⟩)] w λx w'=>x=.returned (.string (bs (cod1 l)))/\Below w.heap.size w w':=by
 obtain⟨v1,v2,v3⟩:=Z9.1 hv;have oD:=XJ hv h2;obtain⟨aO,_⟩:=Yw.1 oD;have hex:excT (Zn l) l=some (XY (Zn l) l,furL (Zn l) l):=(by unfold excT;rw[Vaf ⟨oD,hv⟩]);have sa:=X2 aO l;have Bp:=Qr (c:=Zn l) hv;have Ef:=h_ (Z6y h.at_ n cap hn (by omega))
 have ie:Hid (∀W,CdSt W r A n cap l->Calls Tryz.prog 53 #[CV (Zn l),.slice A n cap] W λx w'=>∃v1 v2,x=.returned (.tuple #[v1,v2,.int .i64 0])/\IRes w' v1 (XY (Zn l) l)/\IRes w' v2 (furL (Zn l) l)/\Below W.heap.size W w'):=h_ (λW hW=>by
  have:=ZfM (Zn l) hW.at_ n cap hn (by omega);rw[hex] at this;exact this)
 have ly:bs (cod1 l)=bs (num (1:Int).toNat)++bs (num (Zn l).st.toNat)++bs (num (Zn l).f.toNat)++bs (num (Zn l).s.toNat)++bs (num (Zn l).n.toNat)++bs (text (bs (ZI (Z7 (XY (Zn l) l)))))++bs (ZI (Z7 (furL (Zn l) l))):=by
  simp only[Zf];rfl
 rw[ly];generalize XY (Zn l) l=m at*;generalize furL (Zn l) l=x at*;generalize Zn l=c at*;obtain⟨_,m2,m3⟩:=Z9.1 sa;obtain⟨_,x2,x3⟩:=Z9.1 Bp;have Tf:=Yd sa;have N0:=Yd Bp;have N1:=h_ (λW=>Zh 1 (by omega) (by omega) W);obtain⟨d1,d2,d3,d4,d5,d6,d7,d8⟩:=aO;have N2:=h_ (λW=>Zh c.st (by omega) (by omega) W);have N3:=h_ (λW=>Zh c.f (by omega) (by omega) W);have N4:=h_ (λW=>Zh c.s (by omega) (by omega) W);have N5:=h_ (λW=>Zh c.n (by omega) (by omega) W);have T1:=h_ (λW=>XI (bs (ZI (Z7 m))) (by rw[Z0];omega) W);have z9:∀k,(bs (num k)).size<=9:=λk=>(by rw[Z0,Z8];have:=Y9 k;omega);have y1:=z9 (1:Int).toNat;have y2:=z9 c.st.toNat;have y3:=z9 c.f.toNat;have y4:=z9 c.s.toNat;have y5:=z9 c.n.toNat
 have y6:(bs (text (bs (ZI (Z7 m))))).size<=700000:=by
  rw[Z0];unfold text;rw[Vab,Z8,Z0,Zd];have:=Y9 (ZI (Z7 m)).length;omega
 have y7:(bs (ZI (Z7 x))).size<=600000:=(by rw[Z0];exact N0);have G1:Hid (∀W A2 c2,At W A2 (ivs m)->Calls Tryz.prog 50 #[.slice A2 m.length c2] W λx w'=>∃v,x=.returned v/\IRes w' v (Z7 m)/\Below W.heap.size W w'):=h_ (λW A2 c2 h=>Z0n h m.length c2 rfl sa);have G2:Hid (∀W A2 c2,At W A2 (ivs x)->Calls Tryz.prog 50 #[.slice A2 x.length c2] W λy w'=>∃v,y=.returned v/\IRes w' v (Z7 x)/\Below W.heap.size W w'):=h_ (λW A2 c2 h=>Z0n h x.length c2 rfl Bp);have U1:Hid (∀W A2 c2,At W A2 (ivs (Z7 m))->Calls Tryz.prog 46 #[.slice A2 (Z7 m).length c2] W λx w'=>x=.returned (.string (bs (ZI (Z7 m))))/\Below W.heap.size W w'):=h_ (λW A2 c2 h2=>Z28 h2 _ c2 rfl (by unfold Z7;rw[ZX];exact m3) (Xi sa));have U2:Hid (∀W A2 c2,At W A2 (ivs (Z7 x))->Calls Tryz.prog 46 #[.slice A2 (Z7 x).length c2] W λy w'=>y=.returned (.string (bs (ZI (Z7 x))))/\Below W.heap.size W w'):=h_ (λW A2 c2 h2=>Z28 h2 _ c2 rfl (by unfold Z7;rw[ZX];exact x3) (Xi Bp));generalize bs (num (1:Int).toNat)=S1 at*;generalize bs (num c.st.toNat)=S2 at*;generalize bs (num c.f.toNat)=S3 at*;generalize bs (num c.s.toNat)=S4 at*;generalize bs (num c.n.toNat)=S5 at*;generalize bs (text (bs (ZI (Z7 m))))=S6 at*;generalize bs (ZI (Z7 x))=S7 at*;generalize bs (ZI (Z7 m))=SM at*;generalize Z7 m=GM at*;generalize Z7 x=GX at*;have Bq:=h_ h;have k1:=h.c1;have k2:=h.c2;have e1:=Z9j (a:=S1.size) (b:=S2.size) (by omega);have e2:=Z9j (a:=S1.size+S2.size) (b:=S3.size) (by omega);have e3:=Z9j (a:=S1.size+S2.size+S3.size) (b:=S4.size) (by omega);have e4:=Z9j (a:=S1.size+S2.size+S3.size+S4.size) (b:=S5.size) (by omega);have e5:=Z9j (a:=S1.size+S2.size+S3.size+S4.size+S5.size) (b:=S6.size) (by omega);have e6:=Z9j (a:=S1.size+S2.size+S3.size+S4.size+S5.size+S6.size) (b:=S7.size) (by omega);clear v1 v2 v3 oD hex sa Bp ly m2 m3 x2 x3 Tf N0 d1 d2 d3 d4 d5 d6 d7 d8 z9 h hn hv h2;obtain⟨st,f,s,cn⟩:=c;unfold CV at Ef ie;simp only at Ef ie N2 N3 N4 N5;go_enter Tryz.func51,Tryz.ntmps51;go_wp2_with fail;refine(Ef.o).mono ?_;rintro q w1 ⟨rfl,a7⟩;have Br:=Bq.o.below a7;have yr:=a7.alloc a7.size (.cells #[.int .i64 st,.int .i64 f,.int .i64 s,.int .i64 cn] 96);have Bs:=Br.below ((Vae _ _).alloc UZz (.cells #[.int .i64 st,.int .i64 f,.int .i64 s,.int .i64 cn] 96));have ry:=Bk.new w1 96 #[.int .i64 st,.int .i64 f,.int .i64 s,.int .i64 cn];have nP:=h_ Bs;have Eg:=h_ yr;have nN:=h_ ry;clear a7 Br yr Bs ry k1 k2 Bq Ef;go_upto_region 2 with fail;obtain⟨R,hR⟩:∃R,w1.heap.size=R:=⟨_,rfl⟩;obtain⟨W2,mX⟩:∃W,w1.alloc (.cells #[.int .i64 st,.int .i64 f,.int .i64 s,.int .i64 cn] 96)=W:=⟨_,rfl⟩;rw[hR] at nN⊢;rw[mX] at nP Eg nN⊢;clear hR mX;have k1:=nP.o.c1;have k2:=nP.o.c2;have c0:=nN.o.cell 0;have c1:=nN.o.cell 1;have c2:=nN.o.cell 2;have c3:=nN.o.cell 3;simp at c0 c1 c2 c3;go_wp2_with fail;refine(ie.o _ nP.o).mono ?_;rintro q w3 ⟨v1,v2,rfl,cI,bR,af⟩;obtain⟨A4,gg,bq,dZ⟩:=X7 cI;obtain⟨A5,bo,bm,bp⟩:=X7 bR;subst bq;subst bm;have qn:=nN.o.below af nN.o.lt;have Bt:=nP.o.below af;have H1:C1S w R r st f s cn A4 m A5 x w3.drew:=⟨qn.cell 0,qn.cell 1,qn.cell 2,qn.cell 3,Bt.c2,dZ,bp,(Eg.o.trans (af.mono Eg.o.size)).drew⟩;clear k1 k2 c0 c1 c2 c3 cI bR af dZ bp qn Bt nP Eg nN ie;have H2:=H1;unfold C1S at H2;clear H1;have sI:=h_ (λW W' (h1:C1S w R r st f s cn A4 m A5 x W) (h2:Below W.heap.size W W')=>h1.below h2);unfold C1S at sI;have K1:Hid (∀W,(W.cell? ⟨R,0,none⟩=some (.int .i64 st)/\W.cell? ⟨R,1,none⟩=some (.int .i64 f)/\W.cell? ⟨R,2,none⟩=some (.int .i64 s)/\W.cell? ⟨R,3,none⟩=some (.int .i64 cn)/\W.cell? ⟨r+1,0,none⟩=some (.func (.func 46) #[] #[])/\At W A4 (ivs m)/\At W A5 (ivs x)/\Below w.heap.size w W)->Calls Tryz.prog 50 #[.slice A4 m.length gg] W λx w'=>∃v,x=.returned v/\IRes w' v GM/\Below W.heap.size W w'):=h_ (λW hW=>G1.out W A4 gg hW.2.2.2.2.2.1);have K2:Hid (∀W,(W.cell? ⟨R,0,none⟩=some (.int .i64 st)/\W.cell? ⟨R,1,none⟩=some (.int .i64 f)/\W.cell? ⟨R,2,none⟩=some (.int .i64 s)/\W.cell? ⟨R,3,none⟩=some (.int .i64 cn)/\W.cell? ⟨r+1,0,none⟩=some (.func (.func 46) #[] #[])/\At W A4 (ivs m)/\At W A5 (ivs x)/\Below w.heap.size w W)->Calls Tryz.prog 50 #[.slice A5 x.length bo] W λx w'=>∃v,x=.returned v/\IRes w' v GX/\Below W.heap.size W w'):=h_ (λW hW=>G2.out W A5 bo hW.2.2.2.2.2.2.1);clear G1 G2;go_wp2
 go_region_held3 (λW=>W.cell? ⟨R,0,none⟩=some (.int .i64 st)/\W.cell? ⟨R,1,none⟩=some (.int .i64 f)/\W.cell? ⟨R,2,none⟩=some (.int .i64 s)/\W.cell? ⟨R,3,none⟩=some (.int .i64 cn)/\W.cell? ⟨r+1,0,none⟩=some (.func (.func 46) #[] #[])/\At W A4 (ivs m)/\At W A5 (ivs x)/\Below w.heap.size w W) (first|exact H2|assumption|exact sI.out _ _ (by assumption) (by assumption))
  (first
   |(go_at_call 49;(first|with_reducible refine(N1.out _).mono ?_|with_reducible refine(N2.out _).mono ?_|with_reducible refine(N3.out _).mono ?_|with_reducible refine(N4.out _).mono ?_|with_reducible refine(N5.out _).mono ?_);rintro q wn ⟨rfl,cU⟩)
   |(go_at_call 50;(first|with_reducible refine(K1.out _ (by assumption)).mono ?_|with_reducible refine(K2.out _ (by assumption)).mono ?_);rintro q wg ⟨vg,rfl,yt,vU⟩;obtain⟨Ag,Bn,ql,lz⟩:=X7 yt;subst ql)
   |(go_at_call 46;(first|with_reducible refine(U1.out _ _ _ lz).mono ?_|with_reducible refine(U2.out _ _ _ lz).mono ?_);rintro q wu ⟨rfl,Ii⟩)
   |(go_at_call 54;with_reducible refine(T1.out _).mono ?_;rintro q wt ⟨rfl,jH⟩))
 all_goals
  go_wp2;go_ret;exact⟨rfl,C1S.bel (w:=w) (R:=R) (r:=r) (st:=st) (f:=f) (s:=s) (n:=cn) (A4:=A4) (m:=m) (A5:=A5) (x:=x) (by assumption)⟩
def outT (l:List Int) (i:Nat):List UInt8:=
 if i=0 then[] else if i=1 then cod0 l else if i=2 then(if l.length<2 then cod0 l else mnT (cod0 l) (cod1 l)) else(if l.length<2 then mnT (cod0 l) (cod2 l) else mnT (mnT (cod0 l) (cod1 l)) (cod2 l))
def EnS (w:World) (A:Option Addr) (n cap:Nat) (l:List Int) (W:World):Prop:=
 W.cell? ⟨w.heap.size+1+1,0,none⟩=some (fC0 w.heap.size)/\W.cell? ⟨w.heap.size+1+1,1,none⟩=some (fC1 w.heap.size)/\W.cell? ⟨w.heap.size+1+1,2,none⟩=some (fC2 w.heap.size)/\CdSt W w.heap.size A n cap l/\Below w.heap.size w W
theorem EnS.below {w W W':World} {A:Option Addr} {n cap:Nat} {l:List Int} (h:EnS w A n cap l W) (hb:Below W.heap.size W W'):EnS w A n cap l W':=by
 obtain⟨h1,h2,h3,h4,h5⟩:=h;have k:∀ {p:Addr} {v:Value},W.cell? p=some v->W'.cell? p=some v:=λ{p v} h=>(hb.cell (World.block_lt_of_cell? W p h)).trans h;exact⟨k h1,k h2,k h3,h4.below hb,h5.trans (hb.mono h5.size)⟩
theorem QT {w:World} {A:Option Addr} {l:List Int} (ha:At w A (ivs l)) (n cap:Nat) (hn:n=l.length) (bf:n<=9223372036854775807):
  Calls Tryz.prog 15 #[.slice A n cap] w λx w'=>ERes w (encT l) x w':=by
 have e9:=h_ (Z0M ha n cap hn bf);have he:encT l=if Ze l=true then(if l.length<2 then mnT (cod0 l) (cod2 l) else mnT (mnT (cod0 l) (cod1 l)) (cod2 l),0) else([],2):=rfl
 cases hv:Ze l with
 |false=>
  rw[hv,Vad (by simp)] at he;rw[he];rw[hv] at e9;clear ha hn hv he;go_enter Tryz.func15,Tryz.ntmps15;go_wp2_with fail;refine(e9.o).mono ?_;rintro x w1 ⟨rfl,rfl⟩;go_wp2;go_ret2;exact Z0f 2 (Vae _ _)
 |true=>
  rw[hv,Vaf rfl] at he;have rJ:encT l=(outT l 3,0):=he;rw[rJ];rw[hv] at e9;have ns:=h_ (Z5o ha n cap);have iR:=h_ (λW r (h:CdSt W r A n cap l)=>ZcD h hn hv);have il:=h_ (λW r (h:CdSt W r A n cap l)=>ZcG h hn hv);have fL:=h_ (λ(h2:2<=l.length) W r (h:CdSt W r A n cap l)=>ZcH h hn hv h2);have o1:outT l 1=cod0 l:=rfl;have o2:outT l 2=if l.length<2 then outT l 1 else mnT (outT l 1) (cod1 l):=rfl
  have o3:outT l 3=mnT (outT l 2) (cod2 l):=by
   have e3:outT l 3=if l.length<2 then mnT (cod0 l) (cod2 l) else mnT (mnT (cod0 l) (cod1 l)) (cod2 l):=rfl
   have e2:outT l 2=if l.length<2 then cod0 l else mnT (cod0 l) (cod1 l):=rfl
   rw[e3,e2];split<;>rfl
  have o0:bs (outT l 0)=(⟨#[]⟩:ByteArray):=rfl;rw[<-hn] at o2 fL;obtain⟨ot,N6⟩:∃o,outT l=o:=⟨_,rfl⟩;rw[N6] at o0 o1 o2 o3⊢;rw[<-o1] at iR;have Eh:=h_ o0;have nQ:=h_ o2;have yu:=h_ o3;clear ha hn hv he rJ o0 o1 o2 o3 N6;generalize cod1 l=C1 at*;generalize cod2 l=C2 at*;go_enter Tryz.func15,Tryz.ntmps15;go_wp2_with fail;refine(e9.o).mono ?_;rintro x w1 ⟨rfl,rfl⟩;go_wp2_with fail;refine(ns.o).mono ?_;rintro x w1 ⟨rfl,k0,k1,k2,iE,hb⟩;have aS:=h_ (show EnS w A n cap l w1 from⟨k0,k1,k2,iE,hb⟩);clear k0 k1 k2 iE hb ns e9;go_wp2;go_loopw [4,14] (λs4 jk wr=>∃i:Nat,i<=3/\jk=.int .i64 (i:Int)/\s4=.string (bs (ot i))/\Hid (EnS w A n cap l wr)) (λ_ jk _=>(3-intOf jk).toNat);case atStart=>exact⟨0,by omega,rfl,by rw[Eh.o],aS⟩
  case round=>
   obtain⟨i,hi,rfl,rfl,aT⟩:=hrel;obtain⟨k0,k1,k2,iE,cA⟩:=aT.o;unfold fC0 at k0;unfold fC1 at k1;unfold fC2 at k2;have xU:i=0\/i=1\/i=2\/i=3:=(by omega);rcases xU with rfl|rfl|rfl|rfl
   ·have Hc:=h_ (iR.o _ _ iE);clear k1 k2 iE cA aS fL il;go_wp2_with fail;refine(Hc.o).mono ?_;rintro x w2 ⟨rfl,a8⟩;have cE:=h_ (aT.o.below a8);clear a8 aT;go_wp2;refine⟨⟨1,by omega,rfl,rfl,cE⟩,?_⟩;simp[intOf]
   ·by_cases jt:n<2
    ·have sG:(n:Int)<2:=(by omega);have ho:=nQ.o;rw[Vaf jt] at ho;have Ho:=h_ ho;clear k0 k2 iE cA aS fL il ho;go_wp2;refine⟨⟨2,by omega,rfl,by rw[Ho.o],aT⟩,?_⟩;simp[intOf]
    ·have sG:¬(n:Int)<2:=(by omega);have ho:=nQ.o;rw[Vad jt] at ho;have Hc:=h_ (fL.o (by omega) _ _ iE);have bO:(bs C1).size=C1.length:=Z0 _;have eF:(bs (ot 1)).size=(ot 1).length:=Z0 _;by_cases hs:C1.length<(ot 1).length
     ·have dI:bs C1=bs (ot 2):=(by rw[ho];unfold mnT;rw[Vaf hs]);have Ho:=h_ dI;have E7:(C1.length:Int)<((ot 1).length:Int):=(by omega);clear k0 k2 iE cA aS il fL iR nQ yu ho dI hs;generalize bs C1=SC at*;generalize bs (ot 1)=S1 at*;generalize C1.length=c1 at*;generalize (ot 1).length=t1 at*;go_wp2_with fail;refine(Hc.o).mono ?_;rintro x w2 ⟨rfl,a8⟩;have cE:=h_ (aT.o.below a8);clear a8 aT;go_wp2;refine⟨⟨2,by omega,rfl,by rw[Ho.o],cE⟩,?_⟩;simp[intOf]
     ·have dI:bs (ot 1)=bs (ot 2):=(by rw[ho];unfold mnT;rw[Vad hs]);have Ho:=h_ dI;have E7:¬(C1.length:Int)<((ot 1).length:Int):=(by omega);clear k0 k2 iE cA aS il fL iR nQ yu ho dI hs;generalize bs C1=SC at*;generalize bs (ot 1)=S1 at*;generalize C1.length=c1 at*;generalize (ot 1).length=t1 at*;go_wp2_with fail;refine(Hc.o).mono ?_;rintro x w2 ⟨rfl,a8⟩;have cE:=h_ (aT.o.below a8);clear a8 aT;go_wp2;refine⟨⟨2,by omega,rfl,by rw[Ho.o],cE⟩,?_⟩;simp[intOf]
   ·have ho:=yu.o;have Hc:=h_ (il.o _ _ iE);have bO:(bs C2).size=C2.length:=Z0 _;have eF:(bs (ot 2)).size=(ot 2).length:=Z0 _;by_cases hs:C2.length<(ot 2).length
    ·have dI:bs C2=bs (ot 3):=(by rw[ho];unfold mnT;rw[Vaf hs]);have Ho:=h_ dI;have E7:(C2.length:Int)<((ot 2).length:Int):=(by omega);clear k0 k1 iE cA aS il fL iR nQ yu ho dI hs;generalize bs C2=SC at*;generalize bs (ot 2)=S1 at*;generalize C2.length=c1 at*;generalize (ot 2).length=t1 at*;go_wp2_with fail;refine(Hc.o).mono ?_;rintro x w2 ⟨rfl,a8⟩;have cE:=h_ (aT.o.below a8);clear a8 aT;go_wp2;refine⟨⟨3,by omega,rfl,by rw[Ho.o],cE⟩,?_⟩;simp[intOf]
    ·have dI:bs (ot 2)=bs (ot 3):=(by rw[ho];unfold mnT;rw[Vad hs]);have Ho:=h_ dI;have E7:¬(C2.length:Int)<((ot 2).length:Int):=(by omega);clear k0 k1 iE cA aS il fL iR nQ yu ho dI hs;generalize bs C2=SC at*;generalize bs (ot 2)=S1 at*;generalize C2.length=c1 at*;generalize (ot 2).length=t1 at*;go_wp2_with fail;refine(Hc.o).mono ?_;rintro x w2 ⟨rfl,a8⟩;have cE:=h_ (aT.o.below a8);clear a8 aT;go_wp2;refine⟨⟨3,by omega,rfl,by rw[Ho.o],cE⟩,?_⟩;simp[intOf]
   ·have Hb:=h_ cA;clear k0 k1 k2 iE cA aS il fL iR nQ yu;go_wp2;go_ret2;exact⟨rfl,Hb.o⟩
theorem Qy (l:List Int):(srt l).length=l.length:=(Z7i l).length_eq
theorem ZcI {w wb:World} {B n:Nat} {v:Value} {l:List Int} (h:w.ownsRow B 3 1 v n (ivs l)) (hn:n=l.length) (hl:l.length<=100000) (hb:Below B wb w):
  Calls Tryz.prog 144 #[v] w λx w'=>x=.returned (.tuple #[])/\IRes w' v (srt l)/\Below B wb w':=by
 rcases h.2 with ⟨hv,h0⟩|⟨g,cap,cur,hv,Tg,hg,oL,lX,ad,ax⟩
 ·subst hv;have fl:l=[]:=Vak (by omega);subst fl;refine(Tryz.slices_Sort_int_none none 0 w).mono λx w' ⟨h1,h2⟩=> ?_;subst h2;have hs:srt []=[]:=Vak (by rw[Qy];rfl);rw[hs];exact⟨h1,IRes.nil _,hb⟩
 ·subst hv;subst hn
  have ht:cur.toList.take l.length=l.map (Value.int .i64):=by
   rw[Vcv] at ax;exact ax
  refine(Tryz.slices_Sort_int g 0 cap l w (holds_of_blockI hg ht) (Array.getElem?_eq_some_iff.1 hg).1 (by omega)).mono λx w' ⟨h1,k,os,h2⟩=> ?_;subst h2;have hs:(l.mergeSort λx y=>decide (x<=y))=srt l:=rfl;rw[hs];have ho:=ownsRow_sortedI (n:=k) (os:=os) (ts:=srt l) (Qy l) Tg hg oL lX ad;refine⟨h1,?_,hb.grown (grownBy_sortedI _) (by have:=(Array.getElem?_eq_some_iff.1 hg).1;omega) (λj hj=>by injection hj with hj;omega)⟩;obtain⟨A,bw,oN,an⟩:=Zm ho;exact⟨A,bw,by rw[Qy];exact oN,an⟩
end Go.Proofs.YtchokmkfobandaaGreatDoor
