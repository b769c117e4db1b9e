import Derived.Test.YtchokmkfobandaaGreatDoorJ25
import Derived.Test.YtchokmkfobandaaGreatDoorJ24
import Derived.Sort.OwnSortedInts
set_option linter.unusedVariables false
set_option linter.unusedSimpArgs false
set_option maxRecDepth 100000
set_option maxHeartbeats 8000000
namespace Go.Proofs.YtchokmkfobandaaGreatDoor
open Go.RowKit Go.Proofs Wv Wv.Vi Wv.Rc Wv.Mo Wv.Ru Wv.Tm
def fC0 (r:Nat):Value:=.func (.func 48) #[] #[.pointer (some ⟨r+1,0,none⟩),.pointer (some ⟨r,0,none⟩)]
def fC1 (r:Nat):Value:=.func (.func 51) #[] #[.pointer (some ⟨r,0,none⟩),.pointer (some ⟨r+1,0,none⟩)]
def fC2 (r:Nat):Value:=.func (.func 55) #[] #[.pointer (some ⟨r,0,none⟩)]
theorem X7 {w:World} {v:Value} {l:List Int} (h:IRes w v l):∃A cap,v=.slice A l.length cap/\At w A (ivs l):=h
structure CdSt (W:World) (r:Nat) (A:Option Addr) (n cap:Nat) (l:List Int):Prop where
 c1:W.cell? ⟨r,0,none⟩=some (.slice A n cap)
 c2:W.cell? ⟨r+1,0,none⟩=some (.func (.func 46) #[] #[])
 at_:At W A (ivs l)
theorem CdSt.below {W W':World} {r:Nat} {A:Option Addr} {n cap:Nat} {l:List Int} (h:CdSt W r A n cap l) (hb:Below W.heap.size W W'):CdSt W' r A n cap l:=
 ⟨(hb.cell (World.block_lt_of_cell? W _ h.c1)).trans h.c1,(hb.cell (World.block_lt_of_cell? W _ h.c2)).trans h.c2,h.at_.below hb⟩
theorem Z5i {w:World} {A:Option Addr} {l:List Int} (ha:At w A (ivs l)) (n cap:Nat):
  Calls Tryz.prog 32 #[.slice A n cap] w λx w'=>x=.returned (.slice (some ⟨w.heap.size+1+1,0,none⟩) 3 3)/\w'.cell? ⟨w.heap.size+1+1,0,none⟩=some (fC0 w.heap.size)/\w'.cell? ⟨w.heap.size+1+1,1,none⟩=some (fC1 w.heap.size)/\w'.cell? ⟨w.heap.size+1+1,2,none⟩=some (fC2 w.heap.size)/\CdSt w' w.heap.size A n cap l/\Below w.heap.size w w':=by
 have Ha:=h_ ha;clear ha;go_enter Tryz.func32,Tryz.ntmps32;go_wp2;go_ret;have aZ:=((Bk.new w 31 #[.slice A n cap]).alloc (.cells #[.func (.func 46) #[] #[]] 93));have cL:=Bk.new (w.alloc (.cells #[.slice A n cap] 31)) 93 #[.func (.func 46) #[] #[]];have eJ:=Bk.new ((w.alloc (.cells #[.slice A n cap] 31)).alloc (.cells #[.func (.func 46) #[] #[]] 93)) 63 #[fC0 w.heap.size,fC1 w.heap.size,fC2 w.heap.size];rw[World.size_alloc] at cL;rw[World.size_alloc,World.size_alloc] at eJ;have hb:=(((Vae w.heap.size w).alloc UZz (.cells #[.slice A n cap] 31)).alloc (by simp) (.cells #[.func (.func 46) #[] #[]] 93)).alloc (by simp;omega) (.cells #[fC0 w.heap.size,fC1 w.heap.size,fC2 w.heap.size] 63);exact⟨rfl,eJ.cell 0,eJ.cell 1,eJ.cell 2,⟨(aZ.alloc _).cell 0,(cL.alloc _).cell 0,Ha.o.below hb⟩,hb⟩
theorem Z5j {G:List Int} (h:∀g∈G,0<=g/\g<=1099511627776):(G.map Int.toNat).map Int.ofNat=G:=by
 rw[Vb8];conv=>rhs;rw[<-List.map_id G]
 exact List.map_congr_left (λg hg=>Int.toNat_of_nonneg (h g hg).1)
theorem Z21 {w:World} {A:Option Addr} {G:List Int} (ha:At w A (ivs G)) (n cap:Nat) (hn:n=G.length) (hl:G.length<=4096) (hG:∀g∈G,0<=g/\g<=1099511627776):
  Calls Tryz.prog 46 #[.slice A n cap] w λx w'=>x=.returned (.string (bs (ZJ G)))/\Below w.heap.size w w':=by
 rw[<-Z5j hG] at ha
 have He:=h_ (Yw ha n cap (by rw[Vag];exact hn) (by rw[Vag];exact hl) (λv hv=>by
  obtain⟨g,hg,rfl⟩:=Va6.1 hv;have:=hG g hg;omega))
 have hs:encn (G.map Int.toNat)=ZJ G:=rfl;rw[hs] at He;clear ha hn hl hG hs;generalize bs (ZJ G)=S at*;go_enter Tryz.func46,Tryz.ntmps46;go_wp2_with fail;refine(He.o).mono ?_;rintro x w1 ⟨rfl,hb⟩;go_wp2;go_ret;exact⟨rfl,hb⟩
theorem Ziz {w W:World} {r:Nat} {A:Option Addr} {n cap:Nat} {l:List Int} (h:W.cell? ⟨r,0,none⟩=some (.slice A n cap)/\W.cell? ⟨r+1,0,none⟩=some (.func (.func 46) #[] #[])/\CdSt W r A n cap l/\Below w.heap.size w W):Below w.heap.size w W:=h.2.2.2
theorem ZcD {w:World} {r:Nat} {A:Option Addr} {n cap:Nat} {l:List Int} (h:CdSt w r A n cap l) (hn:n=l.length) (hv:Zf l=true):
  Calls Tryz.prog 48 #[.pointer (some ⟨r+1,0,none⟩),.pointer (some ⟨r,0,none⟩)] w λx w'=>x=.returned (.string (bs (cod0 l)))/\Below w.heap.size w w':=by
 have Bd:=h_ (λW=>Zh 0 (by omega) (by omega) W);have od:=Y9 hv;obtain⟨_,_,v3⟩:=Z8.1 hv;have mN:Hid (∀W,(W.cell? ⟨r,0,none⟩=some (.slice A n cap)/\W.cell? ⟨r+1,0,none⟩=some (.func (.func 46) #[] #[])/\CdSt W r A n cap l/\Below w.heap.size w W)->Calls Tryz.prog 50 #[.slice A n cap] W λx w'=>∃v,x=.returned v/\IRes w' v (Z6 l)/\Below W.heap.size W w'):=h_ (λW hW=>Z0k hW.2.2.1.at_ n cap hn hv);have Ee:Hid (∀W A2 c2,At W A2 (ivs (Z6 l))->Calls Tryz.prog 46 #[.slice A2 (Z6 l).length c2] W λx w'=>x=.returned (.string (bs (ZJ (Z6 l))))/\Below W.heap.size W w'):=h_ (λW A2 c2 h2=>Z21 h2 _ c2 rfl (by unfold Z6;rw[ZV];exact v3) (Xj hv));have lz:bs (cod0 l)=bs (num (0:Int).toNat)++bs (ZJ (Z6 l)):=(by rw[Zg];rfl);rw[lz];have bN:(bs (num (0:Int).toNat)).size<=9:=(by rw[Z0,Z7];have:=Y5 (0:Int).toNat;omega);have eB:(bs (ZJ (Z6 l))).size<=600000:=(by rw[Z0];exact od);generalize bs (num (0:Int).toNat)=S0 at*;generalize bs (ZJ (Z6 l))=S1 at*;generalize Z6 l=G at*
 have ad:(9223372036854775807<S0.size+S1.size)=False:=by
  rw[eq_iff_iff,iff_false];omega
 have H1:CdSt w.drew r A n cap l:=h.below ((Vae _ _).drew);have H2:w.drew.cell? ⟨r,0,none⟩=some (.slice A n cap)/\w.drew.cell? ⟨r+1,0,none⟩=some (.func (.func 46) #[] #[])/\CdSt w.drew r A n cap l/\Below w.heap.size w w.drew:=⟨H1.c1,H1.c2,H1,(Vae _ _).drew⟩;have keep:∀(W W':World),(W.cell? ⟨r,0,none⟩=some (.slice A n cap)/\W.cell? ⟨r+1,0,none⟩=some (.func (.func 46) #[] #[])/\CdSt W r A n cap l/\Below w.heap.size w W)->Below W.heap.size W W'->(W'.cell? ⟨r,0,none⟩=some (.slice A n cap)/\W'.cell? ⟨r+1,0,none⟩=some (.func (.func 46) #[] #[])/\CdSt W' r A n cap l/\Below w.heap.size w W'):=λW W' h1 h2=>⟨(h1.2.2.1.below h2).c1,(h1.2.2.1.below h2).c2,h1.2.2.1.below h2,h1.2.2.2.trans (h2.mono h1.2.2.2.size)⟩;have sG:=h_ keep;clear hn hv v3 od lz h H1 keep;go_enter Tryz.func48,Tryz.ntmps48;go_wp2
 go_region_held3 (λW=>W.cell? ⟨r,0,none⟩=some (.slice A n cap)/\W.cell? ⟨r+1,0,none⟩=some (.func (.func 46) #[] #[])/\CdSt W r A n cap l/\Below w.heap.size w W) (first|exact H2|assumption|exact sG.out _ _ (by assumption) (by assumption))
  (first
   |(go_at_call 49;with_reducible refine(Bd.o _).mono ?_;rintro q wn ⟨rfl,cS⟩)
   |(go_at_call 50;with_reducible refine(mN.o _ (by assumption)).mono ?_;rintro q wg ⟨vg,rfl,yn,vW⟩;obtain⟨Ag,Be,qh,lA⟩:=X7 yn;subst qh)
   |(go_at_call 46;with_reducible refine(Ee.o _ _ _ (by first|exact lA|exact lA.below cS)).mono ?_;rintro q wu ⟨rfl,Ii⟩))
 all_goals
  go_wp2;go_ret;exact⟨rfl,Ziz (r:=r) (A:=A) (n:=n) (cap:=cap) (l:=l) (by assumption)⟩
theorem ZcE {G:List Int} {k:Nat} (h:k<G.length):txts (G.take (k+1))=txts (G.take k)++[bs (num G[k].toNat)]:=by
 unfold txts;rw[Vac h,Vbk];rfl
theorem ZcF (l:List ByteArray) (s:ByteArray):svs (l++[s])=svs l++[.string s]:=by simp[svs,sv]
theorem ZcG {w:World} {r:Nat} {A:Option Addr} {n cap:Nat} {l:List Int} (h:CdSt w r A n cap l) (hn:n=l.length) (hv:Zf l=true):
  Calls Tryz.prog 55 #[.pointer (some ⟨r,0,none⟩)] w λx w'=>x=.returned (.string (bs (cod2 l)))/\Below w.heap.size w w':=by
 obtain⟨nI,tC⟩:=Z7T hv;obtain⟨_,_,v3⟩:=Z8.1 hv;have rp:(Z6 l).length<=4096:=(by unfold Z6;rw[ZV];exact v3);have hg:=Xj hv;have mN:=h_ (Z0k h.at_ n cap hn hv);have Tp:=h_ (λW=>Zh 2 (by omega) (by omega) W);have lz:bs (cod2 l)=bs (num (2:Int).toNat)++bs (enc (txts (Z6 l))).1:=(by rw[Zg];rfl);rw[lz];have c1:=h.c1;have gS:∀s∈txts (Z6 l),s.size<=9223372036854775807:=λs hs=>(by have:=Z1S _ s hs;omega);generalize Z6 l=G at*;have bN:(bs (num (2:Int).toNat)).size<=9:=(by rw[Z0,Z7];have:=Y5 (2:Int).toNat;omega);have eB:(bs (enc (txts G)).1).size<=2000000:=(by rw[Z0];exact tC);generalize bs (num (2:Int).toNat)=S0 at*;obtain⟨SE,Iw⟩:∃S,bs (enc (txts G)).1=S:=⟨_,rfl⟩;rw[Iw] at eB⊢;have ic:Hid (∀(W:World) (A2:Option Addr) (c2:Nat),At W A2 (svs (txts G))->Calls Tryz.prog 34 #[.slice A2 (txts G).length c2] W λx w'=>x=.returned (.tuple #[.string SE,.int .i64 0])/\Below W.heap.size W w'):=h_ (λW A2 c2 h2=>(Ys h2 gS (txts G).length c2 rfl (by rw[X5];omega)).mono λx w' ⟨h1,h2⟩=>⟨by rw[h1,Iw,nI];rfl,h2⟩);have Hg:=h_ hg;have gl:=X5 G;have E8:=h_ gl;obtain⟨N,hN⟩:∃N,G.length=N:=⟨_,rfl⟩;have HN:=h_ hN;rw[hN] at rp;clear hn hv v3 tC lz h hg gS gl nI Iw
 have N7:Hid (∀k,k<N->∃g:Nat,G[k]? =some (g:Int)/\g<=1099511627776/\txts (G.take (k+1))=txts (G.take k)++[bs (num g)]):=h_ (λk hk=>by
  have cL:k<G.length:=(by omega);have:=Hg.o G[k] (Vak _);refine⟨G[k].toNat,?_,by omega,ZcE cL⟩;rw[Van cL,Int.toNat_of_nonneg this.1])
 go_enter Tryz.func55,Tryz.ntmps55;go_wp2_with fail;refine(mN.o).mono ?_;rintro x w1 ⟨v,rfl,yn,a7⟩;obtain⟨Ag,Be,qh,lA⟩:=X7 yn;subst qh;rw[hN];have bD:=h_ lA;have ao:=h_ a7;clear lA yn a7 c1 mN hN;go_wp2;go_loopw [2,10] (λs2 lh wr=>∃k:Nat,k<=N/\lh=.int .i64 (k:Int)/\Hid (wr.ownsRow w1.heap.size 9 1 s2 (txts (G.take k)).length (svs (txts (G.take k))))/\Hid (Below w1.heap.size w1 wr)) (λ_ lh _=>(N-intOf lh).toNat);case atStart=>exact⟨0,Vat _,rfl,h_ Zk,h_ (Vae _ _)⟩
 case round=>
  obtain⟨k,hk,rfl,aa,ef⟩:=hrel;by_cases ab:k<N
  ·obtain⟨g,wk,dm,cZ⟩:=N7.o k ab;have bm:(ivs G)[k]? =some (.int .i64 (g:Int)):=(by unfold ivs;rw[Vbb,wk];rfl);obtain⟨b',o',hA,eQ,hc⟩:=(bD.o.below ef.o).get k _ bm;subst hA;have dp:(k:Int)<(N:Int):=(by omega);have Ee:=h_ (λW=>Zh (g:Int) (by omega) (by omega) W);rw[Vav] at Ee;have Ia:=h_ cZ;have dX:Hid ((txts (G.take k)).length<=4096):=h_ (by rw[X5,Vau,HN.o];omega);clear wk cZ bm eQ;go_wp2_with fail;refine(Ee.o _).mono ?_;rintro x w3 ⟨rfl,af⟩;have dG:=Zn aa.o (Fr.of_below (S:=nob) af) (λg hg h=>h);have ax:=ef.o.trans (af.mono ef.o.size);have cY:=dX.o;obtain⟨v',w4,ag,ah,aC,_⟩:=Yq (P:=Tryz.prog) 64 9 _ _ Tryz.underlying64 YC rfl dG ax ax.size (.string (bs (num g))) rfl (by unfold maxLen;omega) (by omega);have aq:=h_ ag
   have aI:Hid (w4.ownsRow w1.heap.size 9 1 v' (txts (G.take (k+1))).length (svs (txts (G.take (k+1))))):=h_ (by
    rw[Ia.o,Vab,ZcF];exact ah)
   have cP:=h_ aC;clear ag ah aC aa ef dG ax af cY;generalize bs (num g)=SN at*
   go_wp2_with (
    at_builtin;refine Z3 (by with_reducible rfl) rfl _ _ _ rfl _ _ (by rfl) (by rfl) aq.o ?_)
   refine⟨⟨k+1,ab,by go_num,aI,cP⟩,?_⟩;simp[intOf]<;>omega
  ·have Bf:k=N:=(by omega);subst Bf;obtain⟨W5,rfl⟩:∃W,W=wr:=⟨_,rfl⟩;have ay:G.take k=G:=Vah (by rw[HN.o];exact UZz);have jE:=aa.o;rw[ay] at jE;obtain⟨A9,iF,qd,fx⟩:=Zl jE;subst qd;have He:=h_ (ic.o _ _ iF fx);have jb:=h_ (ao.o.trans (ef.o.mono ao.o.size));clear ay aa jE fx ic ef ao bD N7 Hg;go_wp2_with fail;refine(He.o).mono ?_;rintro x w6 ⟨rfl,bY⟩;have dA:=h_ (jb.o.trans (bY.mono jb.o.size));clear bY;go_wp2_with fail;refine(Tp.o _).mono ?_;rintro x w7 ⟨rfl,eM⟩;have ou:=h_ (dA.o.trans (eM.mono dA.o.size));clear eM;go_wp2;go_ret;exact⟨rfl,ou.o⟩
def C1S (w:World) (R r:Nat) (st f s n:Int) (A4:Option Addr) (m:List Int) (A5:Option Addr) (x:List Int) (W:World):Prop:=
 W.cell? ⟨R,0,none⟩=some (.int .i64 st)/\W.cell? ⟨R,1,none⟩=some (.int .i64 f)/\W.cell? ⟨R,2,none⟩=some (.int .i64 s)/\W.cell? ⟨R,3,none⟩=some (.int .i64 n)/\W.cell? ⟨r+1,0,none⟩=some (.func (.func 46) #[] #[])/\At W A4 (ivs m)/\At W A5 (ivs x)/\Below w.heap.size w W
theorem C1S.below {w W W':World} {R r:Nat} {st f s n:Int} {A4 A5:Option Addr} {m x:List Int} (h:C1S w R r st f s n A4 m A5 x W) (hb:Below W.heap.size W W'):C1S w R r st f s n A4 m A5 x W':=by
 obtain⟨h1,h2,h3,h4,h5,h6,h7,h8⟩:=h;have k:∀ {p:Addr} {v:Value},W.cell? p=some v->W'.cell? p=some v:=λ{p v} h=>(hb.cell (World.block_lt_of_cell? W p h)).trans h;exact⟨k h1,k h2,k h3,k h4,k h5,h6.below hb,h7.below hb,h8.trans (hb.mono h8.size)⟩
theorem C1S.bel {w W:World} {R r:Nat} {st f s n:Int} {A4 A5:Option Addr} {m x:List Int} (h:C1S w R r st f s n A4 m A5 x W):Below w.heap.size w W:=h.2.2.2.2.2.2.2
theorem Z9j {a b:Nat} (h:a+b<=9000000):(9223372036854775807<a+b)=False:=by
 rw[eq_iff_iff,iff_false];omega
theorem ZcH {w:World} {r:Nat} {A:Option Addr} {n cap:Nat} {l:List Int} (h:CdSt w r A n cap l) (hn:n=l.length) (hv:Zf l=true) (h2:2<=l.length):
  Calls Tryz.prog 51 #[.pointer (some ⟨r,0,none⟩),.pointer (some ⟨r+1,0,none⟩)] w λx w'=>x=.returned (.string (bs (cod1 l)))/\Below w.heap.size w w':=by
 obtain⟨v1,v2,v3⟩:=Z8.1 hv;have ow:=XK hv h2;obtain⟨aU,_⟩:=Yv.1 ow;have hex:excT (Zm l) l=some (XW (Zm l) l,furL (Zm l) l):=(by unfold excT;rw[Vaf ⟨ow,hv⟩]);have rZ:=X2 aU l;have Bg:=Qp (c:=Zm l) hv;have Ef:=h_ (Z6v h.at_ n cap hn (by omega))
 have ie:Hid (∀W,CdSt W r A n cap l->Calls Tryz.prog 53 #[CV (Zm l),.slice A n cap] W λx w'=>∃v1 v2,x=.returned (.tuple #[v1,v2,.int .i64 0])/\IRes w' v1 (XW (Zm l) l)/\IRes w' v2 (furL (Zm l) l)/\Below W.heap.size W w'):=h_ (λW hW=>by
  have:=ZfH (Zm l) hW.at_ n cap hn (by omega);rw[hex] at this;exact this)
 have lz:bs (cod1 l)=bs (num (1:Int).toNat)++bs (num (Zm l).st.toNat)++bs (num (Zm l).f.toNat)++bs (num (Zm l).s.toNat)++bs (num (Zm l).n.toNat)++bs (text (bs (ZJ (Z6 (XW (Zm l) l)))))++bs (ZJ (Z6 (furL (Zm l) l))):=by
  simp only[Zg];rfl
 rw[lz];generalize XW (Zm l) l=m at*;generalize furL (Zm l) l=x at*;generalize Zm l=c at*;obtain⟨_,m2,m3⟩:=Z8.1 rZ;obtain⟨_,x2,x3⟩:=Z8.1 Bg;have Tq:=Y9 rZ;have N8:=Y9 Bg;have N1:=h_ (λW=>Zh 1 (by omega) (by omega) W);obtain⟨d1,d2,d3,d4,d5,d6,d7,d8⟩:=aU;have N2:=h_ (λW=>Zh c.st (by omega) (by omega) W);have N3:=h_ (λW=>Zh c.f (by omega) (by omega) W);have N4:=h_ (λW=>Zh c.s (by omega) (by omega) W);have N5:=h_ (λW=>Zh c.n (by omega) (by omega) W);have T1:=h_ (λW=>XJ (bs (ZJ (Z6 m))) (by rw[Z0];omega) W);have z9:∀k,(bs (num k)).size<=9:=λk=>(by rw[Z0,Z7];have:=Y5 k;omega);have y1:=z9 (1:Int).toNat;have y2:=z9 c.st.toNat;have y3:=z9 c.f.toNat;have y4:=z9 c.s.toNat;have y5:=z9 c.n.toNat
 have y6:(bs (text (bs (ZJ (Z6 m))))).size<=700000:=by
  rw[Z0];unfold text;rw[Vab,Z7,Z0,Ze];have:=Y5 (ZJ (Z6 m)).length;omega
 have y7:(bs (ZJ (Z6 x))).size<=600000:=(by rw[Z0];exact N8);have G1:Hid (∀W A2 c2,At W A2 (ivs m)->Calls Tryz.prog 50 #[.slice A2 m.length c2] W λx w'=>∃v,x=.returned v/\IRes w' v (Z6 m)/\Below W.heap.size W w'):=h_ (λW A2 c2 h=>Z0k h m.length c2 rfl rZ);have G2:Hid (∀W A2 c2,At W A2 (ivs x)->Calls Tryz.prog 50 #[.slice A2 x.length c2] W λy w'=>∃v,y=.returned v/\IRes w' v (Z6 x)/\Below W.heap.size W w'):=h_ (λW A2 c2 h=>Z0k h x.length c2 rfl Bg);have U1:Hid (∀W A2 c2,At W A2 (ivs (Z6 m))->Calls Tryz.prog 46 #[.slice A2 (Z6 m).length c2] W λx w'=>x=.returned (.string (bs (ZJ (Z6 m))))/\Below W.heap.size W w'):=h_ (λW A2 c2 h2=>Z21 h2 _ c2 rfl (by unfold Z6;rw[ZV];exact m3) (Xj rZ));have U2:Hid (∀W A2 c2,At W A2 (ivs (Z6 x))->Calls Tryz.prog 46 #[.slice A2 (Z6 x).length c2] W λy w'=>y=.returned (.string (bs (ZJ (Z6 x))))/\Below W.heap.size W w'):=h_ (λW A2 c2 h2=>Z21 h2 _ c2 rfl (by unfold Z6;rw[ZV];exact x3) (Xj Bg));generalize bs (num (1:Int).toNat)=S1 at*;generalize bs (num c.st.toNat)=S2 at*;generalize bs (num c.f.toNat)=S3 at*;generalize bs (num c.s.toNat)=S4 at*;generalize bs (num c.n.toNat)=S5 at*;generalize bs (text (bs (ZJ (Z6 m))))=S6 at*;generalize bs (ZJ (Z6 x))=S7 at*;generalize bs (ZJ (Z6 m))=SM at*;generalize Z6 m=GM at*;generalize Z6 x=GX at*;have Bh:=h_ h;have k1:=h.c1;have k2:=h.c2;have e1:=Z9j (a:=S1.size) (b:=S2.size) (by omega);have e2:=Z9j (a:=S1.size+S2.size) (b:=S3.size) (by omega);have e3:=Z9j (a:=S1.size+S2.size+S3.size) (b:=S4.size) (by omega);have e4:=Z9j (a:=S1.size+S2.size+S3.size+S4.size) (b:=S5.size) (by omega);have e5:=Z9j (a:=S1.size+S2.size+S3.size+S4.size+S5.size) (b:=S6.size) (by omega);have e6:=Z9j (a:=S1.size+S2.size+S3.size+S4.size+S5.size+S6.size) (b:=S7.size) (by omega);clear v1 v2 v3 ow hex rZ Bg lz m2 m3 x2 x3 Tq N8 d1 d2 d3 d4 d5 d6 d7 d8 z9 h hn hv h2;obtain⟨st,f,s,cn⟩:=c;unfold CV at Ef ie;simp only at Ef ie N2 N3 N4 N5;go_enter Tryz.func51,Tryz.ntmps51;go_wp2_with fail;refine(Ef.o).mono ?_;rintro q w1 ⟨rfl,a7⟩;have Bi:=Bh.o.below a7;have ym:=a7.alloc a7.size (.cells #[.int .i64 st,.int .i64 f,.int .i64 s,.int .i64 cn] 96);have Bj:=Bi.below ((Vae _ _).alloc UZz (.cells #[.int .i64 st,.int .i64 f,.int .i64 s,.int .i64 cn] 96));have ru:=Bk.new w1 96 #[.int .i64 st,.int .i64 f,.int .i64 s,.int .i64 cn];have nJ:=h_ Bj;have Eg:=h_ ym;have nG:=h_ ru;clear a7 Bi ym Bj ru k1 k2 Bh Ef;go_upto_region 2 with fail;obtain⟨R,hR⟩:∃R,w1.heap.size=R:=⟨_,rfl⟩;obtain⟨W2,mS⟩:∃W,w1.alloc (.cells #[.int .i64 st,.int .i64 f,.int .i64 s,.int .i64 cn] 96)=W:=⟨_,rfl⟩;rw[hR] at nG⊢;rw[mS] at nJ Eg nG⊢;clear hR mS;have k1:=nJ.o.c1;have k2:=nJ.o.c2;have c0:=nG.o.cell 0;have c1:=nG.o.cell 1;have c2:=nG.o.cell 2;have c3:=nG.o.cell 3;simp at c0 c1 c2 c3;go_wp2_with fail;refine(ie.o _ nJ.o).mono ?_;rintro q w3 ⟨v1,v2,rfl,cF,bP,af⟩;obtain⟨A4,gh,bk,dV⟩:=X7 cF;obtain⟨A5,aY,bj,bS⟩:=X7 bP;subst bk;subst bj;have qi:=nG.o.below af nG.o.lt;have Bl:=nJ.o.below af;have H1:C1S w R r st f s cn A4 m A5 x w3.drew:=⟨qi.cell 0,qi.cell 1,qi.cell 2,qi.cell 3,Bl.c2,dV,bS,(Eg.o.trans (af.mono Eg.o.size)).drew⟩;clear k1 k2 c0 c1 c2 c3 cF bP af dV bS qi Bl nJ Eg nG ie;have H2:=H1;unfold C1S at H2;clear H1;have sG:=h_ (λW W' (h1:C1S w R r st f s cn A4 m A5 x W) (h2:Below W.heap.size W W')=>h1.below h2);unfold C1S at sG;have K1:Hid (∀W,(W.cell? ⟨R,0,none⟩=some (.int .i64 st)/\W.cell? ⟨R,1,none⟩=some (.int .i64 f)/\W.cell? ⟨R,2,none⟩=some (.int .i64 s)/\W.cell? ⟨R,3,none⟩=some (.int .i64 cn)/\W.cell? ⟨r+1,0,none⟩=some (.func (.func 46) #[] #[])/\At W A4 (ivs m)/\At W A5 (ivs x)/\Below w.heap.size w W)->Calls Tryz.prog 50 #[.slice A4 m.length gh] W λx w'=>∃v,x=.returned v/\IRes w' v GM/\Below W.heap.size W w'):=h_ (λW hW=>G1.out W A4 gh hW.2.2.2.2.2.1);have K2:Hid (∀W,(W.cell? ⟨R,0,none⟩=some (.int .i64 st)/\W.cell? ⟨R,1,none⟩=some (.int .i64 f)/\W.cell? ⟨R,2,none⟩=some (.int .i64 s)/\W.cell? ⟨R,3,none⟩=some (.int .i64 cn)/\W.cell? ⟨r+1,0,none⟩=some (.func (.func 46) #[] #[])/\At W A4 (ivs m)/\At W A5 (ivs x)/\Below w.heap.size w W)->Calls Tryz.prog 50 #[.slice A5 x.length aY] W λx w'=>∃v,x=.returned v/\IRes w' v GX/\Below W.heap.size W w'):=h_ (λW hW=>G2.out W A5 aY hW.2.2.2.2.2.2.1);clear G1 G2;go_wp2
 go_region_held3 (λW=>W.cell? ⟨R,0,none⟩=some (.int .i64 st)/\W.cell? ⟨R,1,none⟩=some (.int .i64 f)/\W.cell? ⟨R,2,none⟩=some (.int .i64 s)/\W.cell? ⟨R,3,none⟩=some (.int .i64 cn)/\W.cell? ⟨r+1,0,none⟩=some (.func (.func 46) #[] #[])/\At W A4 (ivs m)/\At W A5 (ivs x)/\Below w.heap.size w W) (first|exact H2|assumption|exact sG.out _ _ (by assumption) (by assumption))
  (first
   |(go_at_call 49;(first|with_reducible refine(N1.out _).mono ?_|with_reducible refine(N2.out _).mono ?_|with_reducible refine(N3.out _).mono ?_|with_reducible refine(N4.out _).mono ?_|with_reducible refine(N5.out _).mono ?_);rintro q wn ⟨rfl,cS⟩)
   |(go_at_call 50;(first|with_reducible refine(K1.out _ (by assumption)).mono ?_|with_reducible refine(K2.out _ (by assumption)).mono ?_);rintro q wg ⟨vg,rfl,yn,vW⟩;obtain⟨Ag,Be,qh,lA⟩:=X7 yn;subst qh)
   |(go_at_call 46;(first|with_reducible refine(U1.out _ _ _ lA).mono ?_|with_reducible refine(U2.out _ _ _ lA).mono ?_);rintro q wu ⟨rfl,Ii⟩)
   |(go_at_call 54;with_reducible refine(T1.out _).mono ?_;rintro q wt ⟨rfl,jN⟩))
 all_goals
  go_wp2;go_ret;exact⟨rfl,C1S.bel (w:=w) (R:=R) (r:=r) (st:=st) (f:=f) (s:=s) (n:=cn) (A4:=A4) (m:=m) (A5:=A5) (x:=x) (by assumption)⟩
def outT (l:List Int) (i:Nat):List UInt8:=
 if i=0 then[] else if i=1 then cod0 l else if i=2 then(if l.length<2 then cod0 l else mnT (cod0 l) (cod1 l)) else(if l.length<2 then mnT (cod0 l) (cod2 l) else mnT (mnT (cod0 l) (cod1 l)) (cod2 l))
def EnS (w:World) (A:Option Addr) (n cap:Nat) (l:List Int) (W:World):Prop:=
 W.cell? ⟨w.heap.size+1+1,0,none⟩=some (fC0 w.heap.size)/\W.cell? ⟨w.heap.size+1+1,1,none⟩=some (fC1 w.heap.size)/\W.cell? ⟨w.heap.size+1+1,2,none⟩=some (fC2 w.heap.size)/\CdSt W w.heap.size A n cap l/\Below w.heap.size w W
theorem EnS.below {w W W':World} {A:Option Addr} {n cap:Nat} {l:List Int} (h:EnS w A n cap l W) (hb:Below W.heap.size W W'):EnS w A n cap l W':=by
 obtain⟨h1,h2,h3,h4,h5⟩:=h;have k:∀ {p:Addr} {v:Value},W.cell? p=some v->W'.cell? p=some v:=λ{p v} h=>(hb.cell (World.block_lt_of_cell? W p h)).trans h;exact⟨k h1,k h2,k h3,h4.below hb,h5.trans (hb.mono h5.size)⟩
theorem Z22 {w:World} {A:Option Addr} {l:List Int} (ha:At w A (ivs l)) (n cap:Nat) (hn:n=l.length) (bo:n<=9223372036854775807):
  Calls Tryz.prog 15 #[.slice A n cap] w λx w'=>ERes w (encT l) x w':=by
 have dW:=h_ (Z0K ha n cap hn bo);have he:encT l=if Zf l=true then(if l.length<2 then mnT (cod0 l) (cod2 l) else mnT (mnT (cod0 l) (cod1 l)) (cod2 l),0) else([],2):=rfl
 cases hv:Zf l with
 |false=>
  rw[hv,Vad (by simp)] at he;rw[he];rw[hv] at dW;clear ha hn hv he;go_enter Tryz.func15,Tryz.ntmps15;go_wp2_with fail;refine(dW.o).mono ?_;rintro x w1 ⟨rfl,rfl⟩;go_wp2;go_ret2;exact Z0c 2 (Vae _ _)
 |true=>
  rw[hv,Vaf rfl] at he;have uM:encT l=(outT l 3,0):=he;rw[uM];rw[hv] at dW;have nj:=h_ (Z5i ha n cap);have iY:=h_ (λW r (h:CdSt W r A n cap l)=>ZcD h hn hv);have im:=h_ (λW r (h:CdSt W r A n cap l)=>ZcG h hn hv);have fL:=h_ (λ(h2:2<=l.length) W r (h:CdSt W r A n cap l)=>ZcH h hn hv h2);have o1:outT l 1=cod0 l:=rfl;have o2:outT l 2=if l.length<2 then outT l 1 else mnT (outT l 1) (cod1 l):=rfl
  have o3:outT l 3=mnT (outT l 2) (cod2 l):=by
   have e3:outT l 3=if l.length<2 then mnT (cod0 l) (cod2 l) else mnT (mnT (cod0 l) (cod1 l)) (cod2 l):=rfl
   have e2:outT l 2=if l.length<2 then cod0 l else mnT (cod0 l) (cod1 l):=rfl
   rw[e3,e2];split<;>rfl
  have o0:bs (outT l 0)=(⟨#[]⟩:ByteArray):=rfl;rw[<-hn] at o2 fL;obtain⟨ot,N9⟩:∃o,outT l=o:=⟨_,rfl⟩;rw[N9] at o0 o1 o2 o3⊢;rw[<-o1] at iY;have Eh:=h_ o0;have nK:=h_ o2;have yo:=h_ o3;clear ha hn hv he uM o0 o1 o2 o3 N9;generalize cod1 l=C1 at*;generalize cod2 l=C2 at*;go_enter Tryz.func15,Tryz.ntmps15;go_wp2_with fail;refine(dW.o).mono ?_;rintro x w1 ⟨rfl,rfl⟩;go_wp2_with fail;refine(nj.o).mono ?_;rintro x w1 ⟨rfl,k0,k1,k2,iE,hb⟩;have aT:=h_ (show EnS w A n cap l w1 from⟨k0,k1,k2,iE,hb⟩);clear k0 k1 k2 iE hb nj dW;go_wp2;go_loopw [4,14] (λs4 gm wr=>∃i:Nat,i<=3/\gm=.int .i64 (i:Int)/\s4=.string (bs (ot i))/\Hid (EnS w A n cap l wr)) (λ_ gm _=>(3-intOf gm).toNat);case atStart=>exact⟨0,by omega,rfl,by rw[Eh.o],aT⟩
  case round=>
   obtain⟨i,hi,rfl,rfl,aQ⟩:=hrel;obtain⟨k0,k1,k2,iE,cR⟩:=aQ.o;unfold fC0 at k0;unfold fC1 at k1;unfold fC2 at k2;have xO:i=0\/i=1\/i=2\/i=3:=(by omega);rcases xO with rfl|rfl|rfl|rfl
   ·have Hc:=h_ (iY.o _ _ iE);clear k1 k2 iE cR aT fL im;go_wp2_with fail;refine(Hc.o).mono ?_;rintro x w2 ⟨rfl,a8⟩;have dz:=h_ (aQ.o.below a8);clear a8 aQ;go_wp2;refine⟨⟨1,by omega,rfl,rfl,dz⟩,?_⟩;simp[intOf]
   ·by_cases jz:n<2
    ·have sE:(n:Int)<2:=(by omega);have ho:=nK.o;rw[Vaf jz] at ho;have Ho:=h_ ho;clear k0 k2 iE cR aT fL im ho;go_wp2;refine⟨⟨2,by omega,rfl,by rw[Ho.o],aQ⟩,?_⟩;simp[intOf]
    ·have sE:¬(n:Int)<2:=(by omega);have ho:=nK.o;rw[Vad jz] at ho;have Hc:=h_ (fL.o (by omega) _ _ iE);have bN:(bs C1).size=C1.length:=Z0 _;have eB:(bs (ot 1)).size=(ot 1).length:=Z0 _;by_cases hs:C1.length<(ot 1).length
     ·have dD:bs C1=bs (ot 2):=(by rw[ho];unfold mnT;rw[Vaf hs]);have Ho:=h_ dD;have E7:(C1.length:Int)<((ot 1).length:Int):=(by omega);clear k0 k2 iE cR aT im fL iY nK yo ho dD hs;generalize bs C1=SC at*;generalize bs (ot 1)=S1 at*;generalize C1.length=c1 at*;generalize (ot 1).length=t1 at*;go_wp2_with fail;refine(Hc.o).mono ?_;rintro x w2 ⟨rfl,a8⟩;have dz:=h_ (aQ.o.below a8);clear a8 aQ;go_wp2;refine⟨⟨2,by omega,rfl,by rw[Ho.o],dz⟩,?_⟩;simp[intOf]
     ·have dD:bs (ot 1)=bs (ot 2):=(by rw[ho];unfold mnT;rw[Vad hs]);have Ho:=h_ dD;have E7:¬(C1.length:Int)<((ot 1).length:Int):=(by omega);clear k0 k2 iE cR aT im fL iY nK yo ho dD hs;generalize bs C1=SC at*;generalize bs (ot 1)=S1 at*;generalize C1.length=c1 at*;generalize (ot 1).length=t1 at*;go_wp2_with fail;refine(Hc.o).mono ?_;rintro x w2 ⟨rfl,a8⟩;have dz:=h_ (aQ.o.below a8);clear a8 aQ;go_wp2;refine⟨⟨2,by omega,rfl,by rw[Ho.o],dz⟩,?_⟩;simp[intOf]
   ·have ho:=yo.o;have Hc:=h_ (im.o _ _ iE);have bN:(bs C2).size=C2.length:=Z0 _;have eB:(bs (ot 2)).size=(ot 2).length:=Z0 _;by_cases hs:C2.length<(ot 2).length
    ·have dD:bs C2=bs (ot 3):=(by rw[ho];unfold mnT;rw[Vaf hs]);have Ho:=h_ dD;have E7:(C2.length:Int)<((ot 2).length:Int):=(by omega);clear k0 k1 iE cR aT im fL iY nK yo ho dD hs;generalize bs C2=SC at*;generalize bs (ot 2)=S1 at*;generalize C2.length=c1 at*;generalize (ot 2).length=t1 at*;go_wp2_with fail;refine(Hc.o).mono ?_;rintro x w2 ⟨rfl,a8⟩;have dz:=h_ (aQ.o.below a8);clear a8 aQ;go_wp2;refine⟨⟨3,by omega,rfl,by rw[Ho.o],dz⟩,?_⟩;simp[intOf]
    ·have dD:bs (ot 2)=bs (ot 3):=(by rw[ho];unfold mnT;rw[Vad hs]);have Ho:=h_ dD;have E7:¬(C2.length:Int)<((ot 2).length:Int):=(by omega);clear k0 k1 iE cR aT im fL iY nK yo ho dD hs;generalize bs C2=SC at*;generalize bs (ot 2)=S1 at*;generalize C2.length=c1 at*;generalize (ot 2).length=t1 at*;go_wp2_with fail;refine(Hc.o).mono ?_;rintro x w2 ⟨rfl,a8⟩;have dz:=h_ (aQ.o.below a8);clear a8 aQ;go_wp2;refine⟨⟨3,by omega,rfl,by rw[Ho.o],dz⟩,?_⟩;simp[intOf]
   ·have Hb:=h_ cR;clear k0 k1 k2 iE cR aT im fL iY nK yo;go_wp2;go_ret2;exact⟨rfl,Hb.o⟩
theorem Qx (l:List Int):(srt l).length=l.length:=(Z7i l).length_eq
theorem ZcI {w wb:World} {B n:Nat} {v:Value} {l:List Int} (h:w.ownsRow B 3 1 v n (ivs l)) (hn:n=l.length) (hl:l.length<=100000) (hb:Below B wb w):
  Calls Tryz.prog 144 #[v] w λx w'=>x=.returned (.tuple #[])/\IRes w' v (srt l)/\Below B wb w':=by
 rcases h.2 with ⟨hv,h0⟩|⟨g,cap,cur,hv,Tr,hg,oG,lV,ad,ay⟩
 ·subst hv;have ig:l=[]:=Vaj (by omega);subst ig;refine(Tryz.slices_Sort_int_none none 0 w).mono λx w' ⟨h1,h2⟩=> ?_;subst h2;have hs:srt []=[]:=Vaj (by rw[Qx];rfl);rw[hs];exact⟨h1,IRes.nil _,hb⟩
 ·subst hv;subst hn
  have ht:cur.toList.take l.length=l.map (Value.int .i64):=by
   rw[Vcw] at ay;exact ay
  refine(Tryz.slices_Sort_int g 0 cap l w (holds_of_blockI hg ht) (Array.getElem?_eq_some_iff.1 hg).1 (by omega)).mono λx w' ⟨h1,k,os,h2⟩=> ?_;subst h2;have hs:(l.mergeSort λx y=>decide (x<=y))=srt l:=rfl;rw[hs];have ho:=ownsRow_sortedI (n:=k) (os:=os) (ts:=srt l) (Qx l) Tr hg oG lV ad;refine⟨h1,?_,hb.grown (grownBy_sortedI _) (by have:=(Array.getElem?_eq_some_iff.1 hg).1;omega) (λj hj=>by injection hj with hj;omega)⟩;obtain⟨A,bp,oH,ak⟩:=Zl ho;exact⟨A,bp,by rw[Qx];exact oH,ak⟩
end Go.Proofs.YtchokmkfobandaaGreatDoor
