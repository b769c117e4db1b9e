import Derived.Test.YtchokmkfobandaaGreatDoorJ45
import Derived.Test.YtchokmkfobandaaGreatDoorJ47
import Derived.Test.YtchokmkfobandaaGreatDoorJ35
set_option linter.unusedVariables false
set_option linter.unusedSimpArgs false
set_option maxRecDepth 100000
set_option maxHeartbeats 8000000
namespace Wv.Sg
open Wv.Vi Wv.Ru Wv.Bc Wv.Fm Wv.Lz Wv.Sn Wv.Tm Wv.Dc
open Go.Proofs.YtchokmkfobandaaGreatDoor
theorem Zom {s:Int×Int} {f t:Int} {b:ByteArray} {l:List Chg} (h:sgV s f t b l=false):sgE s f t b l=([],1):=by unfold sgE;rw[if_pos h]
theorem ZmZ {s:Int×Int} {f t:Int} {b:ByteArray} (h:sgV s f t b []=true):sgE s f t b []=([],0):=by unfold sgE;rw[if_neg (by simp[h]),if_pos rfl]
theorem Zon {s:Int×Int} {f t:Int} {b:ByteArray} {l:List Chg} (h:sgV s f t b l=true) (h2:l≠[]):sgE s f t b l=strm (frms s f l):=by unfold sgE;rw[if_neg (by simp[h]),if_neg h2]
theorem Zk5 {s:Int×Int} {vs:List ByteArray} (hs:tyB s=true) (hv:∀v∈vs,vaB Z0u s (toL v)=true) (hl:vs.length<=4096):(vlsE s vs).1.length<=1000000000:=by
 unfold vlsE;split
 ·rename_i h0;obtain⟨w1,w2⟩:=ZbD hs h0;have hb:Z0z s.2 vs=true:=Z0A.2 ⟨λv h=>Zhi h0 (hv v h),w1,w2,hl⟩;unfold Z12;rw[if_neg (by simp[hb])];have:=Zcd hb 4;show(bstB _ _ 4).length<=_;omega
 ·have:=Z2y hl (λv h=>by have:=Zca (hv v h);rwa [Z01] at this);omega
theorem Zk6 (f:Int) (l:List Chg) (i:Nat) (h:i<l.length):tms f (l.take (i+1))=tms f (l.take i)++[l[i].1-(f+1)]:=by
 unfold tms;rw[List.take_succ_eq_append_getElem h,List.map_append];rfl
theorem Zhy {s:Int×Int} {t:Int} :∀ {l:List Chg} {a:Int} {b:ByteArray},rise s t a b l=true->∀c∈l,a<c.1/\c.1<=t
 |[],_,_,_,c,hc=>by cases hc
 |d::l,a,b,h,c,hc=>by
  obtain⟨h1,h2,_,_,h5⟩:=Z3h.1 h;rcases List.mem_cons.1 hc with rfl|hc
  ·exact⟨h1,h2⟩
  ·have:=Zhy h5 c hc;exact⟨by omega,this.2⟩
end Wv.Sg
namespace Go.Proofs.YtchokmkfobandaaGreatDoor
open Go.RowKit Go.Proofs Wv Wv.Vi Wv.Ru Wv.Bc Wv.Sn Wv.Sg Wv.Tm Wv.Dc
open Wv.Rc Wv.Mo in
theorem Zhz {l:List Int} (h:Z0e l=true) {c:Nat} (hc:c<=2) (h1:c=1->2<=l.length):(codT c l).length<=3000000:=by
 have hk:=λn=>Z15 n;have fl:c=0\/c=1\/c=2:=(by omega);rcases fl with rfl|rfl|rfl
 ·show(num 0++Z0J (Z06 l)).length<=_;rw[List.length_append,Z07];have:=Z19 h;have:=hk 0;omega
 ·show(cod1 l).length<=_;have hv:=Z2L h (h1 rfl);have hi:=(Z1r.1 hv).1;have h2:=Z19 (Z1Y hi l);have h3:=Z19 (Z3o (c:=Z0j l) h);rw[Zg8];unfold text;simp only[List.length_append,Z07,Z01,Z00];have:=hk 1;have:=hk (Z0j l).st.toNat;have:=hk (Z0j l).f.toNat;have:=hk (Z0j l).s.toNat;have:=hk (Z0j l).n.toNat;have:=hk (Z0J (Z06 (Z2X (Z0j l) l))).length;omega
 ·show(num 2++(enc (txts (Z06 l))).1).length<=_;rw[List.length_append,Z07];have:=(ZbP h).2;have:=hk 2;omega
open Wv.Rc Wv.Mo in
theorem ZhA (l:List Int):(encT l).1.length<=3000000:=by
 cases h:Z0e l with
 |false=>rw[ZbQ h];simp
 |true=>
  obtain⟨c,hc,h1,he⟩:=Z2z h;rw[he];exact Zhz h hc h1
theorem Zk7 (W:World) (B:Nat) (e:TypeId) (x y:Value) (hB:B<=W.heap.size):(W.alloc (.cells #[x,y] e)).ownsRow B e 2 (.slice (some ⟨W.heap.size,0,none⟩) 1 1) 1 [x,y]:=
 ⟨rfl,.inr ⟨W.heap.size,1,#[x,y],rfl,hB,heap_alloc_new W _,Nat.le_refl _,by unfold maxLen;omega,rfl,by simp⟩⟩
theorem Z9A {w:World} {A:Option Addr} {b:ByteArray} {l:List (Int×ByteArray)} (ha:At w A (cv l)) (a c f t:Int) (hv:VaC a c w) (bP:b.size<=1099511627776) (ad:∀x∈l,x.2.size<=1099511627776) (n cap:Nat) (hn:n=l.length) (bu:n<=9223372036854775807):
  Calls Tryz.prog 13 #[.agg #[.int .i64 a,.int .i64 c],.int .i64 f,.int .i64 t,.string b,.slice A n cap] w λx w'=>ERes w (sgE (a,c) f t b l) x w':=by
 have HV:=h_ (λW (hb:Below w.heap.size w W)=>Z0O (ha.below hb) a c f t (hv.below hb) bP ad n cap hn bu);have HK:=h_ (λW h=>Z2m (w:=w) (W:=W) (a:=a) (c:=c) h);obtain⟨R,hR⟩:∃R,sgE (a,c) f t b l=R:=⟨_,rfl⟩;rw[hR];unfold ERes;cases bm:sgV (a,c) f t b l with
 |false=>
  rw[bm] at HV;rw[Zom bm] at hR;subst hR;have me:bs ([]:List UInt8)=⟨#[]⟩:=rfl;simp only[me];clear ha hv bP ad hn bu bm;go_enter Tryz.func13,Tryz.ntmps13;go_wp2_with fail;refine(HV.o _ (HK.o _ (Below.refl _ _)).2.2.1).mono ?_;rintro x w1 ⟨rfl,a7⟩;obtain⟨_,_,a8,_⟩:=HK.o _ a7;go_wp2;go_returns;exact⟨rfl,a8⟩
 |true=>
  rw[bm] at HV;by_cases h0:l=[]
  ·subst h0;rw[ZmZ bm] at hR;subst hR;have me:bs ([]:List UInt8)=⟨#[]⟩:=rfl;have mo:n=0:=hn;subst mo;simp only[me];clear ha hv bP ad hn bu bm;go_enter Tryz.func13,Tryz.ntmps13;go_wp2_with fail;refine(HV.o _ (HK.o _ (Below.refl _ _)).2.2.1).mono ?_;rintro x w1 ⟨rfl,a7⟩;obtain⟨_,_,a8,_⟩:=HK.o _ a7;go_wp2;go_returns;exact⟨rfl,a8⟩
  ·rw[Zon bm h0] at hR;obtain⟨v1,v2,v3,v4,v5⟩:=Z24.1 bm;obtain⟨i1,i2,i3⟩:=Z1d.1 v2;have hT:=Z6c bm;obtain⟨cc,_,_,JP⟩:=Z2z hT;have rz:=ZhA (tms f l);have JQ:(encT (tms f l)).2=0:=(by rw[JP])
   have mL:∀v∈l.map (·.2),vaB Z0u (a,c) (toL v)=true:=λv hm=>by
    obtain⟨x,hx,rfl⟩:=List.mem_map.1 hm;exact Z3i v5 x hx
   have fw:(tms f l).length=l.length:=(by unfold tms;rw[List.length_map]);have fF:n<=4096:=(by omega)
   have yF:((n:Int)==0)=false:=by
    rw[beq_eq_false_iff_ne];intro e;exact h0 (List.eq_nil_of_length_eq_zero (by omega))
   have OV:=h_ (λi (h:i<l.length)=>Zhy v5 _ (List.getElem_mem h));have OW:=h_ (λi (h:i<l.length)=>Zk6 f l i h);have Ha:=h_ ha;have Hn:=h_ hn;have uH:=h_ (λ(W:World) A2 aK (h:At W A2 (ivs (tms f l)))=>Z62 h n aK (by rw[fw,hn]) bu);unfold ERes at uH;rw[JQ] at uH;have rU:Hid ((tms f l).length=n):=h_ (by rw[fw,hn]);have j1:IntKind.i64.wrap (f+1)=f+1:=(by rw[IntWalk.i64_in _ (by omega)]);have H0:=h_ (λ(W:World) (B:Nat)=>(Z0p:W.ownsRow B 3 1 (.slice none 0 0) 0 []));obtain⟨T,mC⟩:∃T,(encT (tms f l)).1=T:=⟨_,rfl⟩;rw[mC] at uH rz;have ey:frms (a,c) f l=(1,T)::if a=3 then[] else[(fkd (a,c),(vlsE (a,c) (l.map (·.2))).1)]:=by unfold frms;rw[mC]
   have Ty:Hid (tms f (l.take 0)=[]):=h_ rfl;have Ck:Hid (tms f (l.take n)=tms f l):=h_ (by rw[List.take_of_length_le (by rw[hn];exact Nat.le_refl _)]);have Hi:Hid (-1<=f/\t<=1099511627776):=h_ ⟨i1,i3⟩;by_cases h3:a=3
   ·rw[if_pos h3] at ey;rw[ey] at hR;have HS:=h_ (λ(W:World) A2 (h:At W A2 (frs [(1,T)])) aK=>Z6e h (λp hp=>by rw[List.mem_singleton.1 hp];show(1:Nat)<16;decide) (λp hp=>by rw[List.mem_singleton.1 hp];show T.length<=_;omega) 1 aK rfl (by decide));rw[hR] at HS;have qw:frs [(1,T)]=[.int .i64 1,.string (bs T)]:=rfl;have wR:=h_ qw;subst h3;generalize bs T=S at*;clear ha hv bP ad hn bm h0 hR v1 v2 v3 v4 v5 hT JP JQ mL fw mC ey rz i1 i2 i3 qw;go_enter Tryz.func13,Tryz.ntmps13;go_wp2_with fail;refine(HV.o _ (HK.o _ (Below.refl _ _)).2.2.1).mono ?_;rintro x w1 ⟨rfl,a7⟩;have an:=h_ a7;clear a7;go_wp2;go_loopw [12,32] (λjD wS wr=>∃i:Nat,i<=n/\wS=.int .i64 (i:Int)/\Hid (wr.ownsRow (w.alloc (.cells #[.int .i64 3,.int .i64 c] 23)).heap.size 3 1 jD i ((tms f (l.take i)).map iv))/\Hid (Below (w.alloc (.cells #[.int .i64 3,.int .i64 c] 23)).heap.size (w.alloc (.cells #[.int .i64 3,.int .i64 c] 23)) wr)) (λ_ wS _=>(n-intOf wS).toNat);case atStart=>exact⟨0,Nat.zero_le _,rfl,h_ (H0.o _ _),an⟩
    case round=>
     clear an;obtain⟨i,hi,rfl,aa,hb⟩:=hrel;obtain⟨A5,bk,rfl,cY⟩:=Z0q aa.o;by_cases ab:i<n
     ·have bz:i<l.length:=(by rw[<-Hn.o];exact ab);obtain⟨z0,z1,dA,dL⟩:=HK.o _ hb.o;obtain⟨bA,oA,rfl,wC,c0,c1⟩:=Z1a (Ha.o.below dA) i bz;have cR:=OW.o i bz;have aX:=OV.o i bz;obtain⟨⟨X,V⟩,hTV⟩:∃y,l[i]=y:=⟨_,rfl⟩;rw[hTV] at c0 c1 cR aX;simp only at c0 c1 cR aX;have j2:IntKind.i64.wrap (X-(f+1))=X-(f+1):=(by rw[IntWalk.i64_in _ (by have:=Hi.o;omega)]);have a7:=hb.o.alloc hb.o.size (.cells #[.int .i64 X,.string V] 33);have ai:=Z0v aa.o (Fr.of_below (S:=nob) ((Below.refl wr.heap.size wr).alloc (Nat.le_refl _) (.cells #[.int .i64 X,.string V] 33))) (λ_ _ f=>f);obtain⟨v',W',ag,af,aG⟩:=Z87 ai a7 a7.size (by omega) (X-(f+1));rw[<-cR] at af;rw[World.size_alloc] at ag;have ao:=h_ ag;have az:=h_ af;have cQ:=h_ aG;have ji:(0:Int)<=(i:Int):=(by omega);have ti:(i:Int)<(n:Int):=(by omega);clear ag af aG cR hTV bz a7 ai aa hb aX dA cY
      go_wp2_with (
       at_builtin;refine Z04 (by with_reducible rfl) rfl _ _ _ rfl _ _ (by rfl) (by rfl) ao.o ?_)
      refine⟨⟨i+1,ab,by go_num,az,cQ⟩,?_⟩;simp[intOf]<;>omega
     ·have aX:i=n:=(by omega);subst aX;rw[Ck.o] at cY;have tx:=h_ (uH.o wr A5 bk cY);clear aa cY;have hz:=HK.o _ hb.o;go_wp2_with fail;refine(tx.o).mono ?_;rintro x w2 ⟨rfl,a8⟩;have al:=h_ (hb.o.trans (a8.mono hb.o.size));have eo:=al.o.alloc al.o.size (.cells #[.int .i64 1,.string S] 36);obtain⟨z0,_,ae,_⟩:=HK.o _ eo;have JR:=h_ (HS.o (w2.alloc (.cells #[.int .i64 1,.string S] 36)) (some ⟨w2.heap.size,0,none⟩) (by rw[wR.o];exact(Bk.new w2 36 #[.int .i64 1,.string S]).at_) 1);have aF:=h_ ae;clear a8 eo ae hz;go_wp2_with fail;refine(JR.o).mono ?_;rintro x w3 ⟨rfl,aw⟩;have bo:=h_ (aF.o.trans (aw.mono aF.o.size));clear aw;go_wp2;go_returns;exact⟨rfl,bo.o⟩
   ·rw[if_neg h3] at ey;rw[ey] at hR;have qs:=Zk5 v1 mL (by rw[List.length_map];exact v4);have Cl:=(ZkM v1 h3 mL (by rw[List.length_map];exact v4)).1;have HE:=h_ (λ(W:World) (hb:Below w.heap.size w W)=>ZmW (ha.below hb) n cap hn (by omega) a c v1 h3 ad);rw[Cl] at HE;obtain⟨D,hD⟩:∃D,(vlsE (a,c) (l.map (·.2))).1=D:=⟨_,rfl⟩;obtain⟨K,hK⟩:∃K,fkd (a,c)=K:=⟨_,rfl⟩;have Cm:K<16:=(by rw[<-hK];exact Zoj _);rw[hD,hK] at HE hR;rw[hD] at qs
    have HS:=h_ (λ(W:World) A2 (h:At W A2 (frs [(1,T),(K,D)])) aK=>Z6e h (λp hp=>by
     rcases List.mem_cons.1 hp with rfl|hp
     ·show(1:Nat)<16;decide
     ·rw[List.mem_singleton.1 hp];exact Cm) (λp hp=>by
     rcases List.mem_cons.1 hp with rfl|hp
     ·show T.length<=_;omega
     ·rw[List.mem_singleton.1 hp];exact qs) 2 aK rfl (by decide))
    rw[hR] at HS;have OX:evV (K:Int) D 0=.tuple #[.agg #[.int .i64 (K:Int),.string (bs D)],.int .i64 0]:=rfl;rw[OX] at HE;have qw:frs [(1,T),(K,D)]=[.int .i64 1,.string (bs T)]++[.int .i64 (K:Int),.string (bs D)]:=rfl;have wR:=h_ qw;have Eg:(a !=3)=true:=(by rw[bne_iff_ne];exact h3);generalize bs T=S at*;generalize bs D=S2 at*;generalize (K:Int)=KI at*;clear ha hv bP ad hn bm h0 hR v1 v2 v3 v4 v5 hT JP JQ mL fw mC ey rz i1 i2 i3 qw Cl qs OX hK Cm hD;go_enter Tryz.func13,Tryz.ntmps13;go_wp2_with fail;refine(HV.o _ (HK.o _ (Below.refl _ _)).2.2.1).mono ?_;rintro x w1 ⟨rfl,a7⟩;have an:=h_ a7;clear a7;go_wp2;go_loopw [12,32] (λjD wS wr=>∃i:Nat,i<=n/\wS=.int .i64 (i:Int)/\Hid (wr.ownsRow (w.alloc (.cells #[.int .i64 a,.int .i64 c] 23)).heap.size 3 1 jD i ((tms f (l.take i)).map iv))/\Hid (Below (w.alloc (.cells #[.int .i64 a,.int .i64 c] 23)).heap.size (w.alloc (.cells #[.int .i64 a,.int .i64 c] 23)) wr)) (λ_ wS _=>(n-intOf wS).toNat);case atStart=>exact⟨0,Nat.zero_le _,rfl,h_ (H0.o _ _),an⟩
    case round=>
     clear an;obtain⟨i,hi,rfl,aa,hb⟩:=hrel;obtain⟨A5,bk,rfl,cY⟩:=Z0q aa.o;by_cases ab:i<n
     ·have bz:i<l.length:=(by rw[<-Hn.o];exact ab);obtain⟨z0,z1,dA,dL⟩:=HK.o _ hb.o;obtain⟨bA,oA,rfl,wC,c0,c1⟩:=Z1a (Ha.o.below dA) i bz;have cR:=OW.o i bz;have aX:=OV.o i bz;obtain⟨⟨X,V⟩,hTV⟩:∃y,l[i]=y:=⟨_,rfl⟩;rw[hTV] at c0 c1 cR aX;simp only at c0 c1 cR aX;have j2:IntKind.i64.wrap (X-(f+1))=X-(f+1):=(by rw[IntWalk.i64_in _ (by have:=Hi.o;omega)]);have a7:=hb.o.alloc hb.o.size (.cells #[.int .i64 X,.string V] 33);have ai:=Z0v aa.o (Fr.of_below (S:=nob) ((Below.refl wr.heap.size wr).alloc (Nat.le_refl _) (.cells #[.int .i64 X,.string V] 33))) (λ_ _ f=>f);obtain⟨v',W',ag,af,aG⟩:=Z87 ai a7 a7.size (by omega) (X-(f+1));rw[<-cR] at af;rw[World.size_alloc] at ag;have ao:=h_ ag;have az:=h_ af;have cQ:=h_ aG;have ji:(0:Int)<=(i:Int):=(by omega);have ti:(i:Int)<(n:Int):=(by omega);clear ag af aG cR hTV bz a7 ai aa hb aX dA cY
      go_wp2_with (
       at_builtin;refine Z04 (by with_reducible rfl) rfl _ _ _ rfl _ _ (by rfl) (by rfl) ao.o ?_)
      refine⟨⟨i+1,ab,by go_num,az,cQ⟩,?_⟩;simp[intOf]<;>omega
     ·have aX:i=n:=(by omega);subst aX;rw[Ck.o] at cY;have tx:=h_ (uH.o wr A5 bk cY);clear aa cY;go_wp2_with fail;refine(tx.o).mono ?_;rintro x w2 ⟨rfl,a8⟩;have al:=h_ (hb.o.trans (a8.mono hb.o.size));have eo:=al.o.alloc al.o.size (.cells #[.int .i64 1,.string S] 36);obtain⟨z0,z1,ae,_⟩:=HK.o _ eo;have cg:=h_ (Zk7 w2 (w.alloc (.cells #[.int .i64 a,.int .i64 c] 23)).heap.size 36 (.int .i64 1) (.string S) al.o.size);have gD:=h_ eo;have xw:=h_ (HE.o _ ae);clear a8 eo ae;go_wp2_with fail;refine(xw.o).mono ?_;rintro x w3 ⟨rfl,aw⟩;have JS:=(gD.o.trans (aw.mono gD.o.size)).alloc (Nat.le_trans gD.o.size aw.size) (.cells #[.int .i64 KI,.string S2] 36);have aO:=Z0v (Z0v cg.o (Fr.of_below (S:=nob) aw) (λ_ _ f=>f)) (Fr.of_below (S:=nob) ((Below.refl w3.heap.size w3).alloc (Nat.le_refl _) (.cells #[.int .i64 KI,.string S2] 36))) (λ_ _ f=>f)
      obtain⟨v',W',ag,af,aG,_⟩:=Z7r (P:=Tryz.prog) 37 36 _ _ 2 Tryz.underlying37 ZkN rfl (by decide) aO JS JS.size [.int .i64 KI,.string S2] rfl (by
       intro y hy;simp at hy;rcases hy with rfl|rfl<;>rfl) (by unfold maxLen;omega) (by omega)
      obtain⟨A6,jc,JT,cu⟩:=Z0q af;rw[World.size_alloc] at ag;have ao:=h_ ag;have JR:=h_ (HS.o W' A6 (by rw[wR.o];exact cu) jc);have ej:=h_ (HK.o _ aG).2.2.1;subst JT;clear ag af aG aO JS aw cu
      go_wp2_with (
       at_builtin;refine Z04 (by with_reducible rfl) rfl _ _ _ rfl _ _ (by rfl) (by rfl) ao.o ?_)
      go_wp2_with fail;refine(JR.o).mono ?_;rintro x w5 ⟨rfl,fx⟩;have pR:=h_ (ej.o.trans (fx.mono ej.o.size));clear fx;go_wp2;go_returns;exact⟨rfl,pR.o⟩
end Go.Proofs.YtchokmkfobandaaGreatDoor
namespace Wv.Sg
open Wv.Vi Wv.Ru Wv.Bc Wv.Fm Wv.Lz Wv.Sn Wv.Tm Wv.Dc
open Go.Proofs.YtchokmkfobandaaGreatDoor
theorem Zn0 {s:Int×Int} {f t:Int} {b:ByteArray} {d:List UInt8} (h:sgV s f t b []=false):sgD s f t b d=([],1):=by unfold sgD;rw[if_pos h]
theorem Zn1 {s:Int×Int} {f t:Int} {b:ByteArray} (h:sgV s f t b []=true):sgD s f t b []=([],0):=by unfold sgD;rw[if_neg (by simp[h]),if_pos rfl]
theorem Zn2 {s:Int×Int} {f t:Int} {b:ByteArray} {d:List UInt8} (h:sgV s f t b []=true) (h4:4096<d.length):sgD s f t b d=([],12):=by
 unfold sgD;rw[if_neg (by simp[h]),if_neg (by intro e;subst e;simp at h4),if_pos h4]
theorem ZhB {s:Int×Int} {f t:Int} {b:ByteArray} {d:List UInt8} (h:sgV s f t b []=true) (h0:d≠[]) (h4:¬4096<d.length):sgD s f t b d=match rdCh s f d with
  |none=>([],12)
  |some l=>if sgV s f t b l=true then(l,0) else([],12):=by
 unfold sgD;rw[if_neg (by simp[h]),if_neg h0,if_neg h4];cases rdCh s f d<;>rfl
theorem Zn3 {s:Int×Int} {f:Int} {d:List UInt8} (h:unws d=none):rdCh s f d=none:=by unfold rdCh;rw[h]
theorem Zch {s:Int×Int} {f:Int} {d:List UInt8} {fr:List (Nat×List UInt8)} (h:unws d=some fr) (h2:fr.length≠if s.1=3 then 1 else 2):rdCh s f d=none:=by
  unfold rdCh;rw[h];cases fr with
  |nil=>rfl
  |cons p r=>
    simp only;split
    · have : ∀ n, Z1D s n r = none := λn => by
        unfold Z1D;by_cases h3:s.1=3
        · rw[if_pos h3] at h2⊢
          rw[if_neg (by intro e;subst e;exact h2 rfl)]
        · rw[if_neg h3] at h2⊢
          match r,h2 with
          |[],_=>rfl
          |[q],h2=>exact absurd rfl h2
          |_::_::_,_=>rfl
      rw[this];rfl
    · rfl
theorem Z2n {s:Int×Int} {f:Int} {d:List UInt8} {p:Nat×List UInt8} {r:List (Nat×List UInt8)} (h:unws d=some (p::r)):rdCh s f d=if p.1=1/\(decT p.2 4096).2=0/\(decT p.2 4096).1≠[] then(Z1D s (decT p.2 4096).1.length r).map (zipC f (decT p.2 4096).1) else none:=by
 unfold rdCh;rw[h]
theorem ZhC {s:Int×Int} {n:Nat} (h3:s.1=3):Z1D s n []=some (List.replicate n ⟨#[]⟩):=by unfold Z1D;rw[if_pos h3,if_pos rfl]
theorem ZdG {s:Int×Int} {n:Nat} {q:Nat×List UInt8} (h3:s.1≠3):Z1D s n [q]=if q.1=fkd s/\(vlsD s q.2 n).2=0/\(vlsD s q.2 n).1.length=n then some (vlsD s q.2 n).1 else none:=by unfold Z1D;rw[if_neg h3]
theorem Z9B (f:Int) {ts:List Int} {vs:List ByteArray} (h:ts.length=vs.length) {i:Nat} (hi:i<ts.length):(zipC f ts vs).take (i+1)=(zipC f ts vs).take i++[(ts[i]+f+1,vs[i]'(by omega))]:=by
 have hl:i<(zipC f ts vs).length:=(by rw[Z2l f ts vs h];exact hi);rw[List.take_succ_eq_append_getElem hl];congr 2;simp[zipC]
theorem Z77 (f:Int) {ts:List Int} {vs:List ByteArray} (hs:∀v∈vs,v.size<=128):∀c∈zipC f ts vs,c.2.size<=1099511627776:=by
 intro c hc;obtain⟨i,hi,rfl⟩:=List.getElem_of_mem hc;have hv:i<vs.length:=(by unfold zipC at hi;rw[List.length_zipWith] at hi;omega);have e:((zipC f ts vs)[i]).2=vs[i]:=(by simp[zipC]);rw[e];have:=hs _ (List.getElem_mem hv);omega
theorem Z9C:∀ {l:List (Nat×List UInt8)} {d:List UInt8},Z0N l=some d->∀p∈l,p.2.length<=4096
 |[],_,_,p,hp=>by cases hp
 |q::l,d,h,p,hp=>by
  unfold Z0N at h;cases hw:Z0B q.1 q.2 with
  |none=>rw[hw] at h;cases h
  |some w=>
   rw[hw] at h;simp only at h;cases hl:Z0N l with
   |none=>rw[hl] at h;cases h
   |some x=>
    rcases List.mem_cons.1 hp with rfl|hp
    ·have h2:=Z6B (k:=p.1) (c:=p.2);rw[hw] at h2;exact of_decide_eq_true h2.symm
    ·exact Z9C hl p hp
theorem Z8b {d:List UInt8} {l:List (Nat×List UInt8)} (h:unws d=some l):∀p∈l,p.2.length<=4096:=Z9C (Z4R d.length (Nat.le_refl _) h)
end Wv.Sg
namespace Go.Proofs.YtchokmkfobandaaGreatDoor
open Go.RowKit Go.Proofs Wv Wv.Vi Wv.Ru Wv.Bc Wv.Sn Wv.Sg Wv.Tm Wv.Dc Wv.Fm
def CdR (w:World) (r:List (Int×ByteArray)×Nat) (x:Ending) (w':World):Prop:=∃v,x=.returned (.tuple #[v,.int .i64 (r.2:Int)])/\ChR w' v r.1/\Below w.heap.size w w'
theorem Zn4 {d:List UInt8} (hd:d.length<=1000000) (h:unws d=none) (W:World):Calls Tryz.prog 36 #[.string (bs d)] W λx w'=>∃v,x=.returned (.tuple #[v,.int .i64 12])/\Below W.heap.size W w':=
 (Z6f d hd W).mono λx w' hx=>by
  unfold FdR at hx;rw[h] at hx;obtain⟨v,h1,_,h2⟩:=hx;exact⟨v,by simpa using h1,h2⟩
theorem ZhD {d:List UInt8} {fr:List (Nat×List UInt8)} (hd:d.length<=1000000) (h:unws d=some fr) (W:World):Calls Tryz.prog 36 #[.string (bs d)] W λx w'=>∃A cap,x=.returned (.tuple #[.slice A fr.length cap,.int .i64 0])/\At w' A (frs fr)/\Below W.heap.size W w':=
 (Z6f d hd W).mono λx w' hx=>by
  unfold FdR at hx;rw[h] at hx;obtain⟨v,h1,⟨A,cap,h2,h3⟩,h4⟩:=hx;subst h2;exact⟨A,cap,by simpa using h1,h3,h4⟩
theorem Zoo {s:Int×Int} {n k:Nat} {C:List UInt8} (h3:s.1≠3):Z1D s n [(k,C)]=dvO s k C n:=by
 rw[ZdG h3];unfold dvO;simp only[Int.ofNat_inj]
theorem Zn5 {s:Int×Int} {n:Nat} {k:Int} {C:List UInt8} {r:List ByteArray} (h:dvO s k C n=some r):r.length=n/\∀v∈r,v.size<=128:=by
 unfold dvO at h;split at h
 ·rename_i hc;injection h with h;subst h;exact⟨by have:=hc.2.2;omega,ZdB _ _ _⟩
 ·cases h
theorem ZkR {w:World} {A:Option Addr} {l:List Int} (ha:At w A (ivs l)) (k:Nat) (h:k<l.length):∃b o,A=some ⟨b,o,none⟩/\b<w.heap.size/\w.cell? ⟨b,o+k,none⟩=some (.int .i64 l[k]):=
 ha.get k _ (by unfold ivs;rw[List.getElem?_map,List.getElem?_eq_getElem h];rfl)
theorem ZkS {w:World} {A:Option Addr} {l:List ByteArray} (ha:At w A (svs l)) (k:Nat) (h:k<l.length):∃b o,A=some ⟨b,o,none⟩/\b<w.heap.size/\w.cell? ⟨b,o+k,none⟩=some (.string l[k]):=
 ha.get k _ (by unfold svs;rw[List.getElem?_map,List.getElem?_eq_getElem h];rfl)
theorem ZhE {w:World} (a c f t:Int) (hv:VaC a c w) {b:ByteArray} (bP:b.size<=1099511627776) (d:List UInt8) (hd:d.length<=1000000000) (hr:sgV (a,c) f t b []=false\/d=[]\/4096<d.length\/unws d=none):
  Calls Tryz.prog 18 #[.agg #[.int .i64 a,.int .i64 c],.int .i64 f,.int .i64 t,.string b,.string (bs d)] w λx w'=>CdR w (sgD (a,c) f t b d) x w':=by
 have HV:=h_ (λW (hb:Below w.heap.size w W)=>Z0O (l:=[]) (At.nil W none) a c f t (hv.below hb) bP (λx hx=>by cases hx) 0 0 rfl (by decide));have HK:=h_ (λW h=>Z2m (w:=w) (W:=W) (a:=a) (c:=c) h);unfold CdR;cases bm:sgV (a,c) f t b [] with
 |false=>
  rw[bm] at HV;have HR:=h_ (Zn0 (d:=d) bm);generalize sgD (a,c) f t b d=R at*;generalize bs d=S at*;clear hv bP hd hr bm;go_enter Tryz.func18,Tryz.ntmps18;go_wp2_with fail;refine(HV.o _ (HK.o _ (Below.refl _ _)).2.2.1).mono ?_;rintro x w1 ⟨rfl,a7⟩;obtain⟨_,_,a8,_⟩:=HK.o _ a7;go_wp2;go_returns;exact⟨_,by rw[HR.o];rfl,by rw[HR.o];exact ChR.nil _,a8⟩
 |true=>
  rw[bm] at HV;have cJ:=Z2i d;have ad:(bs d).size=d.length:=Z00 d;by_cases h0:d=[]
  ·subst h0;have HR:=h_ (Zn1 bm);generalize sgD (a,c) f t b []=R at*;rw[show bs ([]:List UInt8)=⟨#[]⟩ from rfl];clear hv bP hd hr bm cJ ad;go_enter Tryz.func18,Tryz.ntmps18;go_wp2_with fail;refine(HV.o _ (HK.o _ (Below.refl _ _)).2.2.1).mono ?_;rintro x w1 ⟨rfl,a7⟩;obtain⟨_,_,a8,_⟩:=HK.o _ a7;go_wp2;go_returns;exact⟨_,by rw[HR.o];rfl,by rw[HR.o];exact ChR.nil _,a8⟩
  ·rw[decide_eq_false h0] at cJ;by_cases h4:4096<d.length
   ·have HR:=h_ (Zn2 bm h4);have hg:(4096:Int)<((bs d).size:Int):=(by omega);generalize sgD (a,c) f t b d=R at*;generalize bs d=S at*;clear hv bP hd hr bm h0 ad h4;go_enter Tryz.func18,Tryz.ntmps18;go_wp2_with fail;refine(HV.o _ (HK.o _ (Below.refl _ _)).2.2.1).mono ?_;rintro x w1 ⟨rfl,a7⟩;obtain⟨_,_,a8,_⟩:=HK.o _ a7;go_wp2;go_returns;exact⟨_,by rw[HR.o];rfl,by rw[HR.o];exact ChR.nil _,a8⟩
   ·have hu:unws d=none:=by
     rcases hr with h|h|h|h
     ·rw[bm] at h;cases h
     ·exact absurd h h0
     ·exact absurd h h4
     ·exact h
    have HR:Hid (sgD (a,c) f t b d=([],12)):=h_ (by rw[ZhB bm h0 h4,Zn3 hu]);have hg:¬(4096:Int)<((bs d).size:Int):=(by omega);have HF:=h_ (λW=>Zn4 (by omega) hu W);generalize sgD (a,c) f t b d=R at*;generalize bs d=S at*;clear hv bP hd hr bm h0 ad h4 hu;by_cases h3:a=3
    ·subst h3;go_enter Tryz.func18,Tryz.ntmps18;go_wp2_with fail;refine(HV.o _ (HK.o _ (Below.refl _ _)).2.2.1).mono ?_;rintro x w1 ⟨rfl,a7⟩;obtain⟨_,_,a8,_⟩:=HK.o _ a7;have an:=h_ a7;clear a7 a8;go_wp2_with fail;refine(HF.o _).mono ?_;rintro x w2 ⟨v,rfl,a8⟩;have al:=h_ (an.o.trans (a8.mono an.o.size));obtain⟨z0,z1,ae,_⟩:=HK.o _ al.o;clear a8;go_wp2;go_returns;exact⟨_,by rw[HR.o];rfl,by rw[HR.o];exact ChR.nil _,ae⟩
    ·have Eg:(a==3)=false:=(by rw[beq_eq_false_iff_ne];exact h3);clear h3;go_enter Tryz.func18,Tryz.ntmps18;go_wp2_with fail;refine(HV.o _ (HK.o _ (Below.refl _ _)).2.2.1).mono ?_;rintro x w1 ⟨rfl,a7⟩;obtain⟨_,_,a8,_⟩:=HK.o _ a7;have an:=h_ a7;clear a7 a8;go_wp2_with fail;refine(HF.o _).mono ?_;rintro x w2 ⟨v,rfl,a8⟩;have al:=h_ (an.o.trans (a8.mono an.o.size));obtain⟨z0,z1,ae,_⟩:=HK.o _ al.o;clear a8;go_wp2;go_returns;exact⟨_,by rw[HR.o];rfl,by rw[HR.o];exact ChR.nil _,ae⟩
theorem Zn6 {α:Type} {l:List α} (h:l.length=2):∃p q,l=[p,q]:=by
 match l,h with
 |[p,q],_=>exact⟨p,q,rfl⟩
theorem Z78 {w W:World} {p:Addr} {v:Value} (hb:Below w.heap.size w W) (hp:p.block<w.heap.size) (hc:w.cell? p=some v):W.cell? p=some v:=by rw[World.cell?_of_block (hb.block _ hp)];exact hc
theorem Zop {w:World} (a c k:Int) (n:Nat) (D:List UInt8) (hs:tyB (a,c)=true) (h3:a≠3) (hd:D.length<=1000000000):
  Calls Tryz.prog 38 #[.agg #[.int .i64 a,.int .i64 c],.agg #[.int .i64 k,.string (bs D)],.int .i64 (n:Int)] w λx w'=>∃A m cap,x=.returned (.tuple #[.slice A m cap,.bool (dvO (a,c) k D n).isSome])/\(∀r,dvO (a,c) k D n=some r->m=r.length/\At w' A (svs r))/\Below w.heap.size w w':=
 ZmY a c k n D hs h3 hd
theorem ZhF {w:World} (a c f t:Int) (hv:VaC a c w) {b:ByteArray} (bP:b.size<=1099511627776) (d:List UInt8) (bm:sgV (a,c) f t b []=true) (h0:d≠[]) (h4:¬4096<d.length) {fr:List (Nat×List UInt8)} (hu:unws d=some fr) (h3:a≠3):
  Calls Tryz.prog 18 #[.agg #[.int .i64 a,.int .i64 c],.int .i64 f,.int .i64 t,.string b,.string (bs d)] w λx w'=>CdR w (sgD (a,c) f t b d) x w':=by
 have HV:=h_ (λW (hb:Below w.heap.size w W)=>Z0O (l:=[]) (At.nil W none) a c f t (hv.below hb) bP (λx hx=>by cases hx) 0 0 rfl (by decide));rw[bm] at HV;have JU:=h_ (λW A cap (vs:List ByteArray) {ts:List Int} (hl:vs.length=ts.length) (hs:∀v∈vs,v.size<=128) (h:At W A (cv (zipC f ts vs))) (hb:Below w.heap.size w W) (h9:ts.length<=4096)=>Z0O h a c f t (hv.below hb) bP (Z77 f hs) ts.length cap (by rw[Z2l f ts vs hl.symm]) (by omega));have HK:=h_ (λW h=>Z2m (w:=w) (W:=W) (a:=a) (c:=c) h);obtain⟨v1,v2,_,_,_⟩:=Z24.1 bm;obtain⟨i1,i2,i3⟩:=Z1d.1 v2;have tD:Hid (-1<=f/\f<=1099511627776):=h_ ⟨i1,by omega⟩;have cC:=h_ v1;have cJ:=Z2i d;rw[decide_eq_false h0] at cJ;have hg:¬(4096:Int)<((bs d).size:Int):=(by rw[Z00];omega);have HF:=h_ (λW=>ZhD (by omega) hu W);have oc:=h_ (ZhB bm h0 h4);unfold CdR;generalize sgD (a,c) f t b d=R at*;generalize bs d=S at*;have Eg:(a==3)=false:=(by rw[beq_eq_false_iff_ne];exact h3);have Vh:(a !=3)=true:=(by rw[bne_iff_ne];exact h3);clear hv bP bm h0 h4 v1 v2 i1 i2 i3;go_enter Tryz.func18,Tryz.ntmps18;go_wp2_with fail;refine(HV.o _ (HK.o _ (Below.refl _ _)).2.2.1).mono ?_;rintro x w1 ⟨rfl,a7⟩;obtain⟨_,_,a8,_⟩:=HK.o _ a7;have an:=h_ a7;clear a7 a8;go_wp2_with fail;refine(HF.o _).mono ?_;rintro x w2 ⟨A2,aK,rfl,ak,a8⟩;have al:=h_ (an.o.trans (a8.mono an.o.size));obtain⟨z0,z1,ae,dL⟩:=HK.o _ al.o;clear a8;by_cases hL:fr.length=2
 ·obtain⟨p,q,rfl⟩:=Zn6 hL;obtain⟨kq,D⟩:=q;obtain⟨k,C⟩:=p;obtain⟨bF,oF,rfl,Ei,c0,c1⟩:=Zcc ak 0 (by simp);obtain⟨Vj,Vk,eh,_,d0,d1⟩:=Zcc ak 1 (by simp);injection eh with eh;injection eh with e1 e2;subst e1;subst e2;simp at d0 d1;simp at c0 c1;try simp only[List.length_cons,List.length_nil]
  have HU:=h_ hu;have wT:=Z8b hu (k,C) List.mem_cons_self;by_cases hk:k=1
  ·subst hk;have kO:=h_ (λW=>Z66 (w:=W) (bs C) (by rw[Z00];show C.length<=_;have:C.length<=4096:=wT;omega) 4096);obtain⟨⟨ts,E⟩,cR⟩:∃y,decT C 4096=y:=⟨_,rfl⟩;rw[Z0d,cR] at kO;unfold LRes at kO;have mg:=h_ cR;have iI:=Z3P C 4096;rw[cR] at iI;generalize bs C=SC at*;have aF:=h_ ae;clear ak wT ae cR;go_wp2_with fail;refine(kO.o _).mono ?_;rintro x w3 ⟨v,rfl,⟨A3,ld,dX,bH⟩,aw⟩;try simp only at dX bH
   subst dX;have bo:=h_ (al.o.trans (aw.mono al.o.size));obtain⟨z0,z1,aM,dL⟩:=HK.o _ bo.o;by_cases hE:E=0
   ·subst hE;by_cases iB:ts=[]
    ·subst iB;have HR:Hid (R=([],12)):=h_ (by rw[oc.o,Z2n HU.o,mg.o];rw[if_neg (λh=>h.2.2 rfl)]);simp only[List.length_nil];clear bH aw iI;go_wp2;go_returns;exact⟨_,by rw[HR.o];rfl,by rw[HR.o];exact ChR.nil _,aM⟩
    ·have Cn:((ts.length:Int)==0)=false:=by
      rw[beq_eq_false_iff_ne];intro e;exact iB (List.eq_nil_of_length_eq_zero (by omega))
     have hval:Z0e ts=true/\ts.length<=4096:=by
      rcases iI with (h|h)|⟨l,h,_,h2,_,h3⟩
      ·injection h with h _;exact absurd h iB
      ·injection h with h _;exact absurd h iB
      ·injection h with h _;subst h;exact⟨h2,(Z08.1 h2).2.2⟩
     have Ej:Hid (rdCh (a,c) f d=(Z1D (a,c) ts.length [(kq,D)]).map (zipC f ts)):=h_ (by rw[Z2n HU.o,mg.o];exact if_pos ⟨rfl,rfl,iB⟩);have wU:=h_ (λi (h:i<ts.length)=>(Z08.1 hval.1).2.1 ts[i] (List.getElem_mem h));have bu:=hval.2;have bE:=Z1g (P:=Tryz.prog) 64 9 (.string ⟨#[]⟩) 16 Tryz.underlying64 ZaR rfl (ts.length:Int) ts.length rfl (by omega) (by omega) w3;have bU:=(Bk.new w3 9 (Array.replicate ts.length (.string ⟨#[]⟩))).at_;have ka:=bo.o.alloc bo.o.size (.cells (Array.replicate ts.length (.string ⟨#[]⟩)) 9);have kY:=bH.below ((Below.refl w3.heap.size w3).alloc (Nat.le_refl _) (.cells (Array.replicate ts.length (.string ⟨#[]⟩)) 9));have Co:=h_ aw;clear aw iI bH iB hval;have fQ:=Z8b HU.o (kq,D) (by simp);have OY:=h_ (λW=>Zop (w:=W) a c (kq:Int) ts.length D cC.o h3 (by show D.length<=_;have:D.length<=4096:=fQ;omega));obtain⟨O,hO⟩:∃O,dvO (a,c) (kq:Int) D ts.length=O:=⟨_,rfl⟩;rw[hO] at OY;have JV:Hid (Z1D (a,c) ts.length [(kq,D)]=O):=h_ (by rw[Zoo h3];exact hO);have OZ:Hid (∀r,O=some r->r.length=ts.length/\∀v∈r,v.size<=128):=h_ (λr hr=>Zn5 (hO.trans hr));have wV:=(Co.o.trans ((Below.refl w3.heap.size w3).alloc (Nat.le_refl _) (.cells (Array.replicate ts.length (.string ⟨#[]⟩)) 9)|>.mono Co.o.size)).drew
     have vh:∀X,Below (w3.alloc (.cells (Array.replicate ts.length (.string ⟨#[]⟩)) 9)).drew.heap.size (w3.alloc (.cells (Array.replicate ts.length (.string ⟨#[]⟩)) 9)).drew X->X.cell? ⟨w.heap.size,0,none⟩=some (.int .i64 a)/\X.cell? ⟨w.heap.size,1,none⟩=some (.int .i64 c)/\X.cell? ⟨bF,oF+2,none⟩=some (.int .i64 (kq:Int))/\X.cell? ⟨bF,oF+3,none⟩=some (.string (bs D)):=λX h=>by
      have g:=HK.o X (ka.drew.trans (h.mono ka.drew.size));have g2:=wV.trans (h.mono wV.size);exact⟨g.1,g.2.1,Z78 g2 Ei d0,Z78 g2 Ei d1⟩
     have sD:=h_ vh;have h0:=vh _ (Below.refl _ _);have vc:=h_ ka.drew;have JW:=h_ kY;generalize bs D=SD at*;clear hO fQ wV vh ka kY aM bU c0 c1 d0 d1;go_wp2;generalize w3.alloc (.cells (Array.replicate ts.length (.string ⟨#[]⟩)) 9)=wM at*
     go_region_held3 (λX=>X.cell? ⟨w.heap.size,0,none⟩=some (.int .i64 a)/\X.cell? ⟨w.heap.size,1,none⟩=some (.int .i64 c)/\X.cell? ⟨bF,oF+2,none⟩=some (.int .i64 (kq:Int))/\X.cell? ⟨bF,oF+3,none⟩=some (.string SD)) (first|with_reducible assumption) (first
      |(go_at_call 38;with_reducible refine(OY.o _).mono ?_;rintro r w5 ⟨A4,m4,fH,rfl,h4,aM⟩;have H4:=h_ h4;have dN:=sD.o _ aM;have bO:=h_ aM;clear h4 aM))
     have xX:=h_ (vc.o.trans (bO.o.mono vc.o.size));have JX:=h_ (JW.o.drew.below bO.o);clear h0 dN dL z0 z1 Ei;have hz:=HK.o _ xX.o;cases O with
     |none=>
      have HR:Hid (R=([],12)):=h_ (by rw[oc.o,Ej.o,JV.o];rfl);clear H4;have Tz:=hz.2.2.1;clear hz;simp only[Option.isSome_none];go_wp2;go_returns;exact⟨_,by rw[HR.o];rfl,by rw[HR.o];exact ChR.nil _,Tz⟩
     |some vs=>
      clear hz;obtain⟨xm,Cp⟩:=H4.o vs rfl;obtain⟨bm,gb⟩:=OZ.o vs rfl;have JY:=h_ Cp;have nH:=h_ bm;have rf:=h_ gb;have JZ:=h_ JV.o;have DF:m4=ts.length:=xm.trans bm;subst DF;clear xm Cp bm gb H4 OZ JV;simp only[Option.isSome_some];go_wp2;generalize w5=wL at*;go_loopw [19,92] (λvH wW wr=>∃i:Nat,i<=ts.length/\wW=.int .i64 (i:Int)/\Hid (wr.ownsRow wL.heap.size 33 2 vH i (cv ((zipC f ts vs).take i)))/\Hid (Below wL.heap.size wL wr)) (λ_ wW _=>(ts.length-intOf wW).toNat);case atStart=>exact⟨0,Nat.zero_le _,rfl,h_ Z0p,h_ (Below.refl _ _)⟩
      case round=>
       obtain⟨i,hi,rfl,aa,hb⟩:=hrel;obtain⟨A6,jc,rfl,cu⟩:=Z0q aa.o;have tV:=h_ (xX.o.trans (hb.o.mono xX.o.size));obtain⟨z0,z1,dA,K0⟩:=HK.o _ tV.o;by_cases ab:i<ts.length
       ·obtain⟨bT,oT,rfl,TA,t0⟩:=ZkR (JX.o.below hb.o) i ab;obtain⟨bV,oV,rfl,TD,y0⟩:=ZkS (JY.o.below hb.o) i (by rw[nH.o];exact ab);have iP:=Z9B f (ts:=ts) (vs:=vs) nH.o.symm ab;have aX:=wU.o i ab;obtain⟨X,hX⟩:∃X,ts[i]=X:=⟨_,rfl⟩;obtain⟨V,hV⟩:∃V,vs[i]'(by rw[nH.o];exact ab)=V:=⟨_,rfl⟩;rw[hX] at t0 iP aX;rw[hV] at y0 iP;have j1:IntKind.i64.wrap (X+f)=X+f:=(by rw[IntWalk.i64_in _ (by have:=tD.o;omega)]);have j2:IntKind.i64.wrap (X+f+1)=X+f+1:=(by rw[IntWalk.i64_in _ (by have:=tD.o;omega)]);obtain⟨v',W',ag,af,aG⟩:=Z2r aa.o hb.o hb.o.size (by omega) (X+f+1,V);rw[<-iP] at af;have ao:=h_ ag;have az:=h_ af;have cQ:=h_ aG;have ji:(0:Int)<=(i:Int):=(by omega);have ti:(i:Int)<(ts.length:Int):=(by omega);clear ag af aG iP aa hb aX cu hX hV
        go_wp2_with (
         at_builtin;refine Z04 (by with_reducible rfl) rfl _ _ _ rfl _ _ (by rfl) (by rfl) ao.o ?_)
        refine⟨⟨i+1,ab,by go_num,az,cQ⟩,?_⟩;simp[intOf]<;>omega
       ·have aX:i=ts.length:=(by omega);subst aX;rw[List.take_of_length_le (by rw[Z2l f ts vs nH.o.symm];exact Nat.le_refl _)] at cu;have mh:=h_ (JU.o wr A6 jc vs nH.o rf.o cu dA bu);have qu:=h_ cu;have kN:=h_ dA;have sA:Hid (R=if sgV (a,c) f t b (zipC f ts vs)=true then(zipC f ts vs,0) else([],12)):=h_ (by rw[oc.o,Ej.o,JZ.o];rfl);have K8:=h_ (Z2l f ts vs nH.o.symm);obtain⟨B,hB⟩:∃B,sgV (a,c) f t b (zipC f ts vs)=B:=⟨_,rfl⟩;rw[hB] at mh sA;clear aa cu dA hB;cases B with
        |false=>
         have HR:Hid (R=([],12)):=h_ (by rw[sA.o];rfl);go_wp2_with fail;refine(mh.o).mono ?_;rintro x w9 ⟨rfl,bP⟩;have lz:=h_ (kN.o.trans (bP.mono kN.o.size));clear bP;go_wp2;go_returns;exact⟨_,by rw[HR.o];rfl,by rw[HR.o];exact ChR.nil _,lz.o⟩
        |true=>
         have HR:Hid (R=(zipC f ts vs,0)):=h_ (by rw[sA.o];rfl);go_wp2_with fail;refine(mh.o).mono ?_;rintro x w9 ⟨rfl,bP⟩;have lz:=h_ (kN.o.trans (bP.mono kN.o.size));have kM:=h_ (qu.o.below bP);clear bP;go_wp2;go_returns;exact⟨_,by rw[HR.o];rfl,by rw[HR.o];exact⟨_,_,by rw[K8.o];rfl,kM.o⟩,lz.o⟩
   ·have HR:Hid (R=([],12)):=h_ (by rw[oc.o,Z2n HU.o,mg.o];rw[if_neg (λh=>hE h.2.1)]);have Cj:((E:Int) !=0)=true:=(by rw[bne_iff_ne];omega);clear bH aw iI hE;go_wp2;go_returns;exact⟨_,by rw[HR.o];rfl,by rw[HR.o];exact ChR.nil _,aM⟩
  ·have HR:Hid (R=([],12)):=h_ (by rw[oc.o,Z2n HU.o];rw[if_neg (λh=>hk h.1)]);have cS:((k:Int) !=1)=true:=(by rw[bne_iff_ne];omega);clear hk ak wT;go_wp2;go_returns;exact⟨_,by rw[HR.o];rfl,by rw[HR.o];exact ChR.nil _,ae⟩
 ·have HR:Hid (R=([],12)):=h_ (by rw[oc.o,Zch hu (by first|(rw[if_pos rfl];exact hL)|(rw[if_neg h3];exact hL))]);have TE:((fr.length:Int) !=2)=true:=(by rw[bne_iff_ne];omega);clear hL ak hu;go_wp2;go_returns;exact⟨_,by rw[HR.o];rfl,by rw[HR.o];exact ChR.nil _,ae⟩
end Go.Proofs.YtchokmkfobandaaGreatDoor
