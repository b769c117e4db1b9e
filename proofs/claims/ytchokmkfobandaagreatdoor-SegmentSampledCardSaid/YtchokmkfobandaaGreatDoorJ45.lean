import Derived.Test.YtchokmkfobandaaGreatDoorJ43
import Derived.Test.YtchokmkfobandaaGreatDoorJ42
set_option linter.unusedVariables false
set_option linter.unusedSimpArgs false
set_option maxRecDepth 100000
set_option maxHeartbeats 8000000
namespace Go.Proofs.YtchokmkfobandaaGreatDoor
open Go.RowKit Go.Proofs Wv Wv.Vi Wv.Ru Wv.Bc Wv.Sn Wv.Sg Wv.Dc Wv.Fm Wv.Lz
theorem ZdO {w:World} {A:Option Addr} {l:List (Int×ByteArray)} (ha:At w A (cv l)) (n cap:Nat) (hn:n=l.length) (bo:n<=1000000) (c:Int) (D:List UInt8) (E:Nat)
  (kO:∀(W:World) A2 aE,At W A2 (svs (l.map (·.2)))->Calls Tryz.prog 33 #[.int .i64 c,.slice A2 (l.map (·.2)).length aE] W λx w'=>ERes W (D,E) x w'):
  Calls Tryz.prog 16 #[.agg #[.int .i64 0,.int .i64 c],.slice A n cap] w λx w'=>x=.returned (.tuple #[.agg #[.int .i64 2,.string (bs D)],.bool (decide (E=0))])/\Below w.heap.size w w':=by
 have Ha:=h_ ha;have Hn:=h_ hn;have HE:=h_ kO;unfold ERes at HE;simp only at HE;have HK:=h_ (λW h=>Z0S (w:=w) (W:=W) (a:=0) (c:=c) (F:= #[.int .i64 0,.string ⟨#[]⟩]) h);have H0:=h_ (λ(W:World) (B:Nat)=>(Zk:W.ownsRow B 9 1 (.slice none 0 0) 0 []));have yz:Hid (svs ((l.take 0).map (·.2))=[]):=h_ (by rw[Vbw];rfl);generalize bs D=S at*;obtain⟨BE,xG⟩:∃B,decide (E=0)=B:=⟨_,rfl⟩;rw[xG];have ti:=h_ xG;clear xG
 skip
 clear ha hn kO;go_enter Tryz.func16,Tryz.ntmps16;go_wp2;go_loopw [6,15] (λs6 kx wr=>∃i:Nat,i<=n/\kx=.int .i64 (i:Int)/\Hid (wr.ownsRow ((w.alloc (.cells #[.int .i64 0,.int .i64 c] 23)).alloc (.cells #[.int .i64 0,.string ⟨#[]⟩] 36)).heap.size 9 1 s6 i (svs ((l.take i).map (·.2))))/\Hid (Below ((w.alloc (.cells #[.int .i64 0,.int .i64 c] 23)).alloc (.cells #[.int .i64 0,.string ⟨#[]⟩] 36)).heap.size ((w.alloc (.cells #[.int .i64 0,.int .i64 c] 23)).alloc (.cells #[.int .i64 0,.string ⟨#[]⟩] 36)) wr)) (λ_ kx _=>(n-intOf kx).toNat);case atStart=>exact⟨0,Vat _,rfl,h_ (by rw[yz.o];exact H0.o _ _),h_ (Vae _ _)⟩
 case round=>
  obtain⟨i,hi,rfl,aa,hb⟩:=hrel;obtain⟨A5,aY,rfl,bS⟩:=Zl aa.o;obtain⟨g0,g1,g2,g3⟩:=HK.o _ hb.o;by_cases ab:i<n
  ·have bu:i<l.length:=(by rw[<-Hn.o];exact ab);obtain⟨bA,oA,rfl,tf,c0,c1⟩:=Ye (Ha.o.below g3) i bu;have ay:l.take (i+1)=l.take i++[l[i]]:=Vac bu;obtain⟨⟨T,V⟩,hTV⟩:∃y,l[i]=y:=⟨_,rfl⟩;rw[hTV] at c0 c1 ay;simp only at c0 c1;have a7:=hb.o.alloc hb.o.size (.cells #[.int .i64 T,.string V] 33);have ah:=Zn aa.o (Fr.of_below (S:=nob) ((Vae wr.heap.size wr).alloc UZz (.cells #[.int .i64 T,.string V] 33))) (λ_ _ f=>f);obtain⟨v',W',ag,ae,aF,_⟩:=Yq (P:=Tryz.prog) 64 9 _ _ Tryz.underlying64 Z2i rfl ah a7 a7.size (.string V) rfl (by unfold maxLen;omega) (by omega);have jJ:svs ((l.take (i+1)).map (·.2))=svs ((l.take i).map (·.2))++[.string V]:=(by rw[ay,Vbk,<-Z2j];rfl);rw[<-jJ] at ae;rw[World.size_alloc] at ag;have aq:=h_ ag;have aw:=h_ ae;have cE:=h_ aF;have iZ:(0:Int)<=(i:Int):=(by omega);have pY:(i:Int)<(n:Int):=(by omega);clear ag ae aF jJ ay hTV bu a7 ah aa hb bS g2 g3
   go_wp2_with (
    at_builtin;refine Z3 (by with_reducible rfl) rfl _ _ _ rfl _ _ (by rfl) (by rfl) aq.o ?_)
   refine⟨⟨i+1,ab,by go_num,aw,cE⟩,?_⟩;simp[intOf]<;>omega
  ·have aU:i=n:=(by omega);subst aU;rw[Vah (by rw[Hn.o];exact UZz)] at bS;have xH:=HE.o wr A5 aY bS;rw[Vag,<-Hn.o] at xH;have ka:=h_ xH;have Hb:=h_ hb.o;clear aa bS g2 g3 xH;go_wp2_with fail;refine(ka.o).mono ?_;rintro x w3 ⟨rfl,af⟩;obtain⟨q0,q1,k2,k3⟩:=HK.o _ (Hb.o.trans (af.mono Hb.o.size));have c0:=k2.cell 0;have c1:=k2.cell 1;have f0:=k2.frozen 0;have f1:=k2.frozen 1;simp at c0 c1;have hF:=(k2.put 0 (.int .i64 2)).put 1 (.string S);have z0:=hF.cell 0;have z1:=hF.cell 1;simp at z0 z1;have HB:=h_ ((k3.setCell (p:=⟨w.heap.size+1,0,none⟩) (by simp) (.int .i64 2)).setCell (p:=⟨w.heap.size+1,1,none⟩) (by simp) (.string S));clear hF k2 k3 af;by_cases hE:E=0
   ·have lC:Hid (BE=true):=h_ (by rw[<-ti.o,Vao hE]);subst hE;clear ti;go_wp2_with ((with_reducible show bodyPost _ _ _ _ _ _);refine bodyPost_ret (v:=.tuple #[.agg #[.int .i64 2,.string S],.bool true]) (by simp[results,Tryz.results16,go_sem,z0,z1];try rfl) rfl ?_;exact⟨by rw[lC.o],HB.o⟩)
   ·have th:((E:Int)==0)=false:=(by rw[Vam];omega);have lC:Hid (BE=false):=h_ (by rw[<-ti.o,Vai hE]);clear hE ti;go_wp2_with ((with_reducible show bodyPost _ _ _ _ _ _);refine bodyPost_ret (v:=.tuple #[.agg #[.int .i64 2,.string S],.bool false]) (by simp[results,Tryz.results16,go_sem,z0,z1];try rfl) rfl ?_;exact⟨by rw[lC.o],HB.o⟩)
theorem ZdP {w:World} {A:Option Addr} {l:List (Int×ByteArray)} (ha:At w A (cv l)) (n cap:Nat) (hn:n=l.length) (bo:n<=1000000) (a c:Int) (h0:a≠0) (D:List UInt8) (E:Nat)
  (kO:∀(W:World) A2 aE,At W A2 (svs (l.map (·.2)))->Calls Tryz.prog 34 #[.slice A2 (l.map (·.2)).length aE] W λx w'=>ERes W (D,E) x w'):
  Calls Tryz.prog 16 #[.agg #[.int .i64 a,.int .i64 c],.slice A n cap] w λx w'=>x=.returned (.tuple #[.agg #[.int .i64 3,.string (bs D)],.bool (decide (E=0))])/\Below w.heap.size w w':=by
 have Ha:=h_ ha;have Hn:=h_ hn;have HE:=h_ kO;unfold ERes at HE;simp only at HE;have HK:=h_ (λW h=>Z0S (w:=w) (W:=W) (a:=a) (c:=c) (F:= #[.int .i64 0,.string ⟨#[]⟩]) h);have H0:=h_ (λ(W:World) (B:Nat)=>(Zk:W.ownsRow B 9 1 (.slice none 0 0) 0 []));have yz:Hid (svs ((l.take 0).map (·.2))=[]):=h_ (by rw[Vbw];rfl);generalize bs D=S at*;obtain⟨BE,xG⟩:∃B,decide (E=0)=B:=⟨_,rfl⟩;rw[xG];have ti:=h_ xG;clear xG;have h0b:(a==0)=false:=(by rw[Vam];exact h0);clear h0;clear ha hn kO;go_enter Tryz.func16,Tryz.ntmps16;go_wp2;go_loopw [6,15] (λs6 kx wr=>∃i:Nat,i<=n/\kx=.int .i64 (i:Int)/\Hid (wr.ownsRow ((w.alloc (.cells #[.int .i64 a,.int .i64 c] 23)).alloc (.cells #[.int .i64 0,.string ⟨#[]⟩] 36)).heap.size 9 1 s6 i (svs ((l.take i).map (·.2))))/\Hid (Below ((w.alloc (.cells #[.int .i64 a,.int .i64 c] 23)).alloc (.cells #[.int .i64 0,.string ⟨#[]⟩] 36)).heap.size ((w.alloc (.cells #[.int .i64 a,.int .i64 c] 23)).alloc (.cells #[.int .i64 0,.string ⟨#[]⟩] 36)) wr)) (λ_ kx _=>(n-intOf kx).toNat);case atStart=>exact⟨0,Vat _,rfl,h_ (by rw[yz.o];exact H0.o _ _),h_ (Vae _ _)⟩
 case round=>
  obtain⟨i,hi,rfl,aa,hb⟩:=hrel;obtain⟨A5,aY,rfl,bS⟩:=Zl aa.o;obtain⟨g0,g1,g2,g3⟩:=HK.o _ hb.o;by_cases ab:i<n
  ·have bu:i<l.length:=(by rw[<-Hn.o];exact ab);obtain⟨bA,oA,rfl,tf,c0,c1⟩:=Ye (Ha.o.below g3) i bu;have ay:l.take (i+1)=l.take i++[l[i]]:=Vac bu;obtain⟨⟨T,V⟩,hTV⟩:∃y,l[i]=y:=⟨_,rfl⟩;rw[hTV] at c0 c1 ay;simp only at c0 c1;have a7:=hb.o.alloc hb.o.size (.cells #[.int .i64 T,.string V] 33);have ah:=Zn aa.o (Fr.of_below (S:=nob) ((Vae wr.heap.size wr).alloc UZz (.cells #[.int .i64 T,.string V] 33))) (λ_ _ f=>f);obtain⟨v',W',ag,ae,aF,_⟩:=Yq (P:=Tryz.prog) 64 9 _ _ Tryz.underlying64 Z2i rfl ah a7 a7.size (.string V) rfl (by unfold maxLen;omega) (by omega);have jJ:svs ((l.take (i+1)).map (·.2))=svs ((l.take i).map (·.2))++[.string V]:=(by rw[ay,Vbk,<-Z2j];rfl);rw[<-jJ] at ae;rw[World.size_alloc] at ag;have aq:=h_ ag;have aw:=h_ ae;have cE:=h_ aF;have iZ:(0:Int)<=(i:Int):=(by omega);have pY:(i:Int)<(n:Int):=(by omega);clear ag ae aF jJ ay hTV bu a7 ah aa hb bS g2 g3
   go_wp2_with (
    at_builtin;refine Z3 (by with_reducible rfl) rfl _ _ _ rfl _ _ (by rfl) (by rfl) aq.o ?_)
   refine⟨⟨i+1,ab,by go_num,aw,cE⟩,?_⟩;simp[intOf]<;>omega
  ·have aU:i=n:=(by omega);subst aU;rw[Vah (by rw[Hn.o];exact UZz)] at bS;have xH:=HE.o wr A5 aY bS;rw[Vag,<-Hn.o] at xH;have ka:=h_ xH;have Hb:=h_ hb.o;clear aa bS g2 g3 xH;go_wp2_with fail;refine(ka.o).mono ?_;rintro x w3 ⟨rfl,af⟩;obtain⟨q0,q1,k2,k3⟩:=HK.o _ (Hb.o.trans (af.mono Hb.o.size));have c0:=k2.cell 0;have c1:=k2.cell 1;have f0:=k2.frozen 0;have f1:=k2.frozen 1;simp at c0 c1;have hF:=(k2.put 0 (.int .i64 3)).put 1 (.string S);have z0:=hF.cell 0;have z1:=hF.cell 1;simp at z0 z1;have HB:=h_ ((k3.setCell (p:=⟨w.heap.size+1,0,none⟩) (by simp) (.int .i64 3)).setCell (p:=⟨w.heap.size+1,1,none⟩) (by simp) (.string S));clear hF k2 k3 af;by_cases hE:E=0
   ·have lC:Hid (BE=true):=h_ (by rw[<-ti.o,Vao hE]);subst hE;clear ti;go_wp2_with ((with_reducible show bodyPost _ _ _ _ _ _);refine bodyPost_ret (v:=.tuple #[.agg #[.int .i64 3,.string S],.bool true]) (by simp[results,Tryz.results16,go_sem,z0,z1];try rfl) rfl ?_;exact⟨by rw[lC.o],HB.o⟩)
   ·have th:((E:Int)==0)=false:=(by rw[Vam];omega);have lC:Hid (BE=false):=h_ (by rw[<-ti.o,Vai hE]);clear hE ti;go_wp2_with ((with_reducible show bodyPost _ _ _ _ _ _);refine bodyPost_ret (v:=.tuple #[.agg #[.int .i64 3,.string S],.bool false]) (by simp[results,Tryz.results16,go_sem,z0,z1];try rfl) rfl ?_;exact⟨by rw[lC.o],HB.o⟩)
theorem ZdQ {w:World} {A:Option Addr} {l:List (Int×ByteArray)} (ha:At w A (cv l)) (n cap:Nat) (hn:n=l.length) (bo:n<=1000000) (a c:Int) (ad:∀x∈l,x.2.size<=1099511627776):
  Calls Tryz.prog 16 #[.agg #[.int .i64 a,.int .i64 c],.slice A n cap] w λx w'=>x=.returned (.tuple #[.agg #[.int .i64 (fkd (a,c)),.string (bs (vlsE (a,c) (l.map (·.2))).1)],.bool (decide ((vlsE (a,c) (l.map (·.2))).2=0))])/\Below w.heap.size w w':=by
 have gb:∀s∈l.map (·.2),s.size<=1099511627776:=λs h=>by
  obtain⟨x,hx,rfl⟩:=Va6.1 h;exact ad x hx
 have yH:(l.map (·.2)).length<=9223372036854775807:=(by rw[Vag];omega);by_cases h0:a=0
 ·subst h0;have e1:fkd (0,c)=2:=rfl;have e2:vlsE (0,c) (l.map (·.2))=ZW c (l.map (·.2)):=rfl;rw[e1,e2];exact ZdO ha n cap hn bo c _ _ (λW A2 aE h=>Yu h gb _ aE rfl yH c)
 ·have e1:fkd (a,c)=3:=(by unfold fkd;rw[Vad h0]);have e2:vlsE (a,c) (l.map (·.2))=enc (l.map (·.2)):=(by unfold vlsE;rw[Vad h0]);rw[e1,e2];exact ZdP ha n cap hn bo a c h0 _ _ (λW A2 aE h=>Ys h (λs hs=>by have:=gb s hs;omega) _ aE rfl yH)
theorem Z72 {w:World} {A:Option Addr} {l:List (Nat×List UInt8)} (ha:At w A (frs l)) (hk:∀p∈l,p.1<16) (hc:∀p∈l,p.2.length<=1000000000) (n cap:Nat) (hn:n=l.length) (bo:n<=1000):
  Calls Tryz.prog 17 #[.bool true,.slice A n cap] w λx w'=>x=.returned (.tuple #[.string (bs (strm l).1),.int .i64 ((strm l).2:Int)])/\Below w.heap.size w w':=by
 have HE:=h_ (Z2h ha hk hc n cap hn bo)
 have HF:Hid (feV l=match ZK l with
  |none=>.tuple #[.string ⟨#[]⟩,.int .i64 9]
  |some d=>.tuple #[.string (bs d),.int .i64 0]):=h_ rfl
 have HS:Hid (strm l=match ZK l with
  |none=>([],9)
  |some d=>if 4096<d.length then([],9) else(d,0)):=h_ rfl
 have eP:bs ([]:List UInt8)=⟨#[]⟩:=rfl;clear ha hk hc hn;cases hw:ZK l with
 |none=>
  have h1:=HF.o;have h2:=HS.o;rw[hw] at h1 h2;simp only at h1 h2;rw[h1] at HE;have H2:Hid (Ending.returned (.tuple #[.string (bs (strm l).1),.int .i64 ((strm l).2:Int)])=.returned (.tuple #[.string ⟨#[]⟩,.int .i64 9])):=h_ (by rw[h2];rfl);clear h1 h2 HF HS hw eP;go_enter Tryz.func17,Tryz.ntmps17;go_wp2_with fail;refine(HE.o).mono ?_;rintro x w2 ⟨rfl,a8⟩;go_wp2;go_returns;exact⟨by rw[H2.o];rfl,a8⟩
 |some d=>
  have h1:=HF.o;have h2:=HS.o;rw[hw] at h1 h2;simp only at h1 h2;rw[h1] at HE;have ad:(bs d).size=d.length:=Z0 d;by_cases hg:4096<d.length
  ·rw[Vaf hg] at h2;have H2:Hid (Ending.returned (.tuple #[.string (bs (strm l).1),.int .i64 ((strm l).2:Int)])=.returned (.tuple #[.string ⟨#[]⟩,.int .i64 9])):=h_ (by rw[h2];rfl);have Kb:(4096:Int)<((bs d).size:Int):=(by omega);generalize bs d=D at*;clear h1 h2 HF HS hw eP hg ad;go_enter Tryz.func17,Tryz.ntmps17;go_wp2_with fail;refine(HE.o).mono ?_;rintro x w2 ⟨rfl,a8⟩;go_wp2;go_returns;exact⟨by rw[H2.o];rfl,a8⟩
  ·rw[Vad hg] at h2;have H2:Hid (Ending.returned (.tuple #[.string (bs (strm l).1),.int .i64 ((strm l).2:Int)])=.returned (.tuple #[.string (bs d),.int .i64 0])):=h_ (by rw[h2];rfl);have Kb:¬(4096:Int)<((bs d).size:Int):=(by omega);generalize bs d=D at*;clear h1 h2 HF HS hw eP hg ad;go_enter Tryz.func17,Tryz.ntmps17;go_wp2_with fail;refine(HE.o).mono ?_;rintro x w2 ⟨rfl,a8⟩;go_wp2;go_returns;exact⟨by rw[H2.o];rfl,a8⟩
end Go.Proofs.YtchokmkfobandaaGreatDoor
