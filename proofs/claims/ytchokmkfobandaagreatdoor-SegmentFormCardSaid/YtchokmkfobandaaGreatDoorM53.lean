import Derived.Test.YtchokmkfobandaaGreatDoorM48
import Derived.Test.YtchokmkfobandaaGreatDoorM45
set_option linter.unusedVariables false
set_option linter.unusedSimpArgs false
set_option maxRecDepth 100000
set_option maxHeartbeats 8000000
namespace Go.Proofs.YtchokmkfobandaaGreatDoor
open Go.RowKit Go.Proofs Wv Wv.Vi Wv.Bc Wv.Sn Wv.Sg Wv.Dc
theorem Z2r {w:World} {A:Option Addr} {b:ByteArray} {l:List (Int×ByteArray)} (ha:At w A (cv l)) (f t:Int) (n cap:Nat) (hn:n=l.length) (bf:n<=9223372036854775807) (ev:Bool):
  Calls Tryz.prog 27 #[.int .i64 f,.int .i64 t,.string b,.slice A n cap,.bool ev] w λx w'=>x=.returned (.bool (risR ev f t b l))/\Below w.heap.size w w':=by
 have Ha:=h_ ha;have Hn:=h_ hn;have HI:=h_ (λW=>Z4e f t W);have HS:Hid (risR ev f t b l=(itv f t&&decide (n<=4096)&&ris ev t f b l)):=h_ (by rw[hn];rfl);clear ha hn;obtain⟨I,hI⟩:∃I,itv f t=I:=⟨_,rfl⟩;rw[hI] at HI HS;clear hI;cases I with
 |false=>
  have HR:Hid (risR ev f t b l=false):=h_ (by rw[HS.o];rfl);clear HS;go_enter Tryz.func27,Tryz.ntmps27;go_wp2_with fail;refine(HI.o _).mono ?_;rintro x w1 ⟨rfl,rfl⟩;go_wp2;go_returns;exact⟨Z2 HR.o.symm,Vae _ _⟩
 |true=>
  by_cases h4:(4096:Int)<(n:Int)
  ·have HR:Hid (risR ev f t b l=false):=h_ (by rw[HS.o,Vah (by omega)];rfl);clear HS;go_enter Tryz.func27,Tryz.ntmps27;go_wp2_with fail;refine(HI.o _).mono ?_;rintro x w1 ⟨rfl,rfl⟩;go_wp2;go_returns;exact⟨Z2 HR.o.symm,Vae _ _⟩
  ·have HR:Hid (risR ev f t b l=ris ev t f b l):=h_ (by rw[HS.o,Vam (by omega)];rfl);clear HS;go_enter Tryz.func27,Tryz.ntmps27;go_wp2_with fail;refine(HI.o _).mono ?_;rintro x w1 ⟨rfl,rfl⟩;go_wp2;go_loopw [11,12,13] (λjU mi lp wr=>∃(k m:Nat) (q:Int) (d:ByteArray),k<=n/\lp=.int .i64 (k:Int)/\jU=.int .i64 q/\mi=.string d/\Hid (ris ev t f b l=ris ev t q d (l.drop k))/\wr=w.drewN m) (λ_ _ lp _=>(n-intOf lp).toNat);case atStart=>exact⟨0,0,f,b,Var _,rfl,rfl,rfl,h_ rfl,rfl⟩
   case round=>
    obtain⟨k,m,q,d,hk,rfl,rfl,rfl,ao,rfl⟩:=hrel;by_cases ab:k<n
    ·have bh:k<l.length:=(by rw[<-Hn.o];exact ab);obtain⟨bA,oA,rfl,lV,c0,c1⟩:=ZP Ha.o k bh;have aq:=Zgm (ev:=ev) (t:=t) (a:=q) (b:=d) bh;obtain⟨⟨x,v⟩,hs⟩:∃y,l[k]=y:=⟨_,rfl⟩;rw[hs] at c0 c1 aq;simp only at c0 c1 aq;have aS:Hid (risR ev f t b l=_):=h_ (HR.o.trans (ao.o.trans aq));have cg:(0:Int)<=(k:Int):=(by omega);have gq:(k:Int)<(n:Int):=(by omega);clear aq hs bh;by_cases hq:x<=q
     ·have aQ:Hid (risR ev f t b l=false):=h_ (by rw[aS.o,Vah (show ¬q<x by omega)];rfl);go_wp2;go_returns;exact⟨Z2 aQ.o.symm,⟨rfl,rfl,rfl,UZz,λ_ _=>rfl⟩⟩
     ·by_cases ht:t<x
      ·have aQ:Hid (risR ev f t b l=false):=h_ (by rw[aS.o,Vah (show ¬x<=t by omega)];simp);go_wp2;go_returns;exact⟨Z2 aQ.o.symm,⟨rfl,rfl,rfl,UZz,λ_ _=>rfl⟩⟩
      ·have cE:Hid (risR ev f t b l=((ev|| !decide (v=d))&&ris ev t x v (l.drop (k+1)))):=h_ (by rw[aS.o,Vam (show q<x by omega),Vam (show x<=t by omega)];simp);cases ev with
       |true=>
        have dm:Hid (ris true t f b l=ris true t x v (l.drop (k+1))):=h_ (by rw[<-HR.o,cE.o];simp);clear aS cE ao;go_wp2;go_quiet (fail);go_wp2
        all_goals first
         |(refine⟨⟨k+1,_,x,v,ab,by go_num,rfl,rfl,dm,rfl⟩,?_⟩;simp[intOf]<;>omega)
       |false=>
        have heq:=ZdC v d;by_cases he:v=d
        ·have aQ:Hid (risR false f t b l=false):=h_ (by rw[cE.o,Vam he];rfl);rw[Vam he] at heq;clear aS cE ao he;go_wp2;go_returns;exact⟨Z2 aQ.o.symm,⟨rfl,rfl,rfl,UZz,λ_ _=>rfl⟩⟩
        ·have dm:Hid (ris false t f b l=ris false t x v (l.drop (k+1))):=h_ (by rw[<-HR.o,cE.o,Vah he];simp);rw[Vah he] at heq;clear aS cE ao he;go_wp2;go_quiet (fail);go_wp2
         all_goals first
          |(refine⟨⟨k+1,_,x,v,ab,by go_num,rfl,rfl,dm,rfl⟩,?_⟩;simp[intOf]<;>omega)
    ·have dY:k=n:=(by omega);subst dY;have aQ:Hid (risR ev f t b l=true):=h_ (by rw[HR.o,ao.o,Vbb (by rw[Hn.o];exact UZz)];rfl);clear ao;go_wp2;go_returns;exact⟨Z2 aQ.o.symm,⟨rfl,rfl,rfl,UZz,λ_ _=>rfl⟩⟩
theorem Ze2 {w:World} {A:Option Addr} {b:ByteArray} {l:List (Int×ByteArray)} (ha:At w A (cv l)) (c f t:Int) (hv:VaC 3 c w) (bz:b.size<=1099511627776) (ad:∀x∈l,x.2.size<=1099511627776) (n cap:Nat) (hn:n=l.length) (bf:n<=9223372036854775807):
  Calls Tryz.prog 12 #[.agg #[.int .i64 3,.int .i64 c],.int .i64 f,.int .i64 t,.string b,.slice A n cap] w λx w'=>x=.returned (.bool (sgV (3,c) f t b l))/\Below w.heap.size w w':=by
 have Ha:=h_ ha;have Hn:=h_ hn;have HT:=h_ (λW=>Z2j 3 c W);have HV:=h_ (λv h W hW=>hv v h W hW);have lH:=h_ (λW hW=>hv b bz W hW);have HG:=h_ (λW (hb:Below w.heap.size w W)=>Z2r (b:=b) (ha.below hb) f t n cap hn bf true);have HS:Hid (sgV (3,c) f t b l=(tyB (3,c)&&vaB Z6 (3,c) (toL b)&&risR true f t b l&&l.all (λx=>vaB Z6 (3,c) (toL x.2)))):=h_ (by rw[Zdv];rfl);have cC:=h_ (λi (h:i<l.length)=>ad _ (Vaj h));have HK:=h_ (λW h=>Y5 (w:=w) (W:=W) (a:=3) (c:=c) h)
 skip
 clear ha hn hv ad bz;obtain⟨z0,z1,po,fl⟩:=HK.o _ (Vae _ _);have EA:=h_ po;clear po;obtain⟨T,hT⟩:∃T,tyB (3,c)=T:=⟨_,rfl⟩;rw[hT] at HT HS;clear hT;cases T with
 |false=>
  have HR:Hid (sgV (3,c) f t b l=false):=h_ (by rw[HS.o];rfl);clear HS;go_enter Tryz.func12,Tryz.ntmps12;go_wp2_with fail;refine(HT.o _).mono ?_;rintro x w1 ⟨rfl,a7⟩;obtain⟨_,_,a8,_⟩:=HK.o _ a7;go_wp2;go_returns;exact⟨Z2 HR.o.symm,a8⟩
 |true=>
  obtain⟨B,hB⟩:∃B,vaB Z6 (3,c) (toL b)=B:=⟨_,rfl⟩;rw[hB] at lH HS;clear hB;cases B with
  |false=>
   have HR:Hid (sgV (3,c) f t b l=false):=h_ (by rw[HS.o];rfl);clear HS;go_enter Tryz.func12,Tryz.ntmps12;go_wp2_with fail;refine(HT.o _).mono ?_;rintro x w1 ⟨rfl,a7⟩;clear z0 z1 fl;obtain⟨z0,z1,a8,_⟩:=HK.o _ a7;have ak:=h_ a8;clear a7 a8;go_wp2_with fail;refine(lH.o _ ak.o).mono ?_;rintro x w2 ⟨rfl,af⟩;have aA:=h_ (ak.o.trans (af.mono ak.o.size));clear af;go_wp2;go_returns;exact⟨Z2 HR.o.symm,aA.o⟩
  |true=>
   obtain⟨G,hG⟩:∃G,risR true f t b l=G:=⟨_,rfl⟩;rw[hG] at HG HS;clear hG;cases G with
   |false=>
    have HR:Hid (sgV (3,c) f t b l=false):=h_ (by rw[HS.o];rfl);clear HS;go_enter Tryz.func12,Tryz.ntmps12;go_wp2_with fail;refine(HT.o _).mono ?_;rintro x w1 ⟨rfl,a7⟩;clear z0 z1 fl;obtain⟨z0,z1,a8,_⟩:=HK.o _ a7;have al:=h_ a7;have ak:=h_ a8;clear a7 a8;go_wp2_with fail;refine(lH.o _ ak.o).mono ?_;rintro x w2 ⟨rfl,af⟩;have aA:=h_ (al.o.trans (af.mono al.o.size));clear af z0 z1;obtain⟨z0,z1,au,_⟩:=HK.o _ aA.o;have gV:=h_ (HG.o _ au);have aU:=h_ au;clear au;go_wp2_with fail;refine(gV.o).mono ?_;rintro x w3 ⟨rfl,aB⟩;have bj:=h_ (aU.o.trans (aB.mono aU.o.size));clear aB;go_wp2;go_returns;exact⟨Z2 HR.o.symm,bj.o⟩
   |true=>
    have HR:Hid (sgV (3,c) f t b l=l.all (λx=>vaB Z6 (3,c) (toL x.2))):=h_ (by rw[HS.o];rfl);clear HS;go_enter Tryz.func12,Tryz.ntmps12;go_wp2_with fail;refine(HT.o _).mono ?_;rintro x w1 ⟨rfl,a7⟩;clear z0 z1 fl;obtain⟨z0,z1,a8,_⟩:=HK.o _ a7;have al:=h_ a7;have ak:=h_ a8;clear a7 a8;go_wp2_with fail;refine(lH.o _ ak.o).mono ?_;rintro x w2 ⟨rfl,af⟩;have aA:=h_ (al.o.trans (af.mono al.o.size));clear af z0 z1;obtain⟨z0,z1,au,_⟩:=HK.o _ aA.o;have gV:=h_ (HG.o _ au);clear au;go_wp2_with fail;refine(gV.o).mono ?_;rintro x w3 ⟨rfl,aB⟩;have bj:=h_ (aA.o.trans (aB.mono aA.o.size));clear aB z0 z1 HG gV lH HT;go_wp2;go_loopw [41] (λxN wr=>∃k:Nat,k<=n/\xN=.int .i64 (k:Int)/\Hid ((l.take k).all (λx=>vaB Z6 (3,c) (toL x.2))=true)/\Hid (Below (w.alloc (.cells #[.int .i64 3,.int .i64 c] 23)).heap.size (w.alloc (.cells #[.int .i64 3,.int .i64 c] 23)) wr)) (λxN _=>(n-intOf xN).toNat);case atStart=>exact⟨0,Var _,rfl,h_ rfl,bj⟩
    case round=>
     clear bj;obtain⟨k,hk,rfl,ao,hb⟩:=hrel;obtain⟨z0,z1,cA,dc⟩:=HK.o _ hb.o;by_cases ab:k<n
     ·have bh:k<l.length:=(by rw[<-Hn.o];exact ab);obtain⟨bA,oA,rfl,lV,c0,c1⟩:=ZP (Ha.o.below cA) k bh;have ax:l.take (k+1)=l.take k++[l[k]]:=Vac bh;have dy:l[k]∈l:=Vaj _;have di:=cC.o k bh;obtain⟨⟨x,v⟩,hs⟩:∃y,l[k]=y:=⟨_,rfl⟩;rw[hs] at c0 c1 ax dy di;simp only at c0 c1 di;have fq:=h_ (hb.o.alloc hb.o.size (.cells #[.int .i64 x,.string v] 33));have nj:=h_ (HV.o v di _ (HK.o _ fq.o).2.2.1);obtain⟨B,hB⟩:∃B,vaB Z6 (3,c) (toL v)=B:=⟨_,rfl⟩;rw[hB] at nj;have cg:(0:Int)<=(k:Int):=(by omega);have gq:(k:Int)<(n:Int):=(by omega);cases B with
      |false=>
       have aQ:Hid (sgV (3,c) f t b l=false):=h_ (by rw[HR.o,Vc6];exact⟨_,dy,by rw[hB];decide⟩);clear ax dy hs bh hB hb ao di cA;go_wp2_with fail;refine(nj.o).mono ?_;rintro y w6 ⟨rfl,bQ⟩;have aN:=(HK.o _ (fq.o.trans (bQ.mono fq.o.size))).2.2.1;clear bQ;go_wp2;go_returns;exact⟨Z2 aQ.o.symm,aN⟩
      |true=>
       have dm:Hid ((l.take (k+1)).all (λx=>vaB Z6 (3,c) (toL x.2))=true):=h_ (by
        rw[ax,List.all_append,ao.o];simp[hB])
       clear ax dy hs bh hB hb ao di cA;go_wp2_with fail;refine(nj.o).mono ?_;rintro y w6 ⟨rfl,bQ⟩;have cQ:=h_ (fq.o.trans (bQ.mono fq.o.size));clear bQ;go_wp2;refine⟨⟨k+1,ab,by go_num,dm,cQ⟩,?_⟩;simp[intOf]<;>omega
     ·have dY:k=n:=(by omega);subst dY
      have aQ:Hid (sgV (3,c) f t b l=true):=h_ (by
       have h:=ao.o;rw[Vai (by rw[Hn.o];exact UZz)] at h;rw[HR.o,h])
      clear ao;go_wp2;go_returns;exact⟨Z2 aQ.o.symm,cA⟩
theorem Ze3 {w:World} {A:Option Addr} {b:ByteArray} {l:List (Int×ByteArray)} (ha:At w A (cv l)) (a c f t:Int) (hv:VaC a c w) (bz:b.size<=1099511627776) (ad:∀x∈l,x.2.size<=1099511627776) (n cap:Nat) (hn:n=l.length) (bf:n<=9223372036854775807) (h3:a≠3):
  Calls Tryz.prog 12 #[.agg #[.int .i64 a,.int .i64 c],.int .i64 f,.int .i64 t,.string b,.slice A n cap] w λx w'=>x=.returned (.bool (sgV (a,c) f t b l))/\Below w.heap.size w w':=by
 have Ha:=h_ ha;have Hn:=h_ hn;have HT:=h_ (λW=>Z2j a c W);have HV:=h_ (λv h W hW=>hv v h W hW);have lH:=h_ (λW hW=>hv b bz W hW);have HG:=h_ (λW (hb:Below w.heap.size w W)=>Z2r (b:=b) (ha.below hb) f t n cap hn bf false);have HS:Hid (sgV (a,c) f t b l=(tyB (a,c)&&vaB Z6 (a,c) (toL b)&&risR false f t b l&&l.all (λx=>vaB Z6 (a,c) (toL x.2)))):=h_ (by rw[Zdv];rw[Vah (show ¬(a,c).1=3 from h3)]);have cC:=h_ (λi (h:i<l.length)=>ad _ (Vaj h));have HK:=h_ (λW h=>Y5 (w:=w) (W:=W) (a:=a) (c:=c) h);have xy:(a==3)=false:=(by rw[Van];exact h3);clear h3;clear ha hn hv ad bz;obtain⟨z0,z1,po,fl⟩:=HK.o _ (Vae _ _);have EA:=h_ po;clear po;obtain⟨T,hT⟩:∃T,tyB (a,c)=T:=⟨_,rfl⟩;rw[hT] at HT HS;clear hT;cases T with
 |false=>
  have HR:Hid (sgV (a,c) f t b l=false):=h_ (by rw[HS.o];rfl);clear HS;go_enter Tryz.func12,Tryz.ntmps12;go_wp2_with fail;refine(HT.o _).mono ?_;rintro x w1 ⟨rfl,a7⟩;obtain⟨_,_,a8,_⟩:=HK.o _ a7;go_wp2;go_returns;exact⟨Z2 HR.o.symm,a8⟩
 |true=>
  obtain⟨B,hB⟩:∃B,vaB Z6 (a,c) (toL b)=B:=⟨_,rfl⟩;rw[hB] at lH HS;clear hB;cases B with
  |false=>
   have HR:Hid (sgV (a,c) f t b l=false):=h_ (by rw[HS.o];rfl);clear HS;go_enter Tryz.func12,Tryz.ntmps12;go_wp2_with fail;refine(HT.o _).mono ?_;rintro x w1 ⟨rfl,a7⟩;clear z0 z1 fl;obtain⟨z0,z1,a8,_⟩:=HK.o _ a7;have ak:=h_ a8;clear a7 a8;go_wp2_with fail;refine(lH.o _ ak.o).mono ?_;rintro x w2 ⟨rfl,af⟩;have aA:=h_ (ak.o.trans (af.mono ak.o.size));clear af;go_wp2;go_returns;exact⟨Z2 HR.o.symm,aA.o⟩
  |true=>
   obtain⟨G,hG⟩:∃G,risR false f t b l=G:=⟨_,rfl⟩;rw[hG] at HG HS;clear hG;cases G with
   |false=>
    have HR:Hid (sgV (a,c) f t b l=false):=h_ (by rw[HS.o];rfl);clear HS;go_enter Tryz.func12,Tryz.ntmps12;go_wp2_with fail;refine(HT.o _).mono ?_;rintro x w1 ⟨rfl,a7⟩;clear z0 z1 fl;obtain⟨z0,z1,a8,_⟩:=HK.o _ a7;have al:=h_ a7;have ak:=h_ a8;clear a7 a8;go_wp2_with fail;refine(lH.o _ ak.o).mono ?_;rintro x w2 ⟨rfl,af⟩;have aA:=h_ (al.o.trans (af.mono al.o.size));clear af z0 z1;obtain⟨z0,z1,au,_⟩:=HK.o _ aA.o;have gV:=h_ (HG.o _ au);have aU:=h_ au;clear au;go_wp2_with fail;refine(gV.o).mono ?_;rintro x w3 ⟨rfl,aB⟩;have bj:=h_ (aU.o.trans (aB.mono aU.o.size));clear aB;go_wp2;go_returns;exact⟨Z2 HR.o.symm,bj.o⟩
   |true=>
    have HR:Hid (sgV (a,c) f t b l=l.all (λx=>vaB Z6 (a,c) (toL x.2))):=h_ (by rw[HS.o];rfl);clear HS;go_enter Tryz.func12,Tryz.ntmps12;go_wp2_with fail;refine(HT.o _).mono ?_;rintro x w1 ⟨rfl,a7⟩;clear z0 z1 fl;obtain⟨z0,z1,a8,_⟩:=HK.o _ a7;have al:=h_ a7;have ak:=h_ a8;clear a7 a8;go_wp2_with fail;refine(lH.o _ ak.o).mono ?_;rintro x w2 ⟨rfl,af⟩;have aA:=h_ (al.o.trans (af.mono al.o.size));clear af z0 z1;obtain⟨z0,z1,au,_⟩:=HK.o _ aA.o;have gV:=h_ (HG.o _ au);clear au;go_wp2_with fail;refine(gV.o).mono ?_;rintro x w3 ⟨rfl,aB⟩;have bj:=h_ (aA.o.trans (aB.mono aA.o.size));clear aB z0 z1 HG gV lH HT;go_wp2;go_loopw [41] (λxN wr=>∃k:Nat,k<=n/\xN=.int .i64 (k:Int)/\Hid ((l.take k).all (λx=>vaB Z6 (a,c) (toL x.2))=true)/\Hid (Below (w.alloc (.cells #[.int .i64 a,.int .i64 c] 23)).heap.size (w.alloc (.cells #[.int .i64 a,.int .i64 c] 23)) wr)) (λxN _=>(n-intOf xN).toNat);case atStart=>exact⟨0,Var _,rfl,h_ rfl,bj⟩
    case round=>
     clear bj;obtain⟨k,hk,rfl,ao,hb⟩:=hrel;obtain⟨z0,z1,cA,dc⟩:=HK.o _ hb.o;by_cases ab:k<n
     ·have bh:k<l.length:=(by rw[<-Hn.o];exact ab);obtain⟨bA,oA,rfl,lV,c0,c1⟩:=ZP (Ha.o.below cA) k bh;have ax:l.take (k+1)=l.take k++[l[k]]:=Vac bh;have dy:l[k]∈l:=Vaj _;have di:=cC.o k bh;obtain⟨⟨x,v⟩,hs⟩:∃y,l[k]=y:=⟨_,rfl⟩;rw[hs] at c0 c1 ax dy di;simp only at c0 c1 di;have fq:=h_ (hb.o.alloc hb.o.size (.cells #[.int .i64 x,.string v] 33));have nj:=h_ (HV.o v di _ (HK.o _ fq.o).2.2.1);obtain⟨B,hB⟩:∃B,vaB Z6 (a,c) (toL v)=B:=⟨_,rfl⟩;rw[hB] at nj;have cg:(0:Int)<=(k:Int):=(by omega);have gq:(k:Int)<(n:Int):=(by omega);cases B with
      |false=>
       have aQ:Hid (sgV (a,c) f t b l=false):=h_ (by rw[HR.o,Vc6];exact⟨_,dy,by rw[hB];decide⟩);clear ax dy hs bh hB hb ao di cA;go_wp2_with fail;refine(nj.o).mono ?_;rintro y w6 ⟨rfl,bQ⟩;have aN:=(HK.o _ (fq.o.trans (bQ.mono fq.o.size))).2.2.1;clear bQ;go_wp2;go_returns;exact⟨Z2 aQ.o.symm,aN⟩
      |true=>
       have dm:Hid ((l.take (k+1)).all (λx=>vaB Z6 (a,c) (toL x.2))=true):=h_ (by
        rw[ax,List.all_append,ao.o];simp[hB])
       clear ax dy hs bh hB hb ao di cA;go_wp2_with fail;refine(nj.o).mono ?_;rintro y w6 ⟨rfl,bQ⟩;have cQ:=h_ (fq.o.trans (bQ.mono fq.o.size));clear bQ;go_wp2;refine⟨⟨k+1,ab,by go_num,dm,cQ⟩,?_⟩;simp[intOf]<;>omega
     ·have dY:k=n:=(by omega);subst dY
      have aQ:Hid (sgV (a,c) f t b l=true):=h_ (by
       have h:=ao.o;rw[Vai (by rw[Hn.o];exact UZz)] at h;rw[HR.o,h])
      clear ao;go_wp2;go_returns;exact⟨Z2 aQ.o.symm,cA⟩
theorem Z73 {w:World} {A:Option Addr} {b:ByteArray} {l:List (Int×ByteArray)} (ha:At w A (cv l)) (a c f t:Int) (hv:VaC a c w) (bz:b.size<=1099511627776) (ad:∀x∈l,x.2.size<=1099511627776) (n cap:Nat) (hn:n=l.length) (bf:n<=9223372036854775807):
  Calls Tryz.prog 12 #[.agg #[.int .i64 a,.int .i64 c],.int .i64 f,.int .i64 t,.string b,.slice A n cap] w λx w'=>x=.returned (.bool (sgV (a,c) f t b l))/\Below w.heap.size w w':=by
 by_cases h3:a=3
 ·subst h3;exact Ze2 ha c f t hv bz ad n cap hn bf
 ·exact Ze3 ha a c f t hv bz ad n cap hn bf h3
open Wv.Ru Wv.Tm
theorem Z9O (a c:Int) (KD:I64 a/\I64 c) (f:Int) (hf:I64 f) (t:Int) (ht:I64 t) (b:ByteArray) (hb:b.size<=9223372036854775807) {w:World} {A:Option Addr} {l:List (Int×ByteArray)} (ha:At w A (cv l)) (hl:∀c∈l,I64 c.1/\c.2.size<=9223372036854775807) (n cap:Nat) (hn:n=l.length) (bf:n<=9223372036854775807) (lQ:Tab w):
  Calls Tryz.prog 3 #[.agg #[.int .i64 a,.int .i64 c],.int .i64 f,.int .i64 t,.string b,.slice A n cap] w λx w'=>x=.returned (.bool true)/\Below w.heap.size w w':=by
 have HK:=h_ (λW h=>Y5 (w:=w) (W:=W) (a:=a) (c:=c) h);have rG:=h_ (λW=>Z3i W);have mN:=h_ (λW (h:Below w.heap.size w W)=>ZdZ a c (lQ.below h));have HF:=h_ (λW (h:Below w.heap.size w W)=>Zgk (ha.below h) n cap hn bf 60);clear KD hl hb lQ hf ht;cases hfw:fewB l 60 with
 |false=>
  rw[hfw] at HF;clear ha hn bf hfw mN;go_enter Tryz.func3,Tryz.ntmps3;go_wp2_with fail;refine(rG.o _).mono ?_;rintro x w1 ⟨rfl,a7⟩;have al:=h_ a7;obtain⟨z0,z1,lL,bW⟩:=HK.o _ a7;have lM:=h_ lL;clear a7 lL;go_wp2_with fail;refine(HF.o _ lM.o).mono ?_;rintro x w2 ⟨rfl,rfl⟩;go_wp2;go_returns;exact⟨rfl,lM.o⟩
 |true=>
  rw[hfw] at HF;obtain⟨qV,jZ⟩:=Zgu hfw;by_cases V1:(150:Int)<(b.size:Int)
  ·clear ha hn bf hfw qV jZ mN;go_enter Tryz.func3,Tryz.ntmps3;go_wp2_with fail;refine(rG.o _).mono ?_;rintro x w1 ⟨rfl,a7⟩;have al:=h_ a7;obtain⟨z0,z1,lL,bW⟩:=HK.o _ a7;have lM:=h_ lL;clear a7 lL;go_wp2_with fail;refine(HF.o _ lM.o).mono ?_;rintro x w2 ⟨rfl,rfl⟩;go_wp2;go_returns;exact⟨rfl,lM.o⟩
  ·have bz:b.size<=1099511627776:=(by omega);have ad:∀x∈l,x.2.size<=1099511627776:=λx hx=>(by have:=jZ x hx;omega);have HW:=h_ (λW (h:Below w.heap.size w W)=>Z73 (ha.below h) a c f t (mN.o W h) bz ad n cap hn bf);have HV:=h_ (λW (h:Below w.heap.size w W)=>Y0 (ha.below h) a c f t (mN.o W h) bz ad n cap hn bf);obtain⟨⟨d,e⟩,hE⟩:∃y,sgE (a,c) f t b l=y:=⟨_,rfl⟩;have HE:=h_ (λW (h:Below w.heap.size w W)=>Zgy (ha.below h) a c f t (mN.o W h) bz ad n cap hn bf hE);cases aV:sgV (a,c) f t b l with
   |false=>
    rw[aV] at HW HV;rw[Zhi aV] at hE;injection hE with e1 e2;subst e1;subst e2;rw[show bs ([]:List UInt8)=⟨#[]⟩ from rfl] at HE;clear ha hn bf hfw qV jZ mN bz ad aV;go_enter Tryz.func3,Tryz.ntmps3;go_wp2_with fail;refine(rG.o _).mono ?_;rintro x w1 ⟨rfl,a7⟩;have al:=h_ a7;obtain⟨z0,z1,lL,bW⟩:=HK.o _ a7;have lM:=h_ lL;clear a7 lL;go_wp2_with fail;refine(HF.o _ lM.o).mono ?_;rintro x w2 ⟨rfl,rfl⟩;have xO:=h_ (HW.o _ lM.o);go_wp2_with fail;refine(xO.o).mono ?_;rintro x w3 ⟨rfl,af⟩;have aA:=h_ (al.o.trans (af.mono al.o.size));clear af z0 z1 bW;obtain⟨z0,z1,qW,tX⟩:=HK.o _ aA.o;have kF:=h_ (HE.o _ qW);clear qW;go_wp2_with fail;refine(kF.o).mono ?_;rintro x w4 ⟨rfl,au⟩;have aU:=h_ (aA.o.trans (au.mono aA.o.size));clear au z0 z1 tX;obtain⟨z0,z1,mn,el⟩:=HK.o _ aU.o;have kJ:=h_ (HV.o _ mn);clear mn;go_wp2_with fail;refine(kJ.o).mono ?_;rintro x w5 ⟨rfl,aB⟩;have bj:=h_ (aU.o.trans (aB.mono aU.o.size));clear aB z0 z1 el;obtain⟨z0,z1,ni,sN⟩:=HK.o _ bj.o;have uI:=h_ ni;clear ni;go_wp2;go_returns;exact⟨rfl,uI.o⟩
   |true=>
    rw[aV] at HW HV;by_cases h0:l=[]
    ·subst h0;rw[ZdJ aV] at hE;injection hE with e1 e2;subst e1;subst e2;rw[show bs ([]:List UInt8)=⟨#[]⟩ from rfl] at HE;have mR:n=0:=hn;subst mR;clear ha hn bf hfw qV jZ mN bz ad aV;go_enter Tryz.func3,Tryz.ntmps3;go_wp2_with fail;refine(rG.o _).mono ?_;rintro x w1 ⟨rfl,a7⟩;have al:=h_ a7;obtain⟨z0,z1,lL,bW⟩:=HK.o _ a7;have lM:=h_ lL;clear a7 lL;go_wp2_with fail;refine(HF.o _ lM.o).mono ?_;rintro x w2 ⟨rfl,rfl⟩;have xO:=h_ (HW.o _ lM.o);go_wp2_with fail;refine(xO.o).mono ?_;rintro x w3 ⟨rfl,af⟩;have aA:=h_ (al.o.trans (af.mono al.o.size));clear af z0 z1 bW;obtain⟨z0,z1,qW,tX⟩:=HK.o _ aA.o;have kF:=h_ (HE.o _ qW);clear qW;go_wp2_with fail;refine(kF.o).mono ?_;rintro x w4 ⟨rfl,au⟩;have aU:=h_ (aA.o.trans (au.mono aA.o.size));clear au z0 z1 tX;obtain⟨z0,z1,mn,el⟩:=HK.o _ aU.o;have kJ:=h_ (HV.o _ mn);clear mn;go_wp2_with fail;refine(kJ.o).mono ?_;rintro x w5 ⟨rfl,aB⟩;have bj:=h_ (aU.o.trans (aB.mono aU.o.size));clear aB z0 z1 el;obtain⟨z0,z1,ni,sN⟩:=HK.o _ bj.o;have uI:=h_ ni;clear ni;go_wp2;go_returns;exact⟨rfl,uI.o⟩
    ·rw[Zhj aV h0] at hE;obtain⟨v1,v2,v3,v4,v5⟩:=XV.1 aV;obtain⟨i1,i2,i3⟩:=XT.1 v2;have hT:=Z0s aV;obtain⟨cc,_,_,xC⟩:=YR hT;have ny:=Z5I (tms f l);have xD:(encT (tms f l)).2=0:=(by rw[xC])
     have dU:∀v∈l.map (·.2),vaB Z6 (a,c) (toL v)=true:=λv hm=>by
      obtain⟨x,hx,rfl⟩:=Va6.1 hm;exact Ql v5 x hx
     have eZ:(tms f l).length=l.length:=(by unfold tms;rw[Vag]);have fI:n<=4096:=(by omega)
     have rX:((n:Int)==0)=false:=by
      rw[Van];intro e;exact h0 (Vak (by omega))
     have D6:=h_ (λi (h:i<l.length)=>Z71 v5 _ (Vaj h));have D7:=h_ (λi (h:i<l.length)=>Z8o f l i h);have Ha:=h_ ha;have Hn:=h_ hn;have nC:=h_ (λ(W:World) A2 aE (h:At W A2 (ivs (tms f l)))=>QT h n aE (by rw[eZ,hn]) bf);unfold ERes at nC;rw[xD] at nC;have qT:Hid (tms f (l.take n)=tms f l):=h_ (by rw[Vai (by rw[hn];exact UZz)]);have Hi:Hid (-1<=f/\t<=1099511627776):=h_ ⟨i1,i3⟩;obtain⟨T,jY⟩:∃T,(encT (tms f l)).1=T:=⟨_,rfl⟩;rw[jY] at nC ny;have dB:frms (a,c) f l=(1,T)::if a=3 then[] else[(fkd (a,c),(vlsE (a,c) (l.map (·.2))).1)]:=by unfold frms;rw[jY]
     have heq:((bs d).toList==(bs d).toList)=true:=Vcr _;have J0:((e:Int)==(e:Int))=true:=Vcr _;by_cases h3:a=3
     ·rw[Vaf h3] at dB;rw[dB] at hE;have HS:=h_ (λ(W:World) A2 (h:At W A2 (frs [(1,T)])) aE=>Z2q h (λp hp=>by rw[Vax.1 hp];show(1:Nat)<16;decide) (λp hp=>by rw[Vax.1 hp];show T.length<=_;omega) 1 aE rfl (by decide));rw[hE] at HS;simp only at HS;have fV:frs [(1,T)]=[.int .i64 1,.string (bs T)]:=rfl;have ky:=h_ fV;subst h3;generalize bs T=S at*;generalize bs d=SD at*;clear ha bz ad hn aV h0 hE v1 v2 v3 v4 v5 hT xC xD dU eZ jY dB ny i1 i2 i3 fV hfw qV jZ mN;go_enter Tryz.func3,Tryz.ntmps3;go_wp2_with fail;refine(rG.o _).mono ?_;rintro x w1 ⟨rfl,a7⟩;have al:=h_ a7;obtain⟨z0,z1,lL,bW⟩:=HK.o _ a7;have lM:=h_ lL;clear a7 lL;go_wp2_with fail;refine(HF.o _ lM.o).mono ?_;rintro x w2 ⟨rfl,rfl⟩;have xO:=h_ (HW.o _ lM.o);go_wp2_with fail;refine(xO.o).mono ?_;rintro x w3 ⟨rfl,af⟩;have aA:=h_ (al.o.trans (af.mono al.o.size));clear af z0 z1 bW;obtain⟨z0,z1,qW,tX⟩:=HK.o _ aA.o;have kF:=h_ (HE.o _ qW);clear qW;go_wp2_with fail;refine(kF.o).mono ?_;rintro x w4 ⟨rfl,au⟩;have aU:=h_ (aA.o.trans (au.mono aA.o.size));clear au z0 z1 tX;obtain⟨z0,z1,mn,el⟩:=HK.o _ aU.o;have kJ:=h_ (HV.o _ mn);clear mn;go_wp2_with fail;refine(kJ.o).mono ?_;rintro x w5 ⟨rfl,aB⟩;have bj:=h_ (aU.o.trans (aB.mono aU.o.size));clear aB z0 z1 el;obtain⟨z0,z1,ni,sN⟩:=HK.o _ bj.o;have uI:=h_ ni;clear ni;go_wp2;go_loopw [14,77] (λjk xP wr=>∃i:Nat,i<=n/\xP=.int .i64 (i:Int)/\Hid (wr.ownsRow (w.alloc (.cells #[.int .i64 3,.int .i64 c] 23)).heap.size 3 1 jk i ((tms f (l.take i)).map iv))/\Hid (Below (w.alloc (.cells #[.int .i64 3,.int .i64 c] 23)).heap.size (w.alloc (.cells #[.int .i64 3,.int .i64 c] 23)) wr)) (λ_ xP _=>(n-intOf xP).toNat);case atStart=>exact⟨0,Var _,rfl,h_ Zk,bj⟩
      case round=>
       clear z0 z1 sN;obtain⟨i,hi,rfl,aa,hb⟩:=hrel;obtain⟨A5,bo,rfl,bp⟩:=Zm aa.o;by_cases ab:i<n
       ·have aX:i<l.length:=(by rw[<-Hn.o];exact ab);obtain⟨z0,z1,cA,dc⟩:=HK.o _ hb.o;obtain⟨bA,oA,rfl,lV,c0,c1⟩:=ZP (Ha.o.below cA) i aX;have cj:=D7.o i aX;have aO:=D6.o i aX;obtain⟨⟨X,V⟩,hTV⟩:∃y,l[i]=y:=⟨_,rfl⟩;rw[hTV] at c0 c1 cj aO;simp only at c0 c1 cj aO;have j1:IntKind.i64.wrap (X-f)=X-f:=(by rw[IntWalk.i64_in _ (by have:=Hi.o;omega)]);have j2:IntKind.i64.wrap (X-f-1)=X-f-1:=(by rw[IntWalk.i64_in _ (by have:=Hi.o;omega)]);rw[show X-(f+1)=X-f-1 by omega] at cj;have a7:=hb.o.alloc hb.o.size (.cells #[.int .i64 X,.string V] 33);have ah:=Zl aa.o (Fr.of_below (S:=nob) ((Vae wr.heap.size wr).alloc UZz (.cells #[.int .i64 X,.string V] 33))) (λ_ _ f=>f);obtain⟨v',W',ag,ae,aG⟩:=Z0T ah a7 a7.size (by omega) (X-f-1);rw[<-cj] at ae;rw[World.size_alloc] at ag;have ar:=h_ ag;have aw:=h_ ae;have cH:=h_ aG;have iS:(0:Int)<=(i:Int):=(by omega);have nI:(i:Int)<(n:Int):=(by omega);clear ag ae aG cj hTV aX a7 ah aa hb aO cA bp
        go_wp2_with (
         at_builtin;refine Z4 (by with_reducible rfl) rfl _ _ _ rfl _ _ (by rfl) (by rfl) ar.o ?_)
        refine⟨⟨i+1,ab,by go_num,aw,cH⟩,?_⟩;simp[intOf]<;>omega
       ·have aO:i=n:=(by omega);subst aO;rw[qT.o] at bp;have oE:=h_ (nC.o wr A5 bo bp);clear aa bp;go_wp2_with fail;refine(oE.o).mono ?_;rintro x w6 ⟨rfl,bQ⟩;have cQ:=h_ (hb.o.trans (bQ.mono hb.o.size));have dD:=cQ.o.alloc cQ.o.size (.cells #[.int .i64 1,.string S] 36);obtain⟨z0,z1,eA,V2⟩:=HK.o _ dD;have tm:=h_ (HS.o (w6.alloc (.cells #[.int .i64 1,.string S] 36)) (some ⟨w6.heap.size,0,none⟩) (by rw[ky.o];exact(Bk.new w6 36 #[.int .i64 1,.string S]).at_) 1);have oz:=h_ eA;clear bQ dD eA;go_wp2_with fail;refine(tm.o).mono ?_;rintro x w8 ⟨rfl,iX⟩;have ug:=h_ (oz.o.trans (iX.mono oz.o.size));clear iX;go_wp2;go_returns;exact⟨rfl,ug.o⟩
     ·rw[Vad h3] at dB;rw[dB] at hE;have gr:=Z4h v1 dU (by rw[Vag];exact v4);have lJ:=(Z5G v1 h3 dU (by rw[Vag];exact v4)).1;have HL:=h_ (λ(W:World) (hb:Below w.heap.size w W)=>ZdU (ha.below hb) n cap hn (by omega) a c ad);rw[lJ] at HL;rw[Vam (show(0:Nat)=0 from rfl)] at HL;obtain⟨D,hD⟩:∃D,(vlsE (a,c) (l.map (·.2))).1=D:=⟨_,rfl⟩;obtain⟨K,hK⟩:∃K,fkd (a,c)=K:=⟨_,rfl⟩;have lK:K<16:=(by rw[<-hK];exact Z8f _);rw[hD,hK] at HL hE;rw[hD] at gr
      have HS:=h_ (λ(W:World) A2 (h:At W A2 (frs [(1,T),(K,D)])) aE=>Z2q h (λp hp=>by
       rcases Va9.1 hp with rfl|hp
       ·show(1:Nat)<16;decide
       ·rw[Vax.1 hp];exact lK) (λp hp=>by
       rcases Va9.1 hp with rfl|hp
       ·show T.length<=_;omega
       ·rw[Vax.1 hp];exact gr) 2 aE rfl (by decide))
      rw[hE] at HS;simp only at HS;have fV:frs [(1,T),(K,D)]=[.int .i64 1,.string (bs T)]++[.int .i64 (K:Int),.string (bs D)]:=rfl;have ky:=h_ fV;have xy:(a !=3)=true:=(by rw[Va1];exact h3);generalize bs T=S at*;generalize bs D=S2 at*;generalize bs d=SD at*;generalize (K:Int)=KI at*;clear ha bz ad hn aV h0 hE v1 v2 v3 v4 v5 hT xC xD dU eZ jY dB ny i1 i2 i3 fV lJ gr hK lK hD hfw qV jZ mN;go_enter Tryz.func3,Tryz.ntmps3;go_wp2_with fail;refine(rG.o _).mono ?_;rintro x w1 ⟨rfl,a7⟩;have al:=h_ a7;obtain⟨z0,z1,lL,bW⟩:=HK.o _ a7;have lM:=h_ lL;clear a7 lL;go_wp2_with fail;refine(HF.o _ lM.o).mono ?_;rintro x w2 ⟨rfl,rfl⟩;have xO:=h_ (HW.o _ lM.o);go_wp2_with fail;refine(xO.o).mono ?_;rintro x w3 ⟨rfl,af⟩;have aA:=h_ (al.o.trans (af.mono al.o.size));clear af z0 z1 bW;obtain⟨z0,z1,qW,tX⟩:=HK.o _ aA.o;have kF:=h_ (HE.o _ qW);clear qW;go_wp2_with fail;refine(kF.o).mono ?_;rintro x w4 ⟨rfl,au⟩;have aU:=h_ (aA.o.trans (au.mono aA.o.size));clear au z0 z1 tX;obtain⟨z0,z1,mn,el⟩:=HK.o _ aU.o;have kJ:=h_ (HV.o _ mn);clear mn;go_wp2_with fail;refine(kJ.o).mono ?_;rintro x w5 ⟨rfl,aB⟩;have bj:=h_ (aU.o.trans (aB.mono aU.o.size));clear aB z0 z1 el;obtain⟨z0,z1,ni,sN⟩:=HK.o _ bj.o;have uI:=h_ ni;clear ni;go_wp2;go_loopw [14,77] (λjk xP wr=>∃i:Nat,i<=n/\xP=.int .i64 (i:Int)/\Hid (wr.ownsRow (w.alloc (.cells #[.int .i64 a,.int .i64 c] 23)).heap.size 3 1 jk i ((tms f (l.take i)).map iv))/\Hid (Below (w.alloc (.cells #[.int .i64 a,.int .i64 c] 23)).heap.size (w.alloc (.cells #[.int .i64 a,.int .i64 c] 23)) wr)) (λ_ xP _=>(n-intOf xP).toNat);case atStart=>exact⟨0,Var _,rfl,h_ Zk,bj⟩
      case round=>
       clear z0 z1 sN;obtain⟨i,hi,rfl,aa,hb⟩:=hrel;obtain⟨A5,bo,rfl,bp⟩:=Zm aa.o;by_cases ab:i<n
       ·have aX:i<l.length:=(by rw[<-Hn.o];exact ab);obtain⟨z0,z1,cA,dc⟩:=HK.o _ hb.o;obtain⟨bA,oA,rfl,lV,c0,c1⟩:=ZP (Ha.o.below cA) i aX;have cj:=D7.o i aX;have aO:=D6.o i aX;obtain⟨⟨X,V⟩,hTV⟩:∃y,l[i]=y:=⟨_,rfl⟩;rw[hTV] at c0 c1 cj aO;simp only at c0 c1 cj aO;have j1:IntKind.i64.wrap (X-f)=X-f:=(by rw[IntWalk.i64_in _ (by have:=Hi.o;omega)]);have j2:IntKind.i64.wrap (X-f-1)=X-f-1:=(by rw[IntWalk.i64_in _ (by have:=Hi.o;omega)]);rw[show X-(f+1)=X-f-1 by omega] at cj;have a7:=hb.o.alloc hb.o.size (.cells #[.int .i64 X,.string V] 33);have ah:=Zl aa.o (Fr.of_below (S:=nob) ((Vae wr.heap.size wr).alloc UZz (.cells #[.int .i64 X,.string V] 33))) (λ_ _ f=>f);obtain⟨v',W',ag,ae,aG⟩:=Z0T ah a7 a7.size (by omega) (X-f-1);rw[<-cj] at ae;rw[World.size_alloc] at ag;have ar:=h_ ag;have aw:=h_ ae;have cH:=h_ aG;have iS:(0:Int)<=(i:Int):=(by omega);have nI:(i:Int)<(n:Int):=(by omega);clear ag ae aG cj hTV aX a7 ah aa hb aO cA bp
        go_wp2_with (
         at_builtin;refine Z4 (by with_reducible rfl) rfl _ _ _ rfl _ _ (by rfl) (by rfl) ar.o ?_)
        refine⟨⟨i+1,ab,by go_num,aw,cH⟩,?_⟩;simp[intOf]<;>omega
       ·have aO:i=n:=(by omega);subst aO;rw[qT.o] at bp;have oE:=h_ (nC.o wr A5 bo bp);clear aa bp;go_wp2_with fail;refine(oE.o).mono ?_;rintro x w6 ⟨rfl,bQ⟩;have cQ:=h_ (hb.o.trans (bQ.mono hb.o.size));have dD:=cQ.o.alloc cQ.o.size (.cells #[.int .i64 1,.string S] 36);obtain⟨z0,z1,eA,V2⟩:=HK.o _ dD;have bZ:=h_ (Z8p w6 (w.alloc (.cells #[.int .i64 a,.int .i64 c] 23)).heap.size 36 (.int .i64 1) (.string S) cQ.o.size);have fS:=h_ dD;have yc:=h_ (HL.o _ eA);clear bQ dD eA;go_wp2_with fail;refine(yc.o).mono ?_;rintro x w8 ⟨rfl,iX⟩;have xF:=(fS.o.trans (iX.mono fS.o.size)).alloc (Vas fS.o.size iX.size) (.cells #[.int .i64 KI,.string S2] 36);have aL:=Zl (Zl bZ.o (Fr.of_below (S:=nob) iX) (λ_ _ f=>f)) (Fr.of_below (S:=nob) ((Vae w8.heap.size w8).alloc UZz (.cells #[.int .i64 KI,.string S2] 36))) (λ_ _ f=>f)
        obtain⟨v',W',ag,ae,aG,_⟩:=Z1e (P:=Tryz.prog) 37 36 _ _ 2 Tryz.underlying37 ZdA rfl (by decide) aL xF xF.size [.int .i64 KI,.string S2] rfl (by
         intro y hy;simp at hy;rcases hy with rfl|rfl<;>rfl) (by unfold maxLen;omega) (by omega)
        obtain⟨A6,gm,xG,bN⟩:=Zm ae;rw[World.size_alloc] at ag;have ar:=h_ ag;have tm:=h_ (HS.o W' A6 (by rw[ky.o];exact bN) gm);have lT:=h_ (HK.o _ aG).2.2.1;subst xG;clear ag ae aG aL xF iX bN
        go_wp2_with (
         at_builtin;refine Z4 (by with_reducible rfl) rfl _ _ _ rfl _ _ (by rfl) (by rfl) ar.o ?_)
        go_wp2_with fail;refine(tm.o).mono ?_;rintro x mW ⟨rfl,gj⟩;have qM:=h_ (lT.o.trans (gj.mono lT.o.size));clear gj;go_wp2;go_returns;exact⟨rfl,qM.o⟩
end Go.Proofs.YtchokmkfobandaaGreatDoor
