import Derived.Test.YtchokmkfobandaaGreatDoorM40
import Derived.Laws.StructEq
set_option linter.unusedVariables false
set_option linter.unusedSimpArgs false
set_option maxRecDepth 100000
set_option maxHeartbeats 8000000
namespace Go.Proofs.YtchokmkfobandaaGreatDoor
open Go.RowKit Go.Proofs Wv Wv.Vi Wv.Bc Wv.Sn Wv.Sg Wv.Dc
def VaC (a c:Int) (w:World):Prop:=∀v:ByteArray,v.size<=1099511627776->∀W,Below w.heap.size w W->Calls Tryz.prog 25 #[.int .i64 a,.int .i64 c,.string v] W λx w'=>x=.returned (.bool (vaB Z6 (a,c) (toL v)))/\Below W.heap.size W w'
theorem VaC.below {a c:Int} {w W:World} (h:VaC a c w) (hb:Below w.heap.size w W):VaC a c W:=λv hv X hX=>h v hv X (hb.trans (hX.mono hb.size))
theorem Y5 {w W:World} {a c:Int} (hb:Below (w.alloc (.cells #[.int .i64 a,.int .i64 c] 23)).heap.size (w.alloc (.cells #[.int .i64 a,.int .i64 c] 23)) W):W.cell? ⟨w.heap.size,0,none⟩=some (.int .i64 a)/\W.cell? ⟨w.heap.size,1,none⟩=some (.int .i64 c)/\Below w.heap.size w W/\w.heap.size<W.heap.size:=by
 have h:=(Bk.new w 23 #[.int .i64 a,.int .i64 c]).below hb (by simp);exact⟨h.cell 0,h.cell 1,((Vae w.heap.size w).alloc UZz _).trans (hb.mono (by simp)),h.lt⟩
theorem Zgp {w W:World} {x:Int} {v:ByteArray} (hb:Below (w.alloc (.cells #[.int .i64 x,.string v] 33)).heap.size (w.alloc (.cells #[.int .i64 x,.string v] 33)) W):W.cell? ⟨w.heap.size,0,none⟩=some (.int .i64 x)/\W.cell? ⟨w.heap.size,1,none⟩=some (.string v):=by
 have h:=(Bk.new w 33 #[.int .i64 x,.string v]).below hb (by simp);exact⟨h.cell 0,h.cell 1⟩
theorem ZdC (x y:ByteArray):(x.toList==y.toList)=decide (x=y):=by
 have h:=(Z88 (toL x) (toL y)).2;rw[Za,Za] at h;rw[h,decide_eq_decide];exact⟨λe=>by rw[<-Za x,e,Za],λe=>by rw[e]⟩
theorem Y0 {w:World} {A:Option Addr} {b:ByteArray} {l:List (Int×ByteArray)} (ha:At w A (cv l)) (a c f t:Int) (hv:VaC a c w) (bz:b.size<=1099511627776) (ad:∀x∈l,x.2.size<=1099511627776) (n cap:Nat) (hn:n=l.length) (bf:n<=9223372036854775807):
  Calls Tryz.prog 14 #[.agg #[.int .i64 a,.int .i64 c],.int .i64 f,.int .i64 t,.string b,.slice A n cap] w λx w'=>x=.returned (.bool (sgV (a,c) f t b l))/\Below w.heap.size w w':=by
 have Ha:=h_ ha;have Hn:=h_ hn;have HI:=h_ (λW=>Z8k a c f t W);have HV:=h_ (λv h W hW=>hv v h W hW);have HS:Hid (sgV (a,c) f t b l=(tyB (a,c)&&itv f t&&vaB Z6 (a,c) (toL b)&&decide (n<=4096)&&rise (a,c) t f b l)):=h_ (by rw[hn];rfl);have cC:=h_ (λi (h:i<l.length)=>ad _ (Vaj h));have HK:=h_ (λW h=>Y5 (w:=w) (W:=W) (a:=a) (c:=c) h);have lT:=h_ bz;clear ha hn hv ad bz;obtain⟨I,hI⟩:∃I,(tyB (a,c)&&itv f t)=I:=⟨_,rfl⟩;rw[hI] at HI HS;clear hI;cases I with
 |false=>
  have HR:Hid (sgV (a,c) f t b l=false):=h_ (by rw[HS.o];rfl);clear HS;go_enter Tryz.func14,Tryz.ntmps14;go_wp2_with fail;refine(HI.o _).mono ?_;rintro x w1 ⟨rfl,a7⟩;obtain⟨_,_,a8,_⟩:=HK.o _ a7;go_wp2;go_returns;exact⟨Z2 HR.o.symm,a8⟩
 |true=>
  have lH:=h_ (λW hW=>HV.o b lT.o W hW);obtain⟨B,hB⟩:∃B,vaB Z6 (a,c) (toL b)=B:=⟨_,rfl⟩;rw[hB] at lH HS;clear hB;cases B with
  |false=>
   have HR:Hid (sgV (a,c) f t b l=false):=h_ (by rw[HS.o];rfl);clear HS;go_enter Tryz.func14,Tryz.ntmps14;go_wp2_with fail;refine(HI.o _).mono ?_;rintro x w1 ⟨rfl,a7⟩;obtain⟨z0,z1,a8,_⟩:=HK.o _ a7;have ak:=h_ a8;clear a7 a8;go_wp2_with fail;refine(lH.o _ ak.o).mono ?_;rintro x w2 ⟨rfl,af⟩;have aA:=h_ (ak.o.trans (af.mono ak.o.size));clear af;go_wp2;go_returns;exact⟨Z2 HR.o.symm,aA.o⟩
  |true=>
   by_cases h4:(4096:Int)<(n:Int)
   ·have HR:Hid (sgV (a,c) f t b l=false):=h_ (by rw[HS.o,Vah (by omega)];rfl);clear HS;go_enter Tryz.func14,Tryz.ntmps14;go_wp2_with fail;refine(HI.o _).mono ?_;rintro x w1 ⟨rfl,a7⟩;obtain⟨z0,z1,a8,_⟩:=HK.o _ a7;have ak:=h_ a8;clear a7 a8;go_wp2_with fail;refine(lH.o _ ak.o).mono ?_;rintro x w2 ⟨rfl,af⟩;have aA:=h_ (ak.o.trans (af.mono ak.o.size));clear af;go_wp2;go_returns;exact⟨Z2 HR.o.symm,aA.o⟩
   ·have HR:Hid (sgV (a,c) f t b l=rise (a,c) t f b l):=h_ (by rw[HS.o,Vam (by omega)];rfl);clear HS;go_enter Tryz.func14,Tryz.ntmps14;go_wp2_with fail;refine(HI.o _).mono ?_;rintro x w1 ⟨rfl,a7⟩;obtain⟨z0,z1,a8,_⟩:=HK.o _ a7;have al:=h_ a7;have ak:=h_ a8;clear a7 a8;go_wp2_with fail;refine(lH.o _ ak.o).mono ?_;rintro x w2 ⟨rfl,af⟩;have aA:=h_ (al.o.trans (af.mono al.o.size));clear af z0 z1 al ak lH HI;go_wp2;go_loopw [3,11,36] (λs3 jU Kl wr=>∃(k:Nat) (q:Int) (d:ByteArray),k<=n/\Kl=.int .i64 (k:Int)/\jU=.int .i64 q/\s3=.string d/\Hid (rise (a,c) t f b l=rise (a,c) t q d (l.drop k))/\Hid (Below (w.alloc (.cells #[.int .i64 a,.int .i64 c] 23)).heap.size (w.alloc (.cells #[.int .i64 a,.int .i64 c] 23)) wr)) (λ_ _ Kl _=>(n-intOf Kl).toNat);case atStart=>exact⟨0,f,b,Var _,rfl,rfl,rfl,h_ rfl,aA⟩
    case round=>
     clear aA;obtain⟨k,q,d,hk,rfl,rfl,rfl,ao,hb⟩:=hrel;obtain⟨z0,z1,a8,dc⟩:=HK.o _ hb.o;by_cases ab:k<n
     ·have bh:k<l.length:=(by rw[<-Hn.o];exact ab);obtain⟨bA,oA,rfl,lV,c0,c1⟩:=ZP (Ha.o.below a8) k bh;have aq:=Zdu (s:=(a,c)) (t:=t) (a:=q) (b:=d) bh;have di:=cC.o k bh;obtain⟨⟨x,v⟩,hs⟩:∃y,l[k]=y:=⟨_,rfl⟩;rw[hs] at c0 c1 aq di;simp only at c0 c1 aq di;have aS:Hid (sgV (a,c) f t b l=_):=h_ (HR.o.trans (ao.o.trans aq));have HC:=h_ (λW h=>Zgp (w:=wr) (W:=W) (x:=x) (v:=v) h);have eD:=hb.o.alloc hb.o.size (.cells #[.int .i64 x,.string v] 33);have fq:=h_ eD;have cg:(0:Int)<=(k:Int):=(by omega);have gq:(k:Int)<(n:Int):=(by omega);clear aq hs bh;by_cases hq:x<=q
      ·have aQ:Hid (sgV (a,c) f t b l=false):=h_ (by rw[aS.o,Vah (show ¬q<x by omega)];rfl);have bj:=h_ (HK.o _ eD).2.2.1;clear eD a8 di;go_wp2;go_returns;exact⟨Z2 aQ.o.symm,bj.o⟩
      ·by_cases ht:t<x
       ·have aQ:Hid (sgV (a,c) f t b l=false):=h_ (by rw[aS.o,Vah (show ¬x<=t by omega)];simp);have bj:=h_ (HK.o _ eD).2.2.1;clear eD a8 di;go_wp2;go_returns;exact⟨Z2 aQ.o.symm,bj.o⟩
       ·have th:=h_ (λW hW=>HV.o v di W hW);have bj:=h_ (HK.o _ eD).2.2.1;have UR:Hid (vaB Z6 (a,c) (toL v)=vaB Z6 (a,c) (toL v)):=h_ rfl;obtain⟨B,hB⟩:∃B,vaB Z6 (a,c) (toL v)=B:=⟨_,rfl⟩;rw[hB] at th;have P9:=h_ hB;clear eD a8 di hB UR;cases B with
        |false=>
         have aQ:Hid (sgV (a,c) f t b l=false):=h_ (by rw[aS.o,P9.o];simp);go_wp2_with fail;refine(th.o _ bj.o).mono ?_;rintro x w3 ⟨rfl,bQ⟩;have cQ:=h_ (bj.o.trans (bQ.mono bj.o.size));clear bQ;go_wp2;go_returns;exact⟨Z2 aQ.o.symm,cQ.o⟩
        |true=>
         have cE:Hid (sgV (a,c) f t b l=((decide (a=3)|| !decide (v=d))&&rise (a,c) t x v (l.drop (k+1)))):=h_ (by rw[aS.o,P9.o,Vam (show q<x by omega),Vam (show x<=t by omega)];simp);by_cases h3:a=3
         ·have dm:Hid (rise (a,c) t f b l=rise (a,c) t x v (l.drop (k+1))):=h_ (by rw[<-HR.o,cE.o,Vam h3];simp);have xy:(a !=3)=false:=(by rw[h3];rfl);clear aS cE ao h3;go_wp2_with fail;refine(th.o _ bj.o).mono ?_;rintro y w3 ⟨rfl,bQ⟩;obtain⟨y0,y1⟩:=HC.o _ bQ;have cQ:=h_ (fq.o.trans (bQ.mono fq.o.size));obtain⟨z0,z1,_,_⟩:=HK.o _ cQ.o;clear bQ;go_wp2;go_quiet (fail);go_wp2;refine⟨⟨k+1,x,v,ab,by go_num,rfl,rfl,dm,h_ ⟨cQ.o.1,cQ.o.2,cQ.o.3,cQ.o.4,cQ.o.5⟩⟩,?_⟩;simp[intOf]<;>omega
         ·have xy:(a !=3)=true:=(by rw[Va1];exact h3);have heq:=ZdC v d;by_cases he:v=d
          ·have aQ:Hid (sgV (a,c) f t b l=false):=h_ (by rw[cE.o,Vam he,Vah h3];rfl);rw[Vam he] at heq;clear aS cE ao h3 he;go_wp2_with fail;refine(th.o _ bj.o).mono ?_;rintro y w3 ⟨rfl,bQ⟩;obtain⟨y0,y1⟩:=HC.o _ bQ;have cQ:=h_ (fq.o.trans (bQ.mono fq.o.size));obtain⟨z0,z1,eA,_⟩:=HK.o _ cQ.o;clear bQ;go_wp2;go_returns;exact⟨Z2 aQ.o.symm,eA⟩
          ·have dm:Hid (rise (a,c) t f b l=rise (a,c) t x v (l.drop (k+1))):=h_ (by rw[<-HR.o,cE.o,Vah he];simp);rw[Vah he] at heq;clear aS cE ao h3 he;go_wp2_with fail;refine(th.o _ bj.o).mono ?_;rintro y w3 ⟨rfl,bQ⟩;obtain⟨y0,y1⟩:=HC.o _ bQ;have cQ:=h_ (fq.o.trans (bQ.mono fq.o.size));obtain⟨z0,z1,_,_⟩:=HK.o _ cQ.o;clear bQ;go_wp2;go_quiet (fail);go_wp2;refine⟨⟨k+1,x,v,ab,by go_num,rfl,rfl,dm,h_ ⟨cQ.o.1,cQ.o.2,cQ.o.3,cQ.o.4,cQ.o.5⟩⟩,?_⟩;simp[intOf]<;>omega
     ·have dY:k=n:=(by omega);subst dY;have aQ:Hid (sgV (a,c) f t b l=true):=h_ (by rw[HR.o,ao.o,Vbb (by rw[Hn.o];exact UZz)];rfl);clear ao;go_wp2;go_returns;exact⟨Z2 aQ.o.symm,a8⟩
theorem Zjn (v:List UInt8) (hv:v.length<=1099511627776) (w:World):
  Calls Tryz.prog 25 #[.int .i64 0,.int .i64 1,.string (bs v)] w λx w'=>x=.returned (.bool (vaB Z6 (0,1) v))/\Below w.heap.size w w':=by
 have eP:=h_ (ZbV 0 1 w);have eO:vaB Z6 (0,1) v=vld 1 v:=(by unfold vaB kvB;rw[Vaf rfl];rfl);have Hc:=h_ (λ(W:World)=>Z3c 1 v hv W);have hty:tyB (0,1)=true:=(by decide);rw[eO];rw[hty] at eP;clear eO hty;generalize vld 1 v=R at*;clear hv;generalize bs v=S at*;go_enter Tryz.func25,Tryz.ntmps25;go_wp2_with fail;refine(eP.o).mono ?_;rintro x w1 ⟨kc,rfl,hk,a7⟩;obtain⟨b,rfl,hB⟩:=kd0 hk;have Hb:=h_ (a7.alloc a7.size (.cells #[.int .i64 1,.int .i64 128,.func (.func 75) #[] #[],.func (.func 94) #[] #[],.func (.func 96) #[] #[],.func (.func 97) #[] #[],.string ⟨#[98]⟩] 84));clear hk a7 hB;go_wp2_with fail;refine(Hc.o _).mono ?_;rintro x w2 ⟨rfl,a8⟩;have ak:=h_ (Hb.o.trans (a8.mono Hb.o.size));clear a8;go_wp2;go_returns;exact⟨rfl,ak.o⟩
theorem Z4g (w:World):VaC 0 1 w:=λv hv W _=>by
 have:=Zjn (toL v) (by rw[Z1];exact hv) W;rw[Za] at this;exact this
theorem Z9M:Tryz.prog.underlying 33=some (.struct (Tryz.prog.fieldsOf 33)):=by kernel_rfl
theorem Zgq:Tryz.prog.stoodInHeld 33=false:=by kernel_rfl
theorem Zgr:∃f0 f1,(Tryz.prog.fieldsOf 33).toList=[f0,f1]/\f0.name≠ "_" /\f1.name≠ "_" /\f0.type=3/\f1.type=9/\f0.offset=0/\f1.offset=1:=
 ⟨(Tryz.prog.fieldsOf 33)[0]!,(Tryz.prog.fieldsOf 33)[1]!,by kernel_rfl,of_decide_eq_true (by kernel_rfl),of_decide_eq_true (by kernel_rfl),by kernel_rfl,by kernel_rfl,by kernel_rfl,by kernel_rfl⟩
theorem Zhg (x y:Int) (u v:ByteArray) (W:World):(Op.equalIn 10000 33 (.agg #[.int .i64 x,.string u]) (.agg #[.int .i64 y,.string v])).run Tryz.prog W=.ok (decide ((x,u)=(y,v))) W:=by
 rw[run_equalIn_agg _ _ _ _ _ Z9M Zgq];obtain⟨f0,f1,h,n0,n1,t0,t1,o0,o1⟩:=Zgr;have e:=ZdC u v;rw[h];simp[Op.eqFields,n0,n1,t0,t1,o0,o1,go_sem,Tryz.underlying3,Tryz.underlying9];by_cases e1:x=y
 ·rw[Vaf e1,Vam e1,Bool.true_and];by_cases e2:u=v
  ·rw[Vaf (by rw[e2]),Vam e2]
  ·rw[Vah e2] at e⊢;rw[Vad (by simpa using e)]
 ·rw[Vad e1,Vah e1,Bool.false_and]
theorem Zjo (x y:Int) (u v:ByteArray) (W:World):(binOp .eql 33 (.agg #[.int .i64 x,.string u]) (.agg #[.int .i64 y,.string v])).run Tryz.prog W=.ok (.bool (decide ((x,u)=(y,v)))) W:=by
 rw[run_eql_struct,Zhg];rfl
theorem Zjp (x y:Int) (u v:ByteArray) (W:World):(binOp .neq 33 (.agg #[.int .i64 x,.string u]) (.agg #[.int .i64 y,.string v])).run Tryz.prog W=.ok (.bool (!decide ((x,u)=(y,v)))) W:=by
 rw[run_neq_struct,Zhg];rfl
theorem Z5H (op:BinOp) (a b:Operand) (xs ys:Array Value) (W:World):(eqGuard op 33 a b (.agg xs) (.agg ys)).run Tryz.prog W=.ok () W:=run_eqGuard_agg _ _ _ _ _ _ _ (by kernel_rfl)
theorem ZdD {w:World} {A B:Option Addr} {l r:List (Int×ByteArray)} (ha:At w A (cv l)) (hb:At w B (cv r)) (n cap m aE:Nat) (hn:n=l.length) (hm:m=r.length) (bf:n<=9223372036854775807) (jv:m<=9223372036854775807):
  Calls Tryz.prog 19 #[.slice A n cap,.slice B m aE] w λx w'=>x=.returned (.bool (decide (l=r)))/\Below w.heap.size w w':=by
 have Ha:=h_ ha;have Hb:=h_ hb;have Hn:=h_ hn;have Hm:=h_ hm;clear ha hb hn hm;by_cases rj:n=m
 ·subst rj;go_enter Tryz.func19,Tryz.ntmps19;go_wp2;go_loopw [5] (λs5 wr=>∃(k q:Nat),k<=n/\s5=.int .i64 (k:Int)/\Hid (l.take k=r.take k)/\wr=w.drewN q) (λs5 _=>(n-intOf s5).toNat);case atStart=>exact⟨0,0,Var _,rfl,h_ rfl,rfl⟩
  case round=>
   obtain⟨k,q,hk,rfl,heq,rfl⟩:=hrel;by_cases ab:k<n
   ·have h1:k<l.length:=(by rw[<-Hn.o];exact ab);have h2:k<r.length:=(by rw[<-Hm.o];exact ab);obtain⟨bA,oA,rfl,_,c0,c1⟩:=ZP Ha.o k h1;obtain⟨bB,oB,rfl,_,d0,d1⟩:=ZP Hb.o k h2;have cg:(0:Int)<=(k:Int):=(by omega);have gq:(k:Int)<(n:Int):=(by omega);have xz:=λ(h:l[k]=r[k])=>(show l.take (k+1)=r.take (k+1) by rw[Vac h1,Vac h2,heq.o,h]);have xA:=λ(h:¬l[k]=r[k]) (e:l=r)=>h (by subst e;rfl);obtain⟨⟨x,u⟩,hX⟩:∃y,l[k]=y:=⟨_,rfl⟩;obtain⟨⟨y,v⟩,hY⟩:∃y,r[k]=y:=⟨_,rfl⟩;rw[hX,hY] at xz xA;rw[hX] at c0 c1;rw[hY] at d0 d1;simp only at c0 c1 d0 d1;have Km:=h_ xz;have xB:=h_ xA;clear xz xA hX hY heq h1 h2;have WB:=λW=>Zjp x y u v W;have US:=λop a b xs ys W=>Z5H op a b xs ys W;go_wp2;go_quiet (fail);by_cases he:(x,u)=(y,v)
    ·have D4:=Km.o he;obtain⟨e1,e2⟩:=Prod.mk.inj he;have Kn:=h_ D4;subst e1;subst e2;clear he D4 Km xB;rw[Vam (show x=x from rfl),Vam (show u=u from rfl)];go_wp2
     all_goals first
      |(refine⟨⟨k+1,_,ab,by go_num,Kn,rfl⟩,?_⟩;simp[intOf]<;>omega)
    ·have D5:Hid (decide (l=r)=false):=h_ (Vah (xB.o he))
     have hb:(!decide (x=y)|| !decide (u=v))=true:=by
      by_cases e1:x=y
      ·by_cases e2:u=v
       ·exact absurd (by rw[e1,e2]) he
       ·rw[Vah e2];simp
      ·rw[Vah e1];rfl
     rw[hb];clear hb he Km xB;go_wp2;go_returns;exact⟨Z2 D5.o.symm,⟨rfl,rfl,rfl,UZz,λ_ _=>rfl⟩⟩
   ·have dY:k=n:=(by omega);subst dY
    have D5:Hid (decide (l=r)=true):=h_ (Vam (by
     have:=heq.o;rw[Vai (by rw[Hn.o];exact UZz),Vai (by rw[<-Hm.o];exact UZz)] at this;exact this))
    clear heq;go_wp2;go_returns;exact⟨Z2 D5.o.symm,⟨rfl,rfl,rfl,UZz,λ_ _=>rfl⟩⟩
 ·have ay:((n:Int) !=(m:Int))=true:=(by rw[Va1];omega);have D5:Hid (decide (l=r)=false):=h_ (Vah (λh=>rj (by rw[Hn.o,Hm.o,h])));go_enter Tryz.func19,Tryz.ntmps19;go_wp2;go_returns;exact⟨Z2 D5.o.symm,Vae _ _⟩
end Go.Proofs.YtchokmkfobandaaGreatDoor
