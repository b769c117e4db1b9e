import Derived.Test.YtchokmkfobandaaGreatDoorJ40
import Derived.Laws.StructEq
set_option linter.unusedVariables false
set_option linter.unusedSimpArgs false
set_option maxRecDepth 100000
set_option maxHeartbeats 8000000
namespace Go.Proofs.YtchokmkfobandaaGreatDoor
open Go.RowKit Go.Proofs Wv Wv.Vi Wv.Bc Wv.Sn Wv.Sg Wv.Dc
def VaC (a c:Int) (w:World):Prop:=∀v:ByteArray,v.size<=1099511627776->∀W,Below w.heap.size w W->Calls Tryz.prog 25 #[.int .i64 a,.int .i64 c,.string v] W λx w'=>x=.returned (.bool (vaB Z9 (a,c) (toL v)))/\Below W.heap.size W w'
theorem VaC.below {a c:Int} {w W:World} (h:VaC a c w) (hb:Below w.heap.size w W):VaC a c W:=λv hv X hX=>h v hv X (hb.trans (hX.mono hb.size))
theorem Yy {w W:World} {a c:Int} (hb:Below (w.alloc (.cells #[.int .i64 a,.int .i64 c] 23)).heap.size (w.alloc (.cells #[.int .i64 a,.int .i64 c] 23)) W):W.cell? ⟨w.heap.size,0,none⟩=some (.int .i64 a)/\W.cell? ⟨w.heap.size,1,none⟩=some (.int .i64 c)/\Below w.heap.size w W/\w.heap.size<W.heap.size:=by
 have h:=(Bk.new w 23 #[.int .i64 a,.int .i64 c]).below hb (by simp);exact⟨h.cell 0,h.cell 1,((Vae w.heap.size w).alloc UZz _).trans (hb.mono (by simp)),h.lt⟩
theorem Zgl {w W:World} {x:Int} {v:ByteArray} (hb:Below (w.alloc (.cells #[.int .i64 x,.string v] 33)).heap.size (w.alloc (.cells #[.int .i64 x,.string v] 33)) W):W.cell? ⟨w.heap.size,0,none⟩=some (.int .i64 x)/\W.cell? ⟨w.heap.size,1,none⟩=some (.string v):=by
 have h:=(Bk.new w 33 #[.int .i64 x,.string v]).below hb (by simp);exact⟨h.cell 0,h.cell 1⟩
theorem Zhd (x y:ByteArray):(x.toList==y.toList)=decide (x=y):=by
 have h:=(Z88 (toL x) (toL y)).2;rw[Zc,Zc] at h;rw[h,decide_eq_decide];exact⟨λe=>by rw[<-Zc x,e,Zc],λe=>by rw[e]⟩
theorem Yc {w:World} {A:Option Addr} {b:ByteArray} {l:List (Int×ByteArray)} (ha:At w A (cv l)) (a c f t:Int) (hv:VaC a c w) (bZ:b.size<=1099511627776) (ad:∀x∈l,x.2.size<=1099511627776) (n cap:Nat) (hn:n=l.length) (bo:n<=9223372036854775807):
  Calls Tryz.prog 14 #[.agg #[.int .i64 a,.int .i64 c],.int .i64 f,.int .i64 t,.string b,.slice A n cap] w λx w'=>x=.returned (.bool (sgV (a,c) f t b l))/\Below w.heap.size w w':=by
 have Ha:=h_ ha;have Hn:=h_ hn;have HI:=h_ (λW=>Z8i a c f t W);have HV:=h_ (λv h W hW=>hv v h W hW);have HS:Hid (sgV (a,c) f t b l=(tyB (a,c)&&itv f t&&vaB Z9 (a,c) (toL b)&&decide (n<=4096)&&rise (a,c) t f b l)):=h_ (by rw[hn];rfl);have cH:=h_ (λi (h:i<l.length)=>ad _ (Vak h));have HK:=h_ (λW h=>Yy (w:=w) (W:=W) (a:=a) (c:=c) h);have mE:=h_ bZ;clear ha hn hv ad bZ;obtain⟨I,hI⟩:∃I,(tyB (a,c)&&itv f t)=I:=⟨_,rfl⟩;rw[hI] at HI HS;clear hI;cases I with
 |false=>
  have HR:Hid (sgV (a,c) f t b l=false):=h_ (by rw[HS.o];rfl);clear HS;go_enter Tryz.func14,Tryz.ntmps14;go_wp2_with fail;refine(HI.o _).mono ?_;rintro x w1 ⟨rfl,a7⟩;obtain⟨_,_,a8,_⟩:=HK.o _ a7;go_wp2;go_returns;exact⟨Z4 HR.o.symm,a8⟩
 |true=>
  have CU:=h_ (λW hW=>HV.o b mE.o W hW);obtain⟨B,hB⟩:∃B,vaB Z9 (a,c) (toL b)=B:=⟨_,rfl⟩;rw[hB] at CU HS;clear hB;cases B with
  |false=>
   have HR:Hid (sgV (a,c) f t b l=false):=h_ (by rw[HS.o];rfl);clear HS;go_enter Tryz.func14,Tryz.ntmps14;go_wp2_with fail;refine(HI.o _).mono ?_;rintro x w1 ⟨rfl,a7⟩;obtain⟨z0,z1,a8,_⟩:=HK.o _ a7;have an:=h_ a8;clear a7 a8;go_wp2_with fail;refine(CU.o _ an.o).mono ?_;rintro x w2 ⟨rfl,af⟩;have aJ:=h_ (an.o.trans (af.mono an.o.size));clear af;go_wp2;go_returns;exact⟨Z4 HR.o.symm,aJ.o⟩
  |true=>
   by_cases h4:(4096:Int)<(n:Int)
   ·have HR:Hid (sgV (a,c) f t b l=false):=h_ (by rw[HS.o,Vai (by omega)];rfl);clear HS;go_enter Tryz.func14,Tryz.ntmps14;go_wp2_with fail;refine(HI.o _).mono ?_;rintro x w1 ⟨rfl,a7⟩;obtain⟨z0,z1,a8,_⟩:=HK.o _ a7;have an:=h_ a8;clear a7 a8;go_wp2_with fail;refine(CU.o _ an.o).mono ?_;rintro x w2 ⟨rfl,af⟩;have aJ:=h_ (an.o.trans (af.mono an.o.size));clear af;go_wp2;go_returns;exact⟨Z4 HR.o.symm,aJ.o⟩
   ·have HR:Hid (sgV (a,c) f t b l=rise (a,c) t f b l):=h_ (by rw[HS.o,Vao (by omega)];rfl);clear HS;go_enter Tryz.func14,Tryz.ntmps14;go_wp2_with fail;refine(HI.o _).mono ?_;rintro x w1 ⟨rfl,a7⟩;obtain⟨z0,z1,a8,_⟩:=HK.o _ a7;have ao:=h_ a7;have an:=h_ a8;clear a7 a8;go_wp2_with fail;refine(CU.o _ an.o).mono ?_;rintro x w2 ⟨rfl,af⟩;have aJ:=h_ (ao.o.trans (af.mono ao.o.size));clear af z0 z1 ao an CU HI;go_wp2;go_loopw [3,11,36] (λs3 lr Km wr=>∃(k:Nat) (q:Int) (d:ByteArray),k<=n/\Km=.int .i64 (k:Int)/\lr=.int .i64 q/\s3=.string d/\Hid (rise (a,c) t f b l=rise (a,c) t q d (l.drop k))/\Hid (Below (w.alloc (.cells #[.int .i64 a,.int .i64 c] 23)).heap.size (w.alloc (.cells #[.int .i64 a,.int .i64 c] 23)) wr)) (λ_ _ Km _=>(n-intOf Km).toNat);case atStart=>exact⟨0,f,b,Vat _,rfl,rfl,rfl,h_ rfl,aJ⟩
    case round=>
     clear aJ;obtain⟨k,q,d,hk,rfl,rfl,rfl,ar,hb⟩:=hrel;obtain⟨z0,z1,a8,dP⟩:=HK.o _ hb.o;by_cases ab:k<n
     ·have bK:k<l.length:=(by rw[<-Hn.o];exact ab);obtain⟨bA,oA,rfl,tf,c0,c1⟩:=Ye (Ha.o.below a8) k bK;have al:=Zds (s:=(a,c)) (t:=t) (a:=q) (b:=d) bK;have eE:=cH.o k bK;obtain⟨⟨x,v⟩,hs⟩:∃y,l[k]=y:=⟨_,rfl⟩;rw[hs] at c0 c1 al eE;simp only at c0 c1 al eE;have aT:Hid (sgV (a,c) f t b l=_):=h_ (HR.o.trans (ar.o.trans al));have HC:=h_ (λW h=>Zgl (w:=wr) (W:=W) (x:=x) (v:=v) h);have ez:=hb.o.alloc hb.o.size (.cells #[.int .i64 x,.string v] 33);have oD:=h_ ez;have cj:(0:Int)<=(k:Int):=(by omega);have iK:(k:Int)<(n:Int):=(by omega);clear al hs bK;by_cases hq:x<=q
      ·have aN:Hid (sgV (a,c) f t b l=false):=h_ (by rw[aT.o,Vai (show ¬q<x by omega)];rfl);have bE:=h_ (HK.o _ ez).2.2.1;clear ez a8 eE;go_wp2;go_returns;exact⟨Z4 aN.o.symm,bE.o⟩
      ·by_cases ht:t<x
       ·have aN:Hid (sgV (a,c) f t b l=false):=h_ (by rw[aT.o,Vai (show ¬x<=t by omega)];simp);have bE:=h_ (HK.o _ ez).2.2.1;clear ez a8 eE;go_wp2;go_returns;exact⟨Z4 aN.o.symm,bE.o⟩
       ·have qP:=h_ (λW hW=>HV.o v eE W hW);have bE:=h_ (HK.o _ ez).2.2.1;have V6:Hid (vaB Z9 (a,c) (toL v)=vaB Z9 (a,c) (toL v)):=h_ rfl;obtain⟨B,hB⟩:∃B,vaB Z9 (a,c) (toL v)=B:=⟨_,rfl⟩;rw[hB] at qP;have Pg:=h_ hB;clear ez a8 eE hB V6;cases B with
        |false=>
         have aN:Hid (sgV (a,c) f t b l=false):=h_ (by rw[aT.o,Pg.o];simp);go_wp2_with fail;refine(qP.o _ bE.o).mono ?_;rintro x w3 ⟨rfl,bY⟩;have dA:=h_ (bE.o.trans (bY.mono bE.o.size));clear bY;go_wp2;go_returns;exact⟨Z4 aN.o.symm,dA.o⟩
        |true=>
         have dz:Hid (sgV (a,c) f t b l=((decide (a=3)|| !decide (v=d))&&rise (a,c) t x v (l.drop (k+1)))):=h_ (by rw[aT.o,Pg.o,Vao (show q<x by omega),Vao (show x<=t by omega)];simp);by_cases h3:a=3
         ·have eK:Hid (rise (a,c) t f b l=rise (a,c) t x v (l.drop (k+1))):=h_ (by rw[<-HR.o,dz.o,Vao h3];simp);have yG:(a !=3)=false:=(by rw[h3];rfl);clear aT dz ar h3;go_wp2_with fail;refine(qP.o _ bE.o).mono ?_;rintro y w3 ⟨rfl,bY⟩;obtain⟨y0,y1⟩:=HC.o _ bY;have dA:=h_ (oD.o.trans (bY.mono oD.o.size));obtain⟨z0,z1,_,_⟩:=HK.o _ dA.o;clear bY;go_wp2;go_quiet (fail);go_wp2;refine⟨⟨k+1,x,v,ab,by go_num,rfl,rfl,eK,h_ ⟨dA.o.1,dA.o.2,dA.o.3,dA.o.4,dA.o.5⟩⟩,?_⟩;simp[intOf]<;>omega
         ·have yG:(a !=3)=true:=(by rw[Va0];exact h3);have heq:=Zhd v d;by_cases he:v=d
          ·have aN:Hid (sgV (a,c) f t b l=false):=h_ (by rw[dz.o,Vao he,Vai h3];rfl);rw[Vao he] at heq;clear aT dz ar h3 he;go_wp2_with fail;refine(qP.o _ bE.o).mono ?_;rintro y w3 ⟨rfl,bY⟩;obtain⟨y0,y1⟩:=HC.o _ bY;have dA:=h_ (oD.o.trans (bY.mono oD.o.size));obtain⟨z0,z1,eM,_⟩:=HK.o _ dA.o;clear bY;go_wp2;go_returns;exact⟨Z4 aN.o.symm,eM⟩
          ·have eK:Hid (rise (a,c) t f b l=rise (a,c) t x v (l.drop (k+1))):=h_ (by rw[<-HR.o,dz.o,Vai he];simp);rw[Vai he] at heq;clear aT dz ar h3 he;go_wp2_with fail;refine(qP.o _ bE.o).mono ?_;rintro y w3 ⟨rfl,bY⟩;obtain⟨y0,y1⟩:=HC.o _ bY;have dA:=h_ (oD.o.trans (bY.mono oD.o.size));obtain⟨z0,z1,_,_⟩:=HK.o _ dA.o;clear bY;go_wp2;go_quiet (fail);go_wp2;refine⟨⟨k+1,x,v,ab,by go_num,rfl,rfl,eK,h_ ⟨dA.o.1,dA.o.2,dA.o.3,dA.o.4,dA.o.5⟩⟩,?_⟩;simp[intOf]<;>omega
     ·have eH:k=n:=(by omega);subst eH;have aN:Hid (sgV (a,c) f t b l=true):=h_ (by rw[HR.o,ar.o,Vbf (by rw[Hn.o];exact UZz)];rfl);clear ar;go_wp2;go_returns;exact⟨Z4 aN.o.symm,a8⟩
theorem Zjf (v:List UInt8) (hv:v.length<=1099511627776) (w:World):
  Calls Tryz.prog 25 #[.int .i64 0,.int .i64 1,.string (bs v)] w λx w'=>x=.returned (.bool (vaB Z9 (0,1) v))/\Below w.heap.size w w':=by
 have eO:=h_ (ZbU 0 1 w);have eN:vaB Z9 (0,1) v=vld 1 v:=(by unfold vaB kvB;rw[Vaf rfl];rfl);have Hc:=h_ (λ(W:World)=>Z35 1 v hv W);have hty:tyB (0,1)=true:=(by decide);rw[eN];rw[hty] at eO;clear eN hty;generalize vld 1 v=R at*;clear hv;generalize bs v=S at*;go_enter Tryz.func25,Tryz.ntmps25;go_wp2_with fail;refine(eO.o).mono ?_;rintro x w1 ⟨kc,rfl,hk,a7⟩;obtain⟨b,rfl,hB⟩:=kd0 hk;have Hb:=h_ (a7.alloc a7.size (.cells #[.int .i64 1,.int .i64 128,.func (.func 75) #[] #[],.func (.func 94) #[] #[],.func (.func 96) #[] #[],.func (.func 97) #[] #[],.string ⟨#[98]⟩] 84));clear hk a7 hB;go_wp2_with fail;refine(Hc.o _).mono ?_;rintro x w2 ⟨rfl,a8⟩;have an:=h_ (Hb.o.trans (a8.mono Hb.o.size));clear a8;go_wp2;go_returns;exact⟨rfl,an.o⟩
theorem Z4b (w:World):VaC 0 1 w:=λv hv W _=>by
 have:=Zjf (toL v) (by rw[Z1];exact hv) W;rw[Zc] at this;exact this
theorem Z9L:Tryz.prog.underlying 33=some (.struct (Tryz.prog.fieldsOf 33)):=by kernel_rfl
theorem Zgm:Tryz.prog.stoodInHeld 33=false:=by kernel_rfl
theorem Zgn:∃f0 f1,(Tryz.prog.fieldsOf 33).toList=[f0,f1]/\f0.name≠ "_" /\f1.name≠ "_" /\f0.type=3/\f1.type=9/\f0.offset=0/\f1.offset=1:=
 ⟨(Tryz.prog.fieldsOf 33)[0]!,(Tryz.prog.fieldsOf 33)[1]!,by kernel_rfl,of_decide_eq_true (by kernel_rfl),of_decide_eq_true (by kernel_rfl),by kernel_rfl,by kernel_rfl,by kernel_rfl,by kernel_rfl⟩
theorem Zhe (x y:Int) (u v:ByteArray) (W:World):(Op.equalIn 10000 33 (.agg #[.int .i64 x,.string u]) (.agg #[.int .i64 y,.string v])).run Tryz.prog W=.ok (decide ((x,u)=(y,v))) W:=by
 rw[run_equalIn_agg _ _ _ _ _ Z9L Zgm];obtain⟨f0,f1,h,n0,n1,t0,t1,o0,o1⟩:=Zgn;have e:=Zhd u v;rw[h];simp[Op.eqFields,n0,n1,t0,t1,o0,o1,go_sem,Tryz.underlying3,Tryz.underlying9];by_cases e1:x=y
 ·rw[Vaf e1,Vao e1,Bool.true_and];by_cases e2:u=v
  ·rw[Vaf (by rw[e2]),Vao e2]
  ·rw[Vai e2] at e⊢;rw[Vad (by simpa using e)]
 ·rw[Vad e1,Vai e1,Bool.false_and]
theorem Zjg (x y:Int) (u v:ByteArray) (W:World):(binOp .eql 33 (.agg #[.int .i64 x,.string u]) (.agg #[.int .i64 y,.string v])).run Tryz.prog W=.ok (.bool (decide ((x,u)=(y,v)))) W:=by
 rw[run_eql_struct,Zhe];rfl
theorem Zjh (x y:Int) (u v:ByteArray) (W:World):(binOp .neq 33 (.agg #[.int .i64 x,.string u]) (.agg #[.int .i64 y,.string v])).run Tryz.prog W=.ok (.bool (!decide ((x,u)=(y,v)))) W:=by
 rw[run_neq_struct,Zhe];rfl
theorem Z5E (op:BinOp) (a b:Operand) (xs ys:Array Value) (W:World):(eqGuard op 33 a b (.agg xs) (.agg ys)).run Tryz.prog W=.ok () W:=run_eqGuard_agg _ _ _ _ _ _ _ (by kernel_rfl)
theorem Z5F {w:World} {A B:Option Addr} {l r:List (Int×ByteArray)} (ha:At w A (cv l)) (hb:At w B (cv r)) (n cap m aE:Nat) (hn:n=l.length) (hm:m=r.length) (bo:n<=9223372036854775807) (jB:m<=9223372036854775807):
  Calls Tryz.prog 19 #[.slice A n cap,.slice B m aE] w λx w'=>x=.returned (.bool (decide (l=r)))/\Below w.heap.size w w':=by
 have Ha:=h_ ha;have Hb:=h_ hb;have Hn:=h_ hn;have Hm:=h_ hm;clear ha hb hn hm;by_cases r9:n=m
 ·subst r9;go_enter Tryz.func19,Tryz.ntmps19;go_wp2;go_loopw [5] (λs5 wr=>∃(k q:Nat),k<=n/\s5=.int .i64 (k:Int)/\Hid (l.take k=r.take k)/\wr=w.drewN q) (λs5 _=>(n-intOf s5).toNat);case atStart=>exact⟨0,0,Vat _,rfl,h_ rfl,rfl⟩
  case round=>
   obtain⟨k,q,hk,rfl,heq,rfl⟩:=hrel;by_cases ab:k<n
   ·have h1:k<l.length:=(by rw[<-Hn.o];exact ab);have h2:k<r.length:=(by rw[<-Hm.o];exact ab);obtain⟨bA,oA,rfl,_,c0,c1⟩:=Ye Ha.o k h1;obtain⟨bB,oB,rfl,_,d0,d1⟩:=Ye Hb.o k h2;have cj:(0:Int)<=(k:Int):=(by omega);have iK:(k:Int)<(n:Int):=(by omega);have xy:=λ(h:l[k]=r[k])=>(show l.take (k+1)=r.take (k+1) by rw[Vac h1,Vac h2,heq.o,h]);have xz:=λ(h:¬l[k]=r[k]) (e:l=r)=>h (by subst e;rfl);obtain⟨⟨x,u⟩,hX⟩:∃y,l[k]=y:=⟨_,rfl⟩;obtain⟨⟨y,v⟩,hY⟩:∃y,r[k]=y:=⟨_,rfl⟩;rw[hX,hY] at xy xz;rw[hX] at c0 c1;rw[hY] at d0 d1;simp only at c0 c1 d0 d1;have Kn:=h_ xy;have xA:=h_ xz;clear xy xz hX hY heq h1 h2;have hrn:=λW=>Zjh x y u v W;have V7:=λop a b xs ys W=>Z5E op a b xs ys W;go_wp2;go_quiet (fail);by_cases he:(x,u)=(y,v)
    ·have CW:=Kn.o he;obtain⟨e1,e2⟩:=Prod.mk.inj he;have Ko:=h_ CW;subst e1;subst e2;clear he CW Kn xA;rw[Vao (show x=x from rfl),Vao (show u=u from rfl)];go_wp2
     all_goals first
      |(refine⟨⟨k+1,_,ab,by go_num,Ko,rfl⟩,?_⟩;simp[intOf]<;>omega)
    ·have CX:Hid (decide (l=r)=false):=h_ (Vai (xA.o he))
     have hb:(!decide (x=y)|| !decide (u=v))=true:=by
      by_cases e1:x=y
      ·by_cases e2:u=v
       ·exact absurd (by rw[e1,e2]) he
       ·rw[Vai e2];simp
      ·rw[Vai e1];rfl
     rw[hb];clear hb he Kn xA;go_wp2;go_returns;exact⟨Z4 CX.o.symm,⟨rfl,rfl,rfl,UZz,λ_ _=>rfl⟩⟩
   ·have eH:k=n:=(by omega);subst eH
    have CX:Hid (decide (l=r)=true):=h_ (Vao (by
     have:=heq.o;rw[Vah (by rw[Hn.o];exact UZz),Vah (by rw[<-Hm.o];exact UZz)] at this;exact this))
    clear heq;go_wp2;go_returns;exact⟨Z4 CX.o.symm,⟨rfl,rfl,rfl,UZz,λ_ _=>rfl⟩⟩
 ·have az:((n:Int) !=(m:Int))=true:=(by rw[Va0];omega);have CX:Hid (decide (l=r)=false):=h_ (Vai (λh=>r9 (by rw[Hn.o,Hm.o,h])));go_enter Tryz.func19,Tryz.ntmps19;go_wp2;go_returns;exact⟨Z4 CX.o.symm,Vae _ _⟩
end Go.Proofs.YtchokmkfobandaaGreatDoor
