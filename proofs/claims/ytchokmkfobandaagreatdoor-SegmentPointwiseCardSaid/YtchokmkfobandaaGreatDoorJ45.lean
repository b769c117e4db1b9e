import Derived.Test.YtchokmkfobandaaGreatDoorJ42
import Derived.Laws.StructEq
set_option linter.unusedVariables false
set_option linter.unusedSimpArgs false
set_option maxRecDepth 100000
set_option maxHeartbeats 8000000
namespace Go.Proofs.YtchokmkfobandaaGreatDoor
open Go.RowKit Go.Proofs Wv Wv.Vi Wv.Bc Wv.Sn Wv.Sg Wv.Dc
def VaC (a c:Int) (w:World):Prop:=∀v:ByteArray,v.size<=1099511627776->∀W,Below w.heap.size w W->Calls Tryz.prog 25 #[.int .i64 a,.int .i64 c,.string v] W λx w'=>x=.returned (.bool (vaB Z0u (a,c) (toL v)))/\Below W.heap.size W w'
theorem VaC.below {a c:Int} {w W:World} (h:VaC a c w) (hb:Below w.heap.size w W):VaC a c W:=λv hv X hX=>h v hv X (hb.trans (hX.mono hb.size))
theorem Z2m {w W:World} {a c:Int} (hb:Below (w.alloc (.cells #[.int .i64 a,.int .i64 c] 23)).heap.size (w.alloc (.cells #[.int .i64 a,.int .i64 c] 23)) W):W.cell? ⟨w.heap.size,0,none⟩=some (.int .i64 a)/\W.cell? ⟨w.heap.size,1,none⟩=some (.int .i64 c)/\Below w.heap.size w W/\w.heap.size<W.heap.size:=by
 have h:=(Bk.new w 23 #[.int .i64 a,.int .i64 c]).below hb (by simp);exact⟨h.cell 0,h.cell 1,((Below.refl w.heap.size w).alloc (Nat.le_refl _) _).trans (hb.mono (by simp)),h.lt⟩
theorem Zk1 {w W:World} {x:Int} {v:ByteArray} (hb:Below (w.alloc (.cells #[.int .i64 x,.string v] 33)).heap.size (w.alloc (.cells #[.int .i64 x,.string v] 33)) W):W.cell? ⟨w.heap.size,0,none⟩=some (.int .i64 x)/\W.cell? ⟨w.heap.size,1,none⟩=some (.string v):=by
 have h:=(Bk.new w 33 #[.int .i64 x,.string v]).below hb (by simp);exact⟨h.cell 0,h.cell 1⟩
theorem ZkO (x y:ByteArray):(x.toList==y.toList)=decide (x=y):=by
 have h:=(Zc1 (toL x) (toL y)).2;rw[Z09,Z09] at h;rw[h,decide_eq_decide];exact⟨λe=>by rw[<-Z09 x,e,Z09],λe=>by rw[e]⟩
theorem Z0O {w:World} {A:Option Addr} {b:ByteArray} {l:List (Int×ByteArray)} (ha:At w A (cv l)) (a c f t:Int) (hv:VaC a c w) (bP:b.size<=1099511627776) (ad:∀x∈l,x.2.size<=1099511627776) (n cap:Nat) (hn:n=l.length) (bu:n<=9223372036854775807):
  Calls Tryz.prog 14 #[.agg #[.int .i64 a,.int .i64 c],.int .i64 f,.int .i64 t,.string b,.slice A n cap] w λx w'=>x=.returned (.bool (sgV (a,c) f t b l))/\Below w.heap.size w w':=by
 have Ha:=h_ ha;have Hn:=h_ hn;have HI:=h_ (λW=>ZjZ a c f t W);have HV:=h_ (λv h W hW=>hv v h W hW);have HS:Hid (sgV (a,c) f t b l=(tyB (a,c)&&itv f t&&vaB Z0u (a,c) (toL b)&&decide (n<=4096)&&rise (a,c) t f b l)):=h_ (by rw[hn];rfl);have cH:=h_ (λi (h:i<l.length)=>ad _ (List.getElem_mem h));have HK:=h_ (λW h=>Z2m (w:=w) (W:=W) (a:=a) (c:=c) h);have lz:=h_ bP;clear ha hn hv ad bP;obtain⟨I,hI⟩:∃I,(tyB (a,c)&&itv f t)=I:=⟨_,rfl⟩;rw[hI] at HI HS;clear hI;cases I with
 |false=>
  have HR:Hid (sgV (a,c) f t b l=false):=h_ (by rw[HS.o];rfl);clear HS;go_enter Tryz.func14,Tryz.ntmps14;go_wp2_with fail;refine(HI.o _).mono ?_;rintro x w1 ⟨rfl,a7⟩;obtain⟨_,_,a8,_⟩:=HK.o _ a7;go_wp2;go_returns;exact⟨Z03 HR.o.symm,a8⟩
 |true=>
  have Cf:=h_ (λW hW=>HV.o b lz.o W hW);obtain⟨B,hB⟩:∃B,vaB Z0u (a,c) (toL b)=B:=⟨_,rfl⟩;rw[hB] at Cf HS;clear hB;cases B with
  |false=>
   have HR:Hid (sgV (a,c) f t b l=false):=h_ (by rw[HS.o];rfl);clear HS;go_enter Tryz.func14,Tryz.ntmps14;go_wp2_with fail;refine(HI.o _).mono ?_;rintro x w1 ⟨rfl,a7⟩;obtain⟨z0,z1,a8,_⟩:=HK.o _ a7;have al:=h_ a8;clear a7 a8;go_wp2_with fail;refine(Cf.o _ al.o).mono ?_;rintro x w2 ⟨rfl,ae⟩;have aF:=h_ (al.o.trans (ae.mono al.o.size));clear ae;go_wp2;go_returns;exact⟨Z03 HR.o.symm,aF.o⟩
  |true=>
   by_cases h4:(4096:Int)<(n:Int)
   ·have HR:Hid (sgV (a,c) f t b l=false):=h_ (by rw[HS.o,decide_eq_false (by omega)];rfl);clear HS;go_enter Tryz.func14,Tryz.ntmps14;go_wp2_with fail;refine(HI.o _).mono ?_;rintro x w1 ⟨rfl,a7⟩;obtain⟨z0,z1,a8,_⟩:=HK.o _ a7;have al:=h_ a8;clear a7 a8;go_wp2_with fail;refine(Cf.o _ al.o).mono ?_;rintro x w2 ⟨rfl,ae⟩;have aF:=h_ (al.o.trans (ae.mono al.o.size));clear ae;go_wp2;go_returns;exact⟨Z03 HR.o.symm,aF.o⟩
   ·have HR:Hid (sgV (a,c) f t b l=rise (a,c) t f b l):=h_ (by rw[HS.o,decide_eq_true (by omega)];rfl);clear HS;go_enter Tryz.func14,Tryz.ntmps14;go_wp2_with fail;refine(HI.o _).mono ?_;rintro x w1 ⟨rfl,a7⟩;obtain⟨z0,z1,a8,_⟩:=HK.o _ a7;have an:=h_ a7;have al:=h_ a8;clear a7 a8;go_wp2_with fail;refine(Cf.o _ al.o).mono ?_;rintro x w2 ⟨rfl,ae⟩;have aF:=h_ (an.o.trans (ae.mono an.o.size));clear ae z0 z1 an al Cf HI;go_wp2;go_loopw [3,11,36] (λs3 kK JJ wr=>∃(k:Nat) (q:Int) (d:ByteArray),k<=n/\JJ=.int .i64 (k:Int)/\kK=.int .i64 q/\s3=.string d/\Hid (rise (a,c) t f b l=rise (a,c) t q d (l.drop k))/\Hid (Below (w.alloc (.cells #[.int .i64 a,.int .i64 c] 23)).heap.size (w.alloc (.cells #[.int .i64 a,.int .i64 c] 23)) wr)) (λ_ _ JJ _=>(n-intOf JJ).toNat);case atStart=>exact⟨0,f,b,Nat.zero_le _,rfl,rfl,rfl,h_ rfl,aF⟩
    case round=>
     clear aF;obtain⟨k,q,d,hk,rfl,rfl,rfl,ar,hb⟩:=hrel;obtain⟨z0,z1,a8,dL⟩:=HK.o _ hb.o;by_cases ab:k<n
     ·have bD:k<l.length:=(by rw[<-Hn.o];exact ab);obtain⟨bA,oA,rfl,wC,c0,c1⟩:=Z1a (Ha.o.below a8) k bD;have au:=Zhl (s:=(a,c)) (t:=t) (a:=q) (b:=d) bD;have gb:=cH.o k bD;obtain⟨⟨x,v⟩,hs⟩:∃y,l[k]=y:=⟨_,rfl⟩;rw[hs] at c0 c1 au gb;simp only at c0 c1 au gb;have aR:Hid (sgV (a,c) f t b l=_):=h_ (HR.o.trans (ar.o.trans au));have HC:=h_ (λW h=>Zk1 (w:=wr) (W:=W) (x:=x) (v:=v) h);have ec:=hb.o.alloc hb.o.size (.cells #[.int .i64 x,.string v] 33);have qv:=h_ ec;have bU:(0:Int)<=(k:Int):=(by omega);have gL:(k:Int)<(n:Int):=(by omega);clear au hs bD;by_cases hq:x<=q
      ·have aV:Hid (sgV (a,c) f t b l=false):=h_ (by rw[aR.o,decide_eq_false (show ¬q<x by omega)];rfl);have bO:=h_ (HK.o _ ec).2.2.1;clear ec a8 gb;go_wp2;go_returns;exact⟨Z03 aV.o.symm,bO.o⟩
      ·by_cases ht:t<x
       ·have aV:Hid (sgV (a,c) f t b l=false):=h_ (by rw[aR.o,decide_eq_false (show ¬x<=t by omega)];simp);have bO:=h_ (HK.o _ ec).2.2.1;clear ec a8 gb;go_wp2;go_returns;exact⟨Z03 aV.o.symm,bO.o⟩
       ·have Cg:=h_ (λW hW=>HV.o v gb W hW);have bO:=h_ (HK.o _ ec).2.2.1;have Tx:Hid (vaB Z0u (a,c) (toL v)=vaB Z0u (a,c) (toL v)):=h_ rfl;obtain⟨B,hB⟩:∃B,vaB Z0u (a,c) (toL v)=B:=⟨_,rfl⟩;rw[hB] at Cg;have OT:=h_ hB;clear ec a8 gb hB Tx;cases B with
        |false=>
         have aV:Hid (sgV (a,c) f t b l=false):=h_ (by rw[aR.o,OT.o];simp);go_wp2_with fail;refine(Cg.o _ bO.o).mono ?_;rintro x w3 ⟨rfl,dq⟩;have ej:=h_ (bO.o.trans (dq.mono bO.o.size));clear dq;go_wp2;go_returns;exact⟨Z03 aV.o.symm,ej.o⟩
        |true=>
         have dx:Hid (sgV (a,c) f t b l=((decide (a=3)|| !decide (v=d))&&rise (a,c) t x v (l.drop (k+1)))):=h_ (by rw[aR.o,OT.o,decide_eq_true (show q<x by omega),decide_eq_true (show x<=t by omega)];simp);by_cases h3:a=3
         ·have fU:Hid (rise (a,c) t f b l=rise (a,c) t x v (l.drop (k+1))):=h_ (by rw[<-HR.o,dx.o,decide_eq_true h3];simp);have Eg:(a !=3)=false:=(by rw[h3];rfl);clear aR dx ar h3;go_wp2_with fail;refine(Cg.o _ bO.o).mono ?_;rintro y w3 ⟨rfl,dq⟩;obtain⟨y0,y1⟩:=HC.o _ dq;have ej:=h_ (qv.o.trans (dq.mono qv.o.size));obtain⟨z0,z1,_,_⟩:=HK.o _ ej.o;clear dq;go_wp2;go_quiet (fail);go_wp2;refine⟨⟨k+1,x,v,ab,by go_num,rfl,rfl,fU,h_ ⟨ej.o.1,ej.o.2,ej.o.3,ej.o.4,ej.o.5⟩⟩,?_⟩;simp[intOf]<;>omega
         ·have Eg:(a !=3)=true:=(by rw[bne_iff_ne];exact h3);have heq:=ZkO v d;by_cases he:v=d
          ·have aV:Hid (sgV (a,c) f t b l=false):=h_ (by rw[dx.o,decide_eq_true he,decide_eq_false h3];rfl);rw[decide_eq_true he] at heq;clear aR dx ar h3 he;go_wp2_with fail;refine(Cg.o _ bO.o).mono ?_;rintro y w3 ⟨rfl,dq⟩;obtain⟨y0,y1⟩:=HC.o _ dq;have ej:=h_ (qv.o.trans (dq.mono qv.o.size));obtain⟨z0,z1,fx,_⟩:=HK.o _ ej.o;clear dq;go_wp2;go_returns;exact⟨Z03 aV.o.symm,fx⟩
          ·have fU:Hid (rise (a,c) t f b l=rise (a,c) t x v (l.drop (k+1))):=h_ (by rw[<-HR.o,dx.o,decide_eq_false he];simp);rw[decide_eq_false he] at heq;clear aR dx ar h3 he;go_wp2_with fail;refine(Cg.o _ bO.o).mono ?_;rintro y w3 ⟨rfl,dq⟩;obtain⟨y0,y1⟩:=HC.o _ dq;have ej:=h_ (qv.o.trans (dq.mono qv.o.size));obtain⟨z0,z1,_,_⟩:=HK.o _ ej.o;clear dq;go_wp2;go_quiet (fail);go_wp2;refine⟨⟨k+1,x,v,ab,by go_num,rfl,rfl,fU,h_ ⟨ej.o.1,ej.o.2,ej.o.3,ej.o.4,ej.o.5⟩⟩,?_⟩;simp[intOf]<;>omega
     ·have ef:k=n:=(by omega);subst ef;have aV:Hid (sgV (a,c) f t b l=true):=h_ (by rw[HR.o,ar.o,List.drop_eq_nil_of_le (by rw[Hn.o];exact Nat.le_refl _)];rfl);clear ar;go_wp2;go_returns;exact⟨Z03 aV.o.symm,a8⟩
theorem ZmQ (v:List UInt8) (hv:v.length<=1099511627776) (w:World):
  Calls Tryz.prog 25 #[.int .i64 0,.int .i64 1,.string (bs v)] w λx w'=>x=.returned (.bool (vaB Z0u (0,1) v))/\Below w.heap.size w w':=by
 have eF:=h_ (ZfO 0 1 w);have eE:vaB Z0u (0,1) v=vld 1 v:=(by unfold vaB kvB;rw[if_pos rfl];rfl);have Hc:=h_ (λ(W:World)=>Z6Y 1 v hv W);have hty:tyB (0,1)=true:=(by decide);rw[eE];rw[hty] at eF;clear eE hty;generalize vld 1 v=R at*;clear hv;generalize bs v=S at*;go_enter Tryz.func25,Tryz.ntmps25;go_wp2_with fail;refine(eF.o).mono ?_;rintro x w1 ⟨kc,rfl,hk,a7⟩;obtain⟨b,rfl,hB⟩:=kd0 hk;have Hb:=h_ (a7.alloc a7.size (.cells #[.int .i64 1,.int .i64 128,.func (.func 75) #[] #[],.func (.func 94) #[] #[],.func (.func 96) #[] #[],.func (.func 97) #[] #[],.string ⟨#[98]⟩] 84));clear hk a7 hB;go_wp2_with fail;refine(Hc.o _).mono ?_;rintro x w2 ⟨rfl,a8⟩;have al:=h_ (Hb.o.trans (a8.mono Hb.o.size));clear a8;go_wp2;go_returns;exact⟨rfl,al.o⟩
theorem Z89 (w:World):VaC 0 1 w:=λv hv W _=>by
 have:=ZmQ (toL v) (by rw[Z01];exact hv) W;rw[Z09] at this;exact this
theorem ZdF:Tryz.prog.underlying 33=some (.struct (Tryz.prog.fieldsOf 33)):=by kernel_rfl
theorem Zk2:Tryz.prog.stoodInHeld 33=false:=by kernel_rfl
theorem Zk3:∃f0 f1,(Tryz.prog.fieldsOf 33).toList=[f0,f1]/\f0.name≠ "_" /\f1.name≠ "_" /\f0.type=3/\f1.type=9/\f0.offset=0/\f1.offset=1:=
 ⟨(Tryz.prog.fieldsOf 33)[0]!,(Tryz.prog.fieldsOf 33)[1]!,by kernel_rfl,of_decide_eq_true (by kernel_rfl),of_decide_eq_true (by kernel_rfl),by kernel_rfl,by kernel_rfl,by kernel_rfl,by kernel_rfl⟩
theorem ZkP (x y:Int) (u v:ByteArray) (W:World):(Op.equalIn 10000 33 (.agg #[.int .i64 x,.string u]) (.agg #[.int .i64 y,.string v])).run Tryz.prog W=.ok (decide ((x,u)=(y,v))) W:=by
 rw[run_equalIn_agg _ _ _ _ _ ZdF Zk2];obtain⟨f0,f1,h,n0,n1,t0,t1,o0,o1⟩:=Zk3;have e:=ZkO u v;rw[h];simp[Op.eqFields,n0,n1,t0,t1,o0,o1,go_sem,Tryz.underlying3,Tryz.underlying9];by_cases e1:x=y
 ·rw[if_pos e1,decide_eq_true e1,Bool.true_and];by_cases e2:u=v
  ·rw[if_pos (by rw[e2]),decide_eq_true e2]
  ·rw[decide_eq_false e2] at e⊢;rw[if_neg (by simpa using e)]
 ·rw[if_neg e1,decide_eq_false e1,Bool.false_and]
theorem ZmR (x y:Int) (u v:ByteArray) (W:World):(binOp .eql 33 (.agg #[.int .i64 x,.string u]) (.agg #[.int .i64 y,.string v])).run Tryz.prog W=.ok (.bool (decide ((x,u)=(y,v)))) W:=by
 rw[run_eql_struct,ZkP];rfl
theorem ZaX (x y:Int) (u v:ByteArray) (W:World):(binOp .neq 33 (.agg #[.int .i64 x,.string u]) (.agg #[.int .i64 y,.string v])).run Tryz.prog W=.ok (.bool (!decide ((x,u)=(y,v)))) W:=by
 rw[run_neq_struct,ZkP];rfl
theorem Z4p (op:BinOp) (a b:Operand) (xs ys:Array Value) (W:World):(eqGuard op 33 a b (.agg xs) (.agg ys)).run Tryz.prog W=.ok () W:=run_eqGuard_agg _ _ _ _ _ _ _ (by kernel_rfl)
theorem Z9u {w:World} {A B:Option Addr} {l r:List (Int×ByteArray)} (ha:At w A (cv l)) (hb:At w B (cv r)) (n cap m aK:Nat) (hn:n=l.length) (hm:m=r.length) (bu:n<=9223372036854775807) (xm:m<=9223372036854775807):
  Calls Tryz.prog 19 #[.slice A n cap,.slice B m aK] w λx w'=>x=.returned (.bool (decide (l=r)))/\Below w.heap.size w w':=by
 have Ha:=h_ ha;have Hb:=h_ hb;have Hn:=h_ hn;have Hm:=h_ hm;clear ha hb hn hm;by_cases qH:n=m
 ·subst qH;go_enter Tryz.func19,Tryz.ntmps19;go_wp2;go_loopw [5] (λs5 wr=>∃(k q:Nat),k<=n/\s5=.int .i64 (k:Int)/\Hid (l.take k=r.take k)/\wr=w.drewN q) (λs5 _=>(n-intOf s5).toNat);case atStart=>exact⟨0,0,Nat.zero_le _,rfl,h_ rfl,rfl⟩
  case round=>
   obtain⟨k,q,hk,rfl,heq,rfl⟩:=hrel;by_cases ab:k<n
   ·have h1:k<l.length:=(by rw[<-Hn.o];exact ab);have h2:k<r.length:=(by rw[<-Hm.o];exact ab);obtain⟨bA,oA,rfl,_,c0,c1⟩:=Z1a Ha.o k h1;obtain⟨bB,oB,rfl,_,d0,d1⟩:=Z1a Hb.o k h2;have bU:(0:Int)<=(k:Int):=(by omega);have gL:(k:Int)<(n:Int):=(by omega);have wN:=λ(h:l[k]=r[k])=>(show l.take (k+1)=r.take (k+1) by rw[List.take_succ_eq_append_getElem h1,List.take_succ_eq_append_getElem h2,heq.o,h]);have wO:=λ(h:¬l[k]=r[k]) (e:l=r)=>h (by subst e;rfl);obtain⟨⟨x,u⟩,hX⟩:∃y,l[k]=y:=⟨_,rfl⟩;obtain⟨⟨y,v⟩,hY⟩:∃y,r[k]=y:=⟨_,rfl⟩;rw[hX,hY] at wN wO;rw[hX] at c0 c1;rw[hY] at d0 d1;simp only at c0 c1 d0 d1;have JK:=h_ wN;have wP:=h_ wO;clear wN wO hX hY heq h1 h2;have Eh:=λW=>ZaX x y u v W;have JL:=λop a b xs ys W=>Z4p op a b xs ys W;go_wp2;go_quiet (fail);by_cases he:(x,u)=(y,v)
    ·have Ch:=JK.o he;obtain⟨e1,e2⟩:=Prod.mk.inj he;have JM:=h_ Ch;subst e1;subst e2;clear he Ch JK wP;rw[decide_eq_true (show x=x from rfl),decide_eq_true (show u=u from rfl)];go_wp2
     all_goals first
      |(refine⟨⟨k+1,_,ab,by go_num,JM,rfl⟩,?_⟩;simp[intOf]<;>omega)
    ·have Ci:Hid (decide (l=r)=false):=h_ (decide_eq_false (wP.o he))
     have hb:(!decide (x=y)|| !decide (u=v))=true:=by
      by_cases e1:x=y
      ·by_cases e2:u=v
       ·exact absurd (by rw[e1,e2]) he
       ·rw[decide_eq_false e2];simp
      ·rw[decide_eq_false e1];rfl
     rw[hb];clear hb he JK wP;go_wp2;go_returns;exact⟨Z03 Ci.o.symm,⟨rfl,rfl,rfl,Nat.le_refl _,λ_ _=>rfl⟩⟩
   ·have ef:k=n:=(by omega);subst ef
    have Ci:Hid (decide (l=r)=true):=h_ (decide_eq_true (by
     have:=heq.o;rw[List.take_of_length_le (by rw[Hn.o];exact Nat.le_refl _),List.take_of_length_le (by rw[<-Hm.o];exact Nat.le_refl _)] at this;exact this))
    clear heq;go_wp2;go_returns;exact⟨Z03 Ci.o.symm,⟨rfl,rfl,rfl,Nat.le_refl _,λ_ _=>rfl⟩⟩
 ·have ay:((n:Int) !=(m:Int))=true:=(by rw[bne_iff_ne];omega);have Ci:Hid (decide (l=r)=false):=h_ (decide_eq_false (λh=>qH (by rw[Hn.o,Hm.o,h])));go_enter Tryz.func19,Tryz.ntmps19;go_wp2;go_returns;exact⟨Z03 Ci.o.symm,Below.refl _ _⟩
end Go.Proofs.YtchokmkfobandaaGreatDoor
