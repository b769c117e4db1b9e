import Derived.Test.YtchokmkfobandaaGreatDoorJ11
import Derived.Test.YtchokmkfobandaaGreatDoorLShelf
import Derived.Lib.Repeat
import Derived.StillTailTactics
set_option linter.unusedVariables false
set_option linter.unusedSimpArgs false
set_option maxRecDepth 100000
set_option maxHeartbeats 8000000
namespace Go.Proofs.YtchokmkfobandaaGreatDoor
open Go.RowKit Go.Proofs Wv Wv.Vi Wv.Bc
def cdI (c:UInt8):Int:=if cd c<4 then(cd c:Int) else-1
theorem Zf7:(∀h:0<(⟨#[48,49,120,122]⟩:ByteArray).size,((⟨#[48,49,120,122]⟩:ByteArray)[0]'h).toNat=48)/\(∀h:1<(⟨#[48,49,120,122]⟩:ByteArray).size,((⟨#[48,49,120,122]⟩:ByteArray)[1]'h).toNat=49)/\
  (∀h:2<(⟨#[48,49,120,122]⟩:ByteArray).size,((⟨#[48,49,120,122]⟩:ByteArray)[2]'h).toNat=120)/\(∀h:3<(⟨#[48,49,120,122]⟩:ByteArray).size,((⟨#[48,49,120,122]⟩:ByteArray)[3]'h).toNat=122):=⟨λ_=>rfl,λ_=>rfl,λ_=>rfl,λ_=>rfl⟩
theorem ZnF {c:UInt8} :(c.toNat=48->cdI c=0)/\(c.toNat=49->cdI c=1)/\(c.toNat=120->cdI c=2)/\(c.toNat=122->cdI c=3)/\(c.toNat≠48->c.toNat≠49->c.toNat≠120->c.toNat≠122->cdI c= -1):=by
 have e:∀k:UInt8,c.toNat=k.toNat->c=k:=λk h=>UInt8.toNat_inj.1 h;refine⟨λh=>by rw[e 48 h];rfl,λh=>by rw[e 49 h];rfl,λh=>by rw[e 120 h];rfl,λh=>by rw[e 122 h];rfl,λh0 h1 h2 h3=> ?_⟩;rcases Z56 c with ⟨rfl,h⟩|⟨rfl,h⟩|⟨rfl,h⟩|⟨rfl,h⟩|⟨_,_,_,_,h⟩
 ·exact absurd rfl h0
 ·exact absurd rfl h1
 ·exact absurd rfl h2
 ·exact absurd rfl h3
 ·unfold cdI;rw[h];rfl
theorem Z3q (c:UInt8) (w:World):Calls Tryz.prog 165 #[.int .u8 (c.toNat:Int)] w λx w'=>x=.returned (.int .i64 (cdI c))/\w=w':=by
 obtain⟨f0,f1,f2,f3,f4⟩:=ZnF (c:=c);obtain⟨g0,g1,g2,g3⟩:=Zf7;obtain⟨R,hR⟩:∃R,cdI c=R:=⟨_,rfl⟩;rw[hR] at f0 f1 f2 f3 f4⊢;obtain⟨C,hC⟩:∃C,c.toNat=C:=⟨_,rfl⟩;rw[hC] at f0 f1 f2 f3 f4⊢;have F0:=h_ f0;have F1:=h_ f1;have F2:=h_ f2;have F3:=h_ f3;have F4:=h_ f4;clear hR hC f0 f1 f2 f3 f4;go_enter Tryz.func165,Tryz.ntmps165;go_wp2;go_loopw [4] (λs4 wr=>∃i:Nat,i<=4/\s4=.int .i64 (i:Int)/\Hid ((0<i->C≠48)/\(1<i->C≠49)/\(2<i->C≠120)/\(3<i->C≠122))/\wr=w) (λs4 _=>(4-intOf s4).toNat);case atStart=>exact⟨0,by omega,rfl,h_ ⟨λh=>by omega,λh=>by omega,λh=>by omega,λh=>by omega⟩,rfl⟩
 case round=>
  obtain⟨i,hi,rfl,dt,rfl⟩:=hrel;rcases(show i=0\/i=1\/i=2\/i=3\/i=4 by omega) with rfl|rfl|rfl|rfl|rfl
  ·by_cases hc:C=48
   ·have hR:=F0.out hc;subst hc;go_wp2;go_returns;exact⟨by first|rfl|(rw[hR];rfl),rfl⟩
   ·have hb:((48:Int)==(C:Int))=false:=(by rw[beq_eq_false_iff_ne];omega);go_wp2;refine⟨⟨1,by omega,rfl,h_ ⟨λ_=>hc,λh=>by omega,λh=>by omega,λh=>by omega⟩,by first|rfl|trivial⟩,?_⟩;simp[intOf]
  ·by_cases hc:C=49
   ·have hR:=F1.out hc;subst hc;go_wp2;go_returns;exact⟨by first|rfl|(rw[hR];rfl),rfl⟩
   ·have hb:((49:Int)==(C:Int))=false:=(by rw[beq_eq_false_iff_ne];omega);have hn:=dt.o;go_wp2;refine⟨⟨2,by omega,rfl,h_ ⟨λ_=>hn.1 (by omega),λ_=>hc,λh=>by omega,λh=>by omega⟩,by first|rfl|trivial⟩,?_⟩;simp[intOf]
  ·by_cases hc:C=120
   ·have hR:=F2.out hc;subst hc;go_wp2;go_returns;exact⟨by first|rfl|(rw[hR];rfl),rfl⟩
   ·have hb:((120:Int)==(C:Int))=false:=(by rw[beq_eq_false_iff_ne];omega);have hn:=dt.o;go_wp2;refine⟨⟨3,by omega,rfl,h_ ⟨λ_=>hn.1 (by omega),λ_=>hn.2.1 (by omega),λ_=>hc,λh=>by omega⟩,by first|rfl|trivial⟩,?_⟩;simp[intOf]
  ·by_cases hc:C=122
   ·have hR:=F3.out hc;subst hc;go_wp2;go_returns;exact⟨by first|rfl|(rw[hR];rfl),rfl⟩
   ·have hb:((122:Int)==(C:Int))=false:=(by rw[beq_eq_false_iff_ne];omega);have hn:=dt.o;go_wp2;refine⟨⟨4,by omega,rfl,h_ ⟨λ_=>hn.1 (by omega),λ_=>hn.2.1 (by omega),λ_=>hn.2.2.1 (by omega),λ_=>hc⟩,by first|rfl|trivial⟩,?_⟩;simp[intOf]
  ·have hn:=dt.o;have hR:=F4.out (hn.1 (by omega)) (hn.2.1 (by omega)) (hn.2.2.1 (by omega)) (hn.2.2.2 (by omega));go_wp2;go_returns;exact⟨by first|rfl|(rw[hR];rfl),rfl⟩
theorem Zbq (n:Nat) (hn:n<4) (w:World):Calls Tryz.prog 205 #[.int .i64 (n:Int)] w λx w'=>x=.returned (.tuple #[.int .u8 ((ch n).toNat:Int),.bool true])/\w=w':=by
 rcases(show n=0\/n=1\/n=2\/n=3 by omega) with rfl|rfl|rfl|rfl
 all_goals
  go_enter Tryz.func205,Tryz.ntmps205;go_wp2;go_returns;exact⟨rfl,rfl⟩
def cdK (c:UInt8):Nat:=if cd c<4 then cd c else 2
theorem ZnG (c:UInt8):cdK c<4:=by unfold cdK;split<;>omega
theorem Zf8 (c:UInt8) (w:World):Calls Tryz.prog 309 #[.int .u8 (c.toNat:Int)] w λx w'=>x=.returned (.int .i64 (cdK c:Int))/\w=w':=by
 have H:=h_ (Z3q c w);unfold cdI cdK at*;by_cases h:cd c<4
 ·rw[if_pos h] at H⊢;generalize (c.toNat:Int)=C at*;generalize cd c=k at*;have h0:(0:Int)<=(k:Int):=(by omega);go_enter Tryz.func309,Tryz.ntmps309;go_wp2_with fail;refine(H.o).mono ?_;rintro x w1 ⟨rfl,rfl⟩;go_wp2;go_returns;exact⟨rfl,rfl⟩
 ·rw[if_neg h] at H⊢;generalize (c.toNat:Int)=C at*;clear h;go_enter Tryz.func309,Tryz.ntmps309;go_wp2_with fail;refine(H.o).mono ?_;rintro x w1 ⟨rfl,rfl⟩;go_wp2;go_returns;exact⟨rfl,rfl⟩
theorem ZcA (c:UInt8) (w:World):Calls Tryz.prog 145 #[.int .u8 (c.toNat:Int)] w λx w'=>x=.returned (.bool (isC c))/\w=w':=by
 have H:=h_ (Z3q c w)
 have h:decide (0<=cdI c)=isC c:=by
  unfold cdI isC;by_cases h:cd c<4
  ·rw[if_pos h];simp[h]
  ·rw[if_neg h];simp[h]
 generalize (c.toNat:Int)=C at*;generalize cdI c=k at*;go_enter Tryz.func145,Tryz.ntmps145;go_wp2_with fail;refine(H.o).mono ?_;rintro x w1 ⟨rfl,rfl⟩;go_wp2;go_returns;exact⟨by first|rfl|(rw[h]),rfl⟩
def invC (c:UInt8):UInt8:=ch (if cdK c<2 then 1-cdK c else cdK c)
theorem Zir (w:World):(Instr.index 207 (.agg #[.int .u8 49,.int .u8 48,.int .u8 120,.int .u8 122]) (.int .i64 0)).run Tryz.prog w=.ok (.int .u8 49) w:=by kernel_rfl
theorem Zis (w:World):(Instr.index 207 (.agg #[.int .u8 49,.int .u8 48,.int .u8 120,.int .u8 122]) (.int .i64 1)).run Tryz.prog w=.ok (.int .u8 48) w:=by kernel_rfl
theorem Zit (w:World):(Instr.index 207 (.agg #[.int .u8 49,.int .u8 48,.int .u8 120,.int .u8 122]) (.int .i64 2)).run Tryz.prog w=.ok (.int .u8 120) w:=by kernel_rfl
theorem Ziu (w:World):(Instr.index 207 (.agg #[.int .u8 49,.int .u8 48,.int .u8 120,.int .u8 122]) (.int .i64 3)).run Tryz.prog w=.ok (.int .u8 122) w:=by kernel_rfl
theorem Z9Y (c:UInt8) (w:World):Calls Tryz.prog 297 #[.int .u8 (c.toNat:Int)] w λx w'=>x=.returned (.int .u8 ((invC c).toNat:Int))/\w=w':=by
 have H:=h_ (Zf8 c w);have hk:=ZnG c;unfold invC;generalize (c.toNat:Int)=C at*;generalize cdK c=k at*;have r0:=Zir w;have r1:=Zis w;have r2:=Zit w;have r3:=Ziu w;rcases(show k=0\/k=1\/k=2\/k=3 by omega) with rfl|rfl|rfl|rfl
 all_goals
  go_enter Tryz.func297,Tryz.ntmps297;go_wp2_with fail;refine(H.o).mono ?_;rintro x w1 ⟨rfl,rfl⟩;go_wp2;go_returns;exact⟨rfl,rfl⟩
def cn (k:Nat) (v:List UInt8):Nat:=(v.filter (λc=>cd c==k)).length
theorem Zf9 (k:Nat) (v:List UInt8) (c:UInt8):cn k (v++[c])=cn k v+if cd c=k then 1 else 0:=by
 unfold cn;rw[List.filter_append,List.length_append];congr 1;by_cases h:cd c=k
 ·rw[if_pos h];simp[h]
 ·rw[if_neg h];simp[h]
theorem Z6k (k:Nat) (v:List UInt8):cn k v<=v.length:=List.length_filter_le _ _
theorem Zfa (v:List UInt8):cn 0 v+cn 1 v+cn 2 v+cn 3 v<=v.length/\(cn 0 v+cn 1 v+cn 2 v+cn 3 v=v.length↔∀c∈v,cd c<4)/\(cn 0 v+cn 1 v=v.length↔∀c∈v,cd c<2)/\((∀c∈v,cd c<4)->(cn 2 v+cn 3 v=0↔∀c∈v,cd c<2)):=by
 induction v with
 |nil=>simp[cn]
 |cons a r ih=>
  have key:∀k,cn k (a::r)=cn k r+if cd a=k then 1 else 0:=λk=>by
   unfold cn;by_cases h:cd a=k
   ·rw[if_pos h,List.filter_cons_of_pos (by simp[h])];rfl
   ·rw[if_neg h,List.filter_cons_of_neg (by simp[h])];rfl
  obtain⟨i1,i2,i3,i4⟩:=ih;have hle:=Znk a;simp only[key,List.length_cons,List.forall_mem_cons];rcases(show cd a=0\/cd a=1\/cd a=2\/cd a=3\/cd a=4 by omega) with h|h|h|h|h
  all_goals
   simp only[h];refine⟨by simp<;>omega,⟨λh1=> ?_,λh1=> ?_⟩,⟨λh1=> ?_,λh1=> ?_⟩,λh0=>⟨λh1=> ?_,λh1=> ?_⟩⟩
  all_goals simp at*
  all_goals first
   |omega
   |(refine i2.1 ?_;omega)
   |(have:=i2.2 h1;omega)
   |(refine i3.1 ?_;omega)
   |(have:=i3.2 h1;omega)
   |(exact(i4 h0).1 h1)
   |(exact(i4 h0).2 h1)
   |skip
theorem Z48 (v:List UInt8) (i:Nat) (h:i<v.length) (h2:i<(bs v).size):((bs v)[i]'h2)=v[i]'h:=by simp[bs];rfl
def cnA (v:List UInt8):Array Value:= #[.int .i64 (cn 0 v:Int),.int .i64 (cn 1 v:Int),.int .i64 (cn 2 v:Int),.int .i64 (cn 3 v:Int)]
theorem Ziv (v:List UInt8) (c:UInt8) (k:Nat) (hk:cd c=k) (h:k<4):(cnA v).setIfInBounds k (.int .i64 ((cn k v:Int)+1))=cnA (v++[c]):=by
 unfold cnA;simp only[Zf9,hk];rcases(show k=0\/k=1\/k=2\/k=3 by omega) with rfl|rfl|rfl|rfl<;>simp
theorem Ziw (v:List UInt8) (c:UInt8) (h:¬cd c<4):cnA (v++[c])=cnA v:=by
 unfold cnA;simp only[Zf9];rw[if_neg (by omega),if_neg (by omega),if_neg (by omega),if_neg (by omega)];rfl
theorem Z5F (v:List UInt8) (hv:v.length<=1099511627776) (w:World):
  Calls Tryz.prog 162 #[.string (bs v)] w λx w'=>x=.returned (.agg (cnA v))/\Below w.heap.size w w':=by
 have ad:(bs v).size=v.length:=Z00 v;have aA:=h_ (((Below.refl w.heap.size w).alloc (Nat.le_refl _) (.cells #[.int .i64 0,.int .i64 0,.int .i64 0,.int .i64 0] 209)).alloc (by simp) (.cells #[.int .i64 0,.int .i64 0,.int .i64 0,.int .i64 0] 209));have bU:=h_ ((Bk.new w 209 #[.int .i64 0,.int .i64 0,.int .i64 0,.int .i64 0]).alloc (.cells #[.int .i64 0,.int .i64 0,.int .i64 0,.int .i64 0] 209));have aP:=Bk.new (w.alloc (.cells #[.int .i64 0,.int .i64 0,.int .i64 0,.int .i64 0] 209)) 209 #[.int .i64 0,.int .i64 0,.int .i64 0,.int .i64 0];rw[World.size_alloc] at aP;have rl:=h_ aP;have e9:Hid (∀(i:Nat) (h:i<v.length) (h2:i<(bs v).size),(bs v)[i]'h2=v[i]'h):=h_ (λi h h2=>Z48 v i h h2);obtain⟨n,hn⟩:∃n,v.length=n:=⟨_,rfl⟩;obtain⟨S,hS⟩:∃S,bs v=S:=⟨_,rfl⟩;rw[hS] at ad e9⊢;rw[hn] at ad hv;have Hn:=h_ hn;have cH:=h_ ad;clear hn hS aP ad;go_enter Tryz.func162,Tryz.ntmps162;go_wp2;rw[cH.o];go_loopw [8] (λs8 wr=>∃i:Nat,i<=n/\s8=.int .i64 (i:Int)/\Hid (Bk wr w.heap.size 209 #[.int .i64 0,.int .i64 0,.int .i64 0,.int .i64 0])/\Hid (Bk wr (w.heap.size+1) 209 (cnA (v.take i)))/\Hid (Below w.heap.size w wr)) (λs8 _=>(n-intOf s8).toNat);case atStart=>exact⟨0,Nat.zero_le _,rfl,bU,rl,aA⟩
 case round=>
  clear bU rl aA;obtain⟨i,hi,rfl,eO,cS,hb⟩:=hrel;by_cases ab:i<n
  ·have bz:i<v.length:=(by rw[Hn.o];exact ab);have qB:i<S.size:=(by rw[cH.o];exact ab);have dO:=e9.o i bz;have ax:v.take (i+1)=v.take i++[v[i]]:=List.take_succ_eq_append_getElem bz;obtain⟨c,hc⟩:∃c,v[i]=c:=⟨_,rfl⟩;rw[hc] at dO ax;have aY:∀h:i<S.size,(S[i]'h).toNat=c.toNat:=λh=>(by rw[dO h]);have di:(i:Int)<(n:Int):=(by omega);have sP:(0:Int)<=(i:Int):=(by omega)
   have ia:cn 0 (v.take i)<=i/\cn 1 (v.take i)<=i/\cn 2 (v.take i)<=i/\cn 3 (v.take i)<=i:=by
    have hl:(v.take i).length<=i:=(by rw[List.length_take];omega);exact⟨Nat.le_trans (Z6k _ _) hl,Nat.le_trans (Z6k _ _) hl,Nat.le_trans (Z6k _ _) hl,Nat.le_trans (Z6k _ _) hl⟩
   obtain⟨bN,bY,dF,fl⟩:=ia;have mQ:=h_ (Z3q c wr);unfold cdI at mQ;have rn:=cS.o.cell 0;have fo:=cS.o.cell 1;have uf:=cS.o.cell 2;have ug:=cS.o.cell 3;have f0:=cS.o.frozen 0;have f1:=cS.o.frozen 1;have f2:=cS.o.frozen 2;have f3:=cS.o.frozen 3;unfold cnA at rn fo uf ug;simp only[List.getElem?_toArray,List.getElem?_cons_zero,List.getElem?_cons_succ] at rn fo uf ug;have av:=h_ (λk (h:cd c=k) (h4:k<4)=>(by rw[ax,<-Ziv _ c k h h4];exact Bk.put cS.o k (.int .i64 ((cn k (v.take i):Int)+1)):Bk (wr.setCell ⟨w.heap.size+1,k,none⟩ (.int .i64 ((cn k (v.take i):Int)+1))) (w.heap.size+1) 209 (cnA (v.take (i+1)))));have oG:=h_ (λ(h:¬cd c<4)=>(by rw[ax,Ziw _ c h];exact cS.o:Bk wr (w.heap.size+1) 209 (cnA (v.take (i+1)))));have mN:=h_ (λk (u:Value)=>Bk.off eO.o (p:=⟨w.heap.size+1,k,none⟩) (by simp) u);have jC:=h_ (λk (u:Value)=>hb.o.setCell (p:=⟨w.heap.size+1,k,none⟩) (by simp) u);have hle:=Znk c;obtain⟨CN,CD⟩:∃f:Nat->Nat,(λk=>cn k (v.take i))=f:=⟨_,rfl⟩;have sH:∀k,cn k (v.take i)=CN k:=λk=>congrFun CD k;simp only[sH] at av rn fo uf ug bN bY dF fl;clear bz dO ax hc CD sH;by_cases h4:cd c<4
   ·rw[if_pos h4] at mQ;clear oG;obtain⟨k,hk⟩:∃k,cd c=k:=⟨_,rfl⟩;rw[hk] at mQ h4;have iT:=h_ (av.o k hk h4);have EF:=h_ (λu=>mN.o k u);have a8:=h_ (λu=>jC.o k u);clear av mN jC hle hk;rcases(show k=0\/k=1\/k=2\/k=3 by omega) with rfl|rfl|rfl|rfl
    all_goals
     clear h4;go_wp2_with fail;refine(mQ.o).mono ?_;rintro x w1 ⟨rfl,rfl⟩;go_wp2;refine⟨⟨i+1,ab,by go_num,h_ (EF.o _),iT,h_ (a8.o _)⟩,?_⟩;simp[intOf]<;>omega
   ·rw[if_neg h4] at mQ;have iT:=h_ (oG.o h4);clear av oG mN jC h4 rn fo uf ug f0 f1 f2 f3 hle;go_wp2_with fail;refine(mQ.o).mono ?_;rintro x w1 ⟨rfl,rfl⟩;go_wp2;refine⟨⟨i+1,ab,by go_num,eO,iT,hb⟩,?_⟩;simp[intOf]<;>omega
  ·have aX:i=n:=(by omega);subst aX;have ax:v.take i=v:=List.take_of_length_le (by rw[Hn.o];exact Nat.le_refl _);have iU:=cS.o;rw[ax] at iU;have rn:=iU.cell 0;have fo:=iU.cell 1;have uf:=iU.cell 2;have ug:=iU.cell 3;have fE:=eO.o.frozen 0;have cA:=eO.o.frozen 1;have bQ:=eO.o.frozen 2;have eJ:=eO.o.frozen 3;have ml:=eO.o.cell 0;have aW:=eO.o.cell 1;have bj:=eO.o.cell 2;have dX:=eO.o.cell 3;unfold cnA at rn fo uf ug;simp only[List.getElem?_toArray,List.getElem?_cons_zero,List.getElem?_cons_succ] at rn fo uf ug ml aW bj dX;have oH:cnA v= #[.int .i64 (cn 0 v:Int),.int .i64 (cn 1 v:Int),.int .i64 (cn 2 v:Int),.int .i64 (cn 3 v:Int)]:=rfl;have CD:=h_ oH;clear oH;generalize cn 0 v=n0 at*;generalize cn 1 v=n1 at*;generalize cn 2 v=n2 at*;generalize cn 3 v=n3 at*;clear ax iU;have hF:=h_ ((((eO.o.put 0 (.int .i64 (n0:Int))).put 1 (.int .i64 (n1:Int))).put 2 (.int .i64 (n2:Int))).put 3 (.int .i64 (n3:Int)));have eo:=h_ ((((hb.o.setCell (p:=⟨w.heap.size,0,none⟩) (Nat.le_refl _) (.int .i64 (n0:Int))).setCell (p:=⟨w.heap.size,1,none⟩) (Nat.le_refl _) (.int .i64 (n1:Int))).setCell (p:=⟨w.heap.size,2,none⟩) (Nat.le_refl _) (.int .i64 (n2:Int))).setCell (p:=⟨w.heap.size,3,none⟩) (Nat.le_refl _) (.int .i64 (n3:Int)));go_wp2;have z0:=hF.o.cell 0;have z1:=hF.o.cell 1;have z2:=hF.o.cell 2;have z3:=hF.o.cell 3;simp at z0 z1 z2 z3;generalize ((((wr.setCell ⟨w.heap.size,0,none⟩ (.int .i64 (n0:Int))).setCell ⟨w.heap.size,1,none⟩ (.int .i64 (n1:Int))).setCell ⟨w.heap.size,2,none⟩ (.int .i64 (n2:Int))).setCell ⟨w.heap.size,3,none⟩ (.int .i64 (n3:Int)))=WF at*;refine bodyPost_ret (v:=.agg #[.int .i64 (n0:Int),.int .i64 (n1:Int),.int .i64 (n2:Int),.int .i64 (n3:Int)]) (by simp[results,Tryz.results162,go_sem,z0,z1,z2,z3];try rfl) rfl ?_;exact⟨by rw[CD.o],eo.o⟩
theorem Z2i (v:List UInt8):(bs v).toList.isEmpty=decide (v=[]):=by
 have h:(bs v).toList.isEmpty=((bs v).toList==(bs []).toList):=by
  have:(bs ([]:List UInt8)).toList=[]:=(by decide+kernel);rw[this];cases (bs v).toList<;>rfl
 rw[h,Bool.eq_iff_iff,beq_iff_eq,decide_eq_true_iff,ByteArray.toList_eq,ByteArray.toList_eq];exact Iff.rfl
theorem ZnH {v:List UInt8} (h0:v≠[]) (h1:v.length<=128):isV v=decide ((cn 0 v:Int)+(cn 1 v:Int)+(cn 2 v:Int)+(cn 3 v:Int)=(v.length:Int)):=by
 rw[Bool.eq_iff_iff,Z0t,decide_eq_true_iff];obtain⟨_,s2,_,_⟩:=Zfa v;constructor
 ·rintro⟨h,_,_⟩;have:=s2.2 h;omega
 ·intro h;exact⟨s2.1 (by omega),h0,h1⟩
theorem ZnI {v:List UInt8} (h:isV v=true):knV v=decide ((cn 2 v:Int)+(cn 3 v:Int)=0):=by
 obtain⟨a,b,c⟩:=Z0t.1 h;rw[Bool.eq_iff_iff,Z1o,decide_eq_true_iff];obtain⟨_,_,_,s4⟩:=Zfa v;constructor
 ·rintro⟨h,_,_⟩;have:=(s4 a).2 h;omega
 ·intro h;exact⟨(s4 a).1 (by omega),b,c⟩
theorem Z5G (v : List UInt8) (hv : v.length <= 1099511627776) (w : World) :
    Calls Tryz.prog 119 #[.string (bs v)] w λx w'=>x=.returned (.bool (isV v))/\Below w.heap.size w w':=by
  have cJ:=Z2i v;have ad:(bs v).size=v.length:=Z00 v;by_cases h0:v=[]
  · have hi : isV v = false := by cases h : isV v with
      |false=>rfl
      |true=>exact absurd h0 (Z0t.1 h).2.1
    rw[decide_eq_true h0] at cJ;rw[hi];clear ad hi h0;generalize bs v=S at*;go_enter Tryz.func119,Tryz.ntmps119;go_wp2;go_returns;exact⟨rfl,Below.refl _ _⟩
  · rw[decide_eq_false h0] at cJ
    by_cases h1:128<v.length
    · have hi : isV v = false := by cases h : isV v with
        |false=>rfl
        |true=>have:=(Z0t.1 h).2.2;omega
      rw[hi];have h2:(128:Int)<((bs v).size:Int):=(by omega);clear ad hi h0 h1;generalize bs v=S at*;go_enter Tryz.func119,Tryz.ntmps119;go_wp2;go_returns;exact⟨rfl,Below.refl _ _⟩
    · have hi:=ZnH h0 (by omega)
      have Hc:=h_ (Z5F v hv w);have oH:cnA v= #[.int .i64 (cn 0 v:Int),.int .i64 (cn 1 v:Int),.int .i64 (cn 2 v:Int),.int .i64 (cn 3 v:Int)]:=rfl;rw[oH] at Hc;have c0:=Z6k 0 v;have c1:=Z6k 1 v;have c2:=Z6k 2 v;have c3:=Z6k 3 v;have yq:Hid ((bs v).size=v.length):=h_ ad;have h2:¬(128:Int)<((bs v).size:Int):=(by omega);have Hi:=h_ hi;have kl:v.length<=128:=(by omega);obtain⟨n,hn⟩:∃n,v.length=n:=⟨_,rfl⟩;rw[hn] at Hi yq c0 c1 c2 c3 kl;generalize cn 0 v=n0 at*;generalize cn 1 v=n1 at*;generalize cn 2 v=n2 at*;generalize cn 3 v=n3 at*;generalize bs v=S at*;clear oH ad hi h0 h1 hn hv;go_enter Tryz.func119,Tryz.ntmps119;go_wp2_with fail;refine(Hc.o).mono ?_;rintro x w1 ⟨rfl,a7⟩;have an:=h_ (a7.alloc a7.size (.cells #[.int .i64 (n0:Int),.int .i64 (n1:Int),.int .i64 (n2:Int),.int .i64 (n3:Int)] 209));clear a7 Hc;go_wp2;go_returns;rw[yq.o,Hi.o];exact⟨by first|rfl|(congr 2;rw[Bool.eq_iff_iff];simp),an.o⟩
theorem Zbr (v:List UInt8) (hv:v.length<=1099511627776) (w:World):
  Calls Tryz.prog 245 #[.string (bs v)] w λx w'=>x=.returned (.bool (knV v))/\Below w.heap.size w w':=by
 have Hc:=h_ (Z5F v hv w);have oH:cnA v= #[.int .i64 (cn 0 v:Int),.int .i64 (cn 1 v:Int),.int .i64 (cn 2 v:Int),.int .i64 (cn 3 v:Int)]:=rfl;rw[oH] at Hc;have Hi:=h_ (λW=>Z5G v hv W);have c2:=Z6k 2 v;have c3:=Z6k 3 v;cases h:isV v with
 |false=>
  have hk:knV v=false:=by cases hk:knV v with
   |false=>rfl
   |true=>rw[Z7n hk] at h;cases h
  rw[h] at Hi;rw[hk];generalize cn 0 v=n0 at*;generalize cn 1 v=n1 at*;generalize cn 2 v=n2 at*;generalize cn 3 v=n3 at*;generalize bs v=S at*;clear oH h hk;go_enter Tryz.func245,Tryz.ntmps245;go_wp2_with fail;refine(Hc.o).mono ?_;rintro x w1 ⟨rfl,a7⟩;have an:=h_ (a7.alloc a7.size (.cells #[.int .i64 (n0:Int),.int .i64 (n1:Int),.int .i64 (n2:Int),.int .i64 (n3:Int)] 209));clear a7 Hc;go_wp2_with fail;refine(Hi.o _).mono ?_;rintro x w2 ⟨rfl,a8⟩;have al:=h_ (an.o.trans (a8.mono an.o.size));clear a8;go_wp2;go_returns;exact⟨rfl,al.o⟩
 |true=>
  have hk:=ZnI h;have kl:=(Z0t.1 h).2.2;rw[h] at Hi;rw[hk];have TW:cn 2 v<=128:=(by omega);have TX:cn 3 v<=128:=(by omega);generalize cn 0 v=n0 at*;generalize cn 1 v=n1 at*;generalize cn 2 v=n2 at*;generalize cn 3 v=n3 at*;generalize bs v=S at*;clear oH h hk c2 c3 kl;go_enter Tryz.func245,Tryz.ntmps245;go_wp2_with fail;refine(Hc.o).mono ?_;rintro x w1 ⟨rfl,a7⟩;have fP:=h_ (Bk.new w1 209 #[.int .i64 (n0:Int),.int .i64 (n1:Int),.int .i64 (n2:Int),.int .i64 (n3:Int)]);have an:=h_ (a7.alloc a7.size (.cells #[.int .i64 (n0:Int),.int .i64 (n1:Int),.int .i64 (n2:Int),.int .i64 (n3:Int)] 209));clear a7 Hc;go_wp2_with fail;refine(Hi.o _).mono ?_;rintro x w2 ⟨rfl,a8⟩;have cE:=Bk.below fP.o a8 (by simp);have k2:=cE.cell 2;have k3:=cE.cell 3;simp only[List.getElem?_toArray,List.getElem?_cons_zero,List.getElem?_cons_succ] at k2 k3;have al:=h_ (an.o.trans (a8.mono an.o.size));clear a8 cE fP an;go_wp2;go_returns;exact⟨by first|rfl|(congr 2;rw[Bool.eq_iff_iff];simp),al.o⟩
theorem Z9Z (wd:Int) (v:List UInt8) (hv:v.length<=1099511627776) (w:World):
  Calls Tryz.prog 75 #[.int .i64 wd,.string (bs v)] w λx w'=>x=.returned (.bool (vld wd v))/\Below w.heap.size w w':=by
 have Hi:=h_ (Z5G v hv w);have ad:(bs v).size=v.length:=Z00 v;have cH:=h_ ad;unfold vld;generalize isV v=b at*;generalize bs v=S at*;clear ad;cases b with
 |false=>
  go_enter Tryz.func75,Tryz.ntmps75;go_wp2_with fail;refine(Hi.o).mono ?_;rintro x w1 ⟨rfl,a7⟩;go_wp2;go_returns;exact⟨rfl,a7⟩
 |true=>
  go_enter Tryz.func75,Tryz.ntmps75;go_wp2_with fail;refine(Hi.o).mono ?_;rintro x w1 ⟨rfl,a7⟩;go_wp2;go_returns;rw[cH.o];exact⟨by first|rfl|(congr 2;rw[Bool.eq_iff_iff];simp),a7⟩
end Go.Proofs.YtchokmkfobandaaGreatDoor
namespace Wv
open Go Go.RowKit
def ByR (w:World) (g:Nat) (e:TypeId) (R:List UInt8):Prop:=∃cs fz sp,w.heap[g]? =some (.cells cs e fz)/\cs.toList=R.map bv++sp/\R.length<=fz.1
theorem ByR.lt {w:World} {g:Nat} {e:TypeId} {R:List UInt8} (h:ByR w g e R):g<w.heap.size:=by
 obtain⟨cs,fz,sp,h1,_,_⟩:=h;exact(Array.getElem?_eq_some_iff.1 h1).1
theorem ByR.cell {w:World} {g:Nat} {e:TypeId} {R:List UInt8} (h:ByR w g e R) (i:Nat) (hi:i<R.length):w.cell? ⟨g,i,none⟩=some (bv R[i])/\w.frozen? ⟨g,i,none⟩=false:=by
 obtain⟨cs,fz,sp,h1,h2,h3⟩:=h;constructor
 ·simp only[World.cell?,h1];rw[<-Array.getElem?_toList,h2,List.getElem?_append_left (by rw[List.length_map];exact hi),List.getElem?_map,List.getElem?_eq_getElem hi];rfl
 ·simp only[World.frozen?,h1];simp;omega
theorem ByR.put {w:World} {g:Nat} {e:TypeId} {R:List UInt8} (h:ByR w g e R) (i:Nat) (hi:i<R.length) (x:UInt8):ByR (w.setCell ⟨g,i,none⟩ (bv x)) g e (R.set i x):=by
 obtain⟨cs,fz,sp,h1,h2,h3⟩:=h;refine⟨cs.setIfInBounds i (bv x),fz,sp,?_,?_,by rw[List.length_set];exact h3⟩
 ·simp[World.setCell,Array.getElem?_modify,h1]
 ·rw[Array.toList_setIfInBounds,h2,List.set_append_left _ _ (by rw[List.length_map];exact hi),List.map_set]
theorem ByR.below {w w':World} {B g:Nat} {e:TypeId} {R:List UInt8} (h:ByR w g e R) (hb:Below B w w') (hg:g<B):ByR w' g e R:=by
 obtain⟨cs,fz,sp,h1,h2,h3⟩:=h;exact⟨cs,fz,sp,(hb.block g hg).trans h1,h2,h3⟩
theorem ByR.new (w:World) (e:TypeId) (s:ByteArray) (cap:Nat) (z:Nat×Nat) (hz:s.size<=z.1):ByR (w.alloc (.cells (bytesRow s cap) e z)) w.heap.size e s.data.toList:=by
 refine⟨bytesRow s cap,z,(Array.replicate (cap-s.size) (.int .u8 0)).toList,?_,?_,by rw[Array.length_toList];exact hz⟩
 ·show(w.heap.push _)[w.heap.size]? =_;simp
 ·unfold bytesRow;rw[Array.toList_append,Array.toList_map];rfl
end Wv
namespace Go.Proofs.YtchokmkfobandaaGreatDoor
open Go.RowKit Go.Proofs Wv Wv.Vi Wv.Bc
theorem Zlt (v:List UInt8) (h:isV v=true):inv v=v.map invC:=by
 unfold inv;apply List.map_congr_left;intro c hc;have:=(Z0t.1 h).1 c hc;unfold invC cdK;rw[if_pos this]
theorem Zix (v:List UInt8) (hv:v.length<=1099511627776) (w:World):
  Calls Tryz.prog 296 #[.string (bs v),.func (.func 297) #[] #[]] w λx w'=>x=.returned (.string (bs (v.map invC)))/\Below w.heap.size w w':=by
 have ew:=run_bytes_of_string (P:=Tryz.prog) w 9 115 5 (bs v) Tryz.underlying9 Tryz.underlying115 Tryz.underlying5;have ad:(bs v).size=v.length:=Z00 v;have dd:=ByR.new w.drew 5 (bs v) (grownCap w (bs v).size 0 5) ((bytesRow (bs v) (grownCap w (bs v).size 0 5)).size,(bytesRow (bs v) (grownCap w (bs v).size 0 5)).size+1) (by unfold bytesRow;simp);have aA:=h_ (((Below.refl w.heap.size w).drew).alloc (Nat.le_refl _) (.cells (bytesRow (bs v) (grownCap w (bs v).size 0 5)) 5 ((bytesRow (bs v) (grownCap w (bs v).size 0 5)).size,(bytesRow (bs v) (grownCap w (bs v).size 0 5)).size+1)));have fQ:(bs v).data.toList=v:=rfl;rw[fQ] at dd;have EG:=h_ (show ByR _ w.heap.size 5 v from dd);have mR:=h_ (λc W=>Z9Y c W);obtain⟨n,hn⟩:∃n,v.length=n:=⟨_,rfl⟩;obtain⟨cap,fB⟩:∃c,grownCap w (bs v).size 0 5=c:=⟨_,rfl⟩;rw[fB] at ew aA EG
 have od:n<=cap:=by
  have:=grownCap_ge w (bs v).size 0 5;rw[fB] at this;omega
 generalize w.drew.alloc (.cells (bytesRow (bs v) cap) 5 ((bytesRow (bs v) cap).size,(bytesRow (bs v) cap).size+1))=W0 at*;rw[ad,hn] at ew;rw[hn] at hv;have Hn:=h_ hn;obtain⟨S,hS⟩:∃S,bs v=S:=⟨_,rfl⟩;rw[hS] at ew⊢;clear ad dd fQ fB hn hS;go_enter Tryz.func296,Tryz.ntmps296;go_wp2;go_loopw [12] (λjD wr=>∃i:Nat,i<=n/\jD=.int .i64 (i:Int)/\Hid (ByR wr w.heap.size 5 ((v.take i).map invC++v.drop i))/\Hid (Below w.heap.size w wr)) (λjD _=>(n-intOf jD).toNat);case atStart=>exact⟨0,Nat.zero_le _,rfl,EG,aA⟩
 case round=>
  clear EG aA ew;obtain⟨i,hi,rfl,dd,hb⟩:=hrel;by_cases ab:i<n
  ·have bz:i<v.length:=(by rw[Hn.o];exact ab);have ax:v.take (i+1)=v.take i++[v[i]]:=List.take_succ_eq_append_getElem bz;have jE:v.drop i=v[i]::v.drop (i+1):=List.drop_eq_getElem_cons bz;have eN:((v.take i).map invC).length=i:=(by rw[List.length_map,List.length_take];omega);obtain⟨c,hc⟩:∃c,v[i]=c:=⟨_,rfl⟩;rw[hc] at ax jE;have uh:i<((v.take i).map invC++v.drop i).length:=(by rw[List.length_append,eN,List.length_drop];omega);obtain⟨h1,h2⟩:=dd.o.cell i uh
   have CE:((v.take i).map invC++v.drop i)[i]=c:=by
    rw[List.getElem_append_right (by omega)];simp only[eN,Nat.sub_self];rw[List.getElem_drop];simpa using hc
   rw[CE] at h1;have KH:wr.cell? ⟨w.heap.size,i,none⟩=some (.int .u8 (c.toNat:Int)):=h1;have aj:=dd.o.put i uh (invC c)
   have du:((v.take i).map invC++v.drop i).set i (invC c)=(v.take (i+1)).map invC++v.drop (i+1):=by
    rw[List.set_append_right _ _ (by omega),eN,Nat.sub_self,jE,List.set_cons_zero,ax,List.map_append];simp
   rw[du] at aj;have av:=h_ aj;have Hi:=h_ (mR.o c wr);have jC:=h_ (hb.o.setCell (p:=⟨w.heap.size,i,none⟩) (Nat.le_refl _) (bv (invC c)));have di:(i:Int)<(n:Int):=(by omega);have sP:(0:Int)<=(i:Int):=(by omega);clear bz ax jE eN hc uh h1 CE aj du dd hb;unfold bv at av jC;go_wp2_with fail;refine(Hi.o).mono ?_;rintro x w1 ⟨rfl,rfl⟩;go_wp2;refine⟨⟨i+1,ab,by go_num,av,jC⟩,?_⟩;simp[intOf]<;>omega
  ·have aX:i=n:=(by omega);subst aX;have ax:v.take i=v:=List.take_of_length_le (by rw[Hn.o];exact Nat.le_refl _);have jE:v.drop i=[]:=List.drop_eq_nil_of_le (by rw[Hn.o];exact Nat.le_refl _);have ui:=dd.o;rw[ax,jE,List.append_nil] at ui;have eN:(v.map invC).length=i:=(by rw[List.length_map,Hn.o])
   have iV:=run_convert_bytes_back (P:=Tryz.prog) wr 115 9 5 ⟨w.heap.size,0,none⟩ cap (v.map invC) Tryz.underlying115 Tryz.underlying5 Tryz.underlying9 (λj hj=>by
    have:=(ui.cell j hj).1;rw[Go.WideShapes.add_plain,Nat.zero_add];exact this)
   rw[eN] at iV;have ic:(⟨(v.map invC).toArray⟩:ByteArray)=bs (v.map invC):=rfl;rw[ic] at iV;obtain⟨SR,oJ⟩:∃s,bs (v.map invC)=s:=⟨_,rfl⟩;rw[oJ] at iV;have yr:=h_ oJ;clear ax jE ui eN dd ic oJ;go_wp2;go_returns;exact⟨by rw[yr.o];rfl,hb.o⟩
theorem Ziy (v:List UInt8) (hv:v.length<=1099511627776) (w:World):
  Calls Tryz.prog 248 #[.string (bs v)] w λx w'=>x=.returned (.string (bs (if isV v=true then inv v else[])))/\Below w.heap.size w w':=by
 have Hi:=h_ (Z5G v hv w);have He:=h_ (λW=>Zix v hv W);cases h:isV v with
 |false=>
  rw[h] at Hi;rw[if_neg (by simp)];generalize bs v=S at*;go_enter Tryz.func248,Tryz.ntmps248;go_wp2_with fail;refine(Hi.o).mono ?_;rintro x w1 ⟨rfl,a7⟩;go_wp2;go_returns;exact⟨rfl,a7⟩
 |true=>
  rw[h] at Hi;rw[if_pos rfl,Zlt v h];generalize bs (v.map invC)=SR at*;generalize bs v=S at*;go_enter Tryz.func248,Tryz.ntmps248;go_wp2_with fail;refine(Hi.o).mono ?_;rintro x w1 ⟨rfl,a7⟩;go_wp2_with fail;refine(He.o _).mono ?_;rintro x w2 ⟨rfl,a8⟩;have hb:=a7.trans (a8.mono a7.size);go_wp2;go_returns;exact⟨rfl,hb⟩
theorem Z0y (w:World) (o:Obj):Below w.heap.size w (w.alloc o):=(Below.refl w.heap.size w).alloc (Nat.le_refl _) o
theorem ZcB (w:World) (g n:Nat) (hn:n<=128):(Instr.sliceAt 333 (.pointer (some ⟨g,0,none⟩)) none (some (.int .i64 (n:Int))) none).run Tryz.prog w=.ok (.slice (some ⟨g,0,none⟩) n 128) w:=by
 have h1:Tryz.prog.arrayLen 333=128:=(by kernel_rfl);have h2:Tryz.prog.underlying 333=some (.array (Tryz.prog.arrayLen 333) (Tryz.prog.elem 333)):=(by kernel_rfl);have h3:∀w,(sizeOf (Tryz.prog.elem 333)).run Tryz.prog w=.ok 1 w:=λw=>(by kernel_rfl);rw[run_sliceAt_array_h w _ ⟨g,0,none⟩ h2 .i64 (n:Int) (by omega) (by rw[h1];omega),h3,h1];unfold slicedAt;simp[Result.andThen,Addr.add]
theorem cd2 {c:UInt8} (h:cd c<2):c.toNat=48+cd c:=by
 rcases Z56 c with ⟨rfl,h1⟩|⟨rfl,h1⟩|⟨_,h1⟩|⟨_,h1⟩|⟨_,_,_,_,h1⟩
 ·rfl
 ·rfl
 all_goals omega
theorem Zlu {a b:List UInt8} {k:Nat} (c:Nat) (ha:k<a.length) (hb:k<b.length):sm (a.drop k) (b.drop k) c=(UInt8.ofNat (48+(cd a[k]+cd b[k]+(sm (a.drop (k+1)) (b.drop (k+1)) c).2) % 2)::(sm (a.drop (k+1)) (b.drop (k+1)) c).1,(cd a[k]+cd b[k]+(sm (a.drop (k+1)) (b.drop (k+1)) c).2)/2):=by
 rw[List.drop_eq_getElem_cons ha,List.drop_eq_getElem_cons hb];rfl
theorem Zbs (c:Nat) (hc:c<=1):∀(a b:List UInt8),(∀x∈a,cd x<2)->(∀x∈b,cd x<2)->(sm a b c).2<=1
 |[],_,_,_=>by simpa [sm] using hc
 |_::_,[],_,_=>by simpa [sm] using hc
 |x::a,y::b,h1,h2=>by
  have h3:=Zbs c hc a b (λz hz=>h1 z (List.mem_cons_of_mem _ hz)) (λz hz=>h2 z (List.mem_cons_of_mem _ hz));have h4:=h1 x List.mem_cons_self;have h5:=h2 y List.mem_cons_self;show(cd x+cd y+(sm a b c).2)/2<=1;omega
def smA (n k:Nat) (ds:List UInt8):Array Value:=((List.replicate k 0++ds++List.replicate (128-n) 0).map bv).toArray
theorem Zfb (a b:List UInt8) (c:Nat) (hc:c<=1) (ha:knV a=true) (hb:knV b=true) (hl:a.length=b.length) (w:World):
  Calls Tryz.prog 246 #[.string (bs a),.string (bs b),.int .u8 (c:Int)] w λx w'=>x=.returned (.string (bs (sm a b c).1))/\Below w.heap.size w w':=by
 obtain⟨a1,a2,a3⟩:=Z1o.1 ha;obtain⟨b1,b2,b3⟩:=Z1o.1 hb;have dG:(bs a).size=a.length:=Z00 a;have fq:(bs b).size=b.length:=Z00 b;have mn:Hid (∀(i:Nat) (h:i<a.length) (h2:i<(bs a).size),(bs a)[i]'h2=a[i]'h):=h_ (λi h h2=>Z48 a i h h2);have om:Hid (∀(i:Nat) (h:i<b.length) (h2:i<(bs b).size),(bs b)[i]'h2=b[i]'h):=h_ (λi h h2=>Z48 b i h h2);obtain⟨n,hn⟩:∃n,a.length=n:=⟨_,rfl⟩;have rp:b.length=n:=(by omega);rw[hn] at dG a3;rw[rp] at fq;have bU:=h_ (Bk.new w 333 (Array.replicate 128 (.int .u8 0)));have aA:=h_ (Z0y w (.cells (Array.replicate 128 (.int .u8 0)) 333))
 have ez:Array.replicate 128 (.int .u8 0:Value)=smA n n (sm (a.drop n) (b.drop n) c).1:=by
  have e1:a.drop n=[]:=List.drop_eq_nil_of_le (by omega);rw[e1];show _=((List.replicate n (0:UInt8)++[]++List.replicate (128-n) (0:UInt8)).map bv).toArray;rw[List.append_nil,List.replicate_append_replicate,show n+(128-n)=128 by omega,List.map_replicate];rfl
 have aR:=h_ ez
 have bN:(sm (a.drop n) (b.drop n) c).2=c:=by
  have e1:a.drop n=[]:=List.drop_eq_nil_of_le (by omega);rw[e1];rfl
 have iK:=h_ bN;have uj:=h_ (λk=>Zbs c hc (a.drop k) (b.drop k) (λx hx=>a1 x (List.mem_of_mem_drop hx)) (λx hx=>b1 x (List.mem_of_mem_drop hx)));have uk:=h_ (λk (h1:k<a.length) (h2:k<b.length)=>Zlu c h1 h2);have qC:=h_ a1;have an:=h_ b1;have Hn:=h_ hn;have EH:=h_ rp;have yt:(sm a b c).1.length=n:=(by rw[Zbc a b c hl,hn]);have yu:=h_ yt;obtain⟨SA,yv⟩:∃s,bs a=s:=⟨_,rfl⟩;obtain⟨SB,rq⟩:∃s,bs b=s:=⟨_,rfl⟩;rw[yv] at dG mn⊢;rw[rq] at fq om⊢;have x9:=h_ dG;have EI:=h_ fq;clear ez bN a1 b1 hn rp yv rq dG fq ha hb hl a2 b2 b3 yt;have KJ:SA.size<=128:=(by rw[x9.o];exact a3);go_enter Tryz.func246,Tryz.ntmps246;go_wp2;rw[x9.o];go_loopw [2,8] (λs2 s8 wr=>∃k:Nat,k<=n/\s8=.int .i64 ((k:Int)-1)/\s2=.int .u8 (((sm (a.drop k) (b.drop k) c).2:Nat):Int)/\Hid (Bk wr w.heap.size 333 (smA n k (sm (a.drop k) (b.drop k) c).1))/\Hid (Below w.heap.size w wr)) (λ_ s8 _=>(intOf s8+1).toNat);case atStart=>exact⟨n,Nat.le_refl _,rfl,by rw[iK.o],h_ (by rw[<-aR.o];exact bU.o),aA⟩
 case round=>
  clear bU aA aR iK;obtain⟨k,hk,rfl,rfl,aC,hb⟩:=hrel;cases k with
  |succ i=>
   have sQ:i<a.length:=(by rw[Hn.o];omega);have qD:i<b.length:=(by rw[EH.o];omega);have KK:i<SA.size:=(by rw[x9.o];omega);have CF:i<SB.size:=(by rw[EI.o];omega);have hs:=uk.o i sQ qD;have sI:=uj.o (i+1);have rr:=qC.o a[i] (List.getElem_mem _);have iS:=an.o b[i] (List.getElem_mem _);have mS:=mn.o i sQ;have iJ:=om.o i qD;obtain⟨x,hx⟩:∃x,a[i]=x:=⟨_,rfl⟩;obtain⟨y,hy⟩:∃y,b[i]=y:=⟨_,rfl⟩;rw[hx,hy] at hs;rw[hx] at rr mS;rw[hy] at iS iJ;obtain⟨⟨ds,cr⟩,hr⟩:∃r,sm (a.drop (i+1)) (b.drop (i+1)) c=r:=⟨_,rfl⟩;rw[hr] at hs sI aC;simp only at hs sI aC;have yw:∀h:i<SA.size,(SA[i]'h).toNat=48+cd x:=λh=>(by rw[mS h,cd2 rr]);have yx:∀h:i<SB.size,(SB[i]'h).toNat=48+cd y:=λh=>(by rw[iJ h,cd2 iS]);obtain⟨p,hp⟩:∃p,cd x=p:=⟨_,rfl⟩;obtain⟨q,hq⟩:∃q,cd y=q:=⟨_,rfl⟩;rw[hp] at hs rr yw;rw[hq] at hs iS yx;have e1:((i+1:Nat):Int)-1=(i:Int):=(by omega);rw[e1,hr];have ji:(0:Int)<=(i:Int):=(by omega);have aX:(i:Int)<(n:Int):=(by omega);have KL:(i:Int)<128:=(by omega);have EJ:i<128:=(by omega);have hcell:=aC.o.cell i;have eU:=aC.o.frozen i;have aj:=λu=>aC.o.put i u
   have du:∀d:UInt8,(smA n (i+1) ds).setIfInBounds i (bv d)=smA n i (d::ds):=λd=>by
    unfold smA;rw[List.setIfInBounds_toArray,<-List.map_set];congr 2;rw[List.replicate_succ',List.append_assoc,List.append_assoc,List.set_append_right _ _ (by rw[List.length_replicate];exact Nat.le_refl _),List.length_replicate,Nat.sub_self];simp
   have dF:(smA n (i+1) ds)[i]? =some (.int .u8 0):=by
    unfold smA;rw[List.getElem?_toArray,List.getElem?_map,List.append_assoc,List.getElem?_append_left (by rw[List.length_replicate];omega),List.getElem?_replicate,if_pos (by omega)];rfl
   rw[dF] at hcell;have av:=h_ (λd:UInt8=>(by rw[<-du d];exact aj (bv d):Bk (wr.setCell ⟨w.heap.size,i,none⟩ (bv d)) w.heap.size 333 (smA n i (d::ds))));have jC:=h_ (λu:Value=>hb.o.setCell (p:=⟨w.heap.size,i,none⟩) (Nat.le_refl _) u);unfold bv at av;obtain⟨mm,jw⟩:∃m,p+q+cr=m:=⟨_,rfl⟩;rw[jw] at hs;have xa:((UInt8.ofNat (48+mm % 2)).toNat:Int)=((48+mm % 2:Nat):Int):=(by simp;omega)
   have sR:=h_ (show Bk (wr.setCell ⟨w.heap.size,i,none⟩ (.int .u8 ((48+mm % 2:Nat):Int))) w.heap.size 333 (smA n i (sm (a.drop i) (b.drop i) c).1) by
    have:=av.o (UInt8.ofNat (48+mm % 2));rw[xa] at this;rw[hs];exact this)
   have EK:=h_ (show(((sm (a.drop i) (b.drop i) c).2:Nat):Int)=((mm/2:Nat):Int) by rw[hs]);have b0:Go.bits .and .u8 0 1=0:=(by decide);have b1:Go.bits .and .u8 1 1=1:=(by decide);have b2:Go.bits .and .u8 2 1=0:=(by decide);have b3:Go.bits .and .u8 3 1=1:=(by decide);clear av xa;clear sQ qD hs mS iJ hx hy hr hp hq e1 aj du dF aC hb uk uj qC an mn om;have Ps:(p=0\/p=1)/\(q=0\/q=1)/\(cr=0\/cr=1):=(by omega);obtain⟨h1,h2,h3⟩:=Ps;clear sI rr iS;rcases h1 with rfl|rfl<;>rcases h2 with rfl|rfl<;>rcases h3 with rfl|rfl
   all_goals
    go_wp2;go_quiet (fail);have oK:(wr.drewN nq).cell? ⟨w.heap.size,i,none⟩=some (.int .u8 0):=hcell;have EL:(wr.drewN nq).frozen? ⟨w.heap.size,i,none⟩=false:=eU;have yy:Hid (Bk ((wr.drewN nq).setCell ⟨w.heap.size,i,none⟩ (.int .u8 ((48+mm % 2:Nat):Int))) w.heap.size 333 (smA n i (sm (a.drop i) (b.drop i) c).1)):=h_ sR.o;have EM:Hid (∀u:Value,Below w.heap.size w ((wr.drewN nq).setCell ⟨w.heap.size,i,none⟩ u)):=h_ (λu=>bdN (jC.o u) nq);clear hcell eU sR jC;generalize wr.drewN nq=W at*;subst jw;go_wp2;refine⟨⟨i,by omega,by go_num,by rw[EK.o];rfl,h_ (by exact yy.o),h_ (EM.o _)⟩,?_⟩;simp[intOf]<;>omega
  |zero=>
   have e1:((0:Nat):Int)-1= -1:=rfl;rw[e1];simp only[List.drop_zero] at aC⊢;have hsl:=yu.o
   have hcs:∀j (hj:j<(sm a b c).1.length),wr.cell? ⟨w.heap.size,0+j,none⟩=some (.int .u8 (((sm a b c).1[j]).toNat:Int)):=λj hj=>by
    rw[Nat.zero_add,aC.o.cell j];unfold smA;rw[List.getElem?_toArray,List.getElem?_map,List.replicate_zero,List.nil_append,List.getElem?_append_left hj,List.getElem?_eq_getElem hj];rfl
   have iV:=run_convert_bytes_back (P:=Tryz.prog) wr 115 9 5 ⟨w.heap.size,0,none⟩ 128 (sm a b c).1 Tryz.underlying115 Tryz.underlying5 Tryz.underlying9 (λj hj=>by
    rw[Go.WideShapes.add_plain];exact hcs j hj)
   rw[hsl] at iV;have ic:(⟨((sm a b c).1).toArray⟩:ByteArray)=bs (sm a b c).1:=rfl;rw[ic] at iV;obtain⟨SR,oJ⟩:∃s,bs (sm a b c).1=s:=⟨_,rfl⟩;rw[oJ] at iV;have yr:=h_ oJ;have mo:(0:Int)<=(n:Int):=(by omega);have fF:(n:Int)<=128:=(by omega);generalize (sm a b c).2=c2 at*;clear hsl hcs ic oJ aC uk uj qC an mn om yu e1;have Pt:=ZcB wr w.heap.size n (by omega);have Pu:(SA.size:Int)=(n:Int):=(by rw[x9.o]);go_wp2;go_returns;exact⟨by rw[yr.o];rfl,hb.o⟩
theorem Ziz (a b:List UInt8) (ha:a.length<=1099511627776) (hb:b.length<=1099511627776) (w:World):
  Calls Tryz.prog 207 #[.string (bs a),.string (bs b)] w λx w'=>x=.returned (.tuple #[.string (bs (addV a b).1),.bool (addV a b).2])/\Below w.heap.size w w':=by
 have Ha:=h_ (Zbr a ha w);have Hb:=h_ (λW=>Zbr b hb W);have dG:(bs a).size=a.length:=Z00 a;have fq:(bs b).size=b.length:=Z00 b;have he:bs ([]:List UInt8)=⟨#[]⟩:=rfl;unfold addV;cases eO:knV a with
 |false=>
  rw[eO] at Ha;rw[if_neg (by simp)];simp only[he];clear dG fq he;generalize bs a=SA at*;generalize bs b=SB at*;go_enter Tryz.func207,Tryz.ntmps207;go_wp2_with fail;refine(Ha.o).mono ?_;rintro x w1 ⟨rfl,a7⟩;go_wp2;go_returns;exact⟨rfl,a7⟩
 |true=>
  cases cS:knV b with
  |false=>
   rw[eO] at Ha;rw[cS] at Hb;rw[if_neg (by simp)];simp only[he];clear dG fq he;generalize bs a=SA at*;generalize bs b=SB at*;go_enter Tryz.func207,Tryz.ntmps207;go_wp2_with fail;refine(Ha.o).mono ?_;rintro x w1 ⟨rfl,a7⟩;go_wp2_with fail;refine(Hb.o _).mono ?_;rintro x w2 ⟨rfl,a8⟩;have aQ:=a7.trans (a8.mono a7.size);go_wp2;go_returns;exact⟨rfl,aQ⟩
  |true=>
   rw[eO] at Ha;rw[cS] at Hb;by_cases hl:a.length=b.length
   ·have Hs:=h_ (λW=>Zfb a b 0 (by omega) eO cS hl W);rw[if_pos ⟨rfl,rfl,hl⟩];have ay:(((bs a).size:Int) !=((bs b).size:Int))=false:=(by rw[dG,fq,hl];exact bne_self_eq_false _);have Pv:=Hs;simp only;generalize bs (sm a b 0).1=SR at*;clear dG fq he eO cS hl Pv;generalize bs a=SA at*;generalize bs b=SB at*;go_enter Tryz.func207,Tryz.ntmps207;go_wp2_with fail;refine(Ha.o).mono ?_;rintro x w1 ⟨rfl,a7⟩;go_wp2_with fail;refine(Hb.o _).mono ?_;rintro x w2 ⟨rfl,a8⟩;have aQ:=a7.trans (a8.mono a7.size);clear a7 a8;go_wp2_with fail;refine(Hs.o _).mono ?_;rintro x w3 ⟨rfl,ae⟩;have nO:=aQ.trans (ae.mono aQ.size);clear aQ ae;go_wp2;go_returns;exact⟨rfl,nO⟩
   ·rw[if_neg (λh=>hl h.2.2)];have ay:(((bs a).size:Int) !=((bs b).size:Int))=true:=(by rw[dG,fq,bne_iff_ne];omega);simp only[he];clear dG fq he eO cS hl;generalize bs a=SA at*;generalize bs b=SB at*;go_enter Tryz.func207,Tryz.ntmps207;go_wp2_with fail;refine(Ha.o).mono ?_;rintro x w1 ⟨rfl,a7⟩;go_wp2_with fail;refine(Hb.o _).mono ?_;rintro x w2 ⟨rfl,a8⟩;have aQ:=a7.trans (a8.mono a7.size);go_wp2;go_returns;exact⟨rfl,aQ⟩
theorem Zfc {v:List UInt8} (h:knV v=true):knV (inv v)=true/\(inv v).length=v.length:=by
 obtain⟨a1,a2,a3⟩:=Z1o.1 h;have hl:(inv v).length=v.length:=(by unfold inv;rw[List.length_map]);refine⟨Z1o.2 ⟨λc hc=> ?_,λe=> ?_,by omega⟩,hl⟩
 ·unfold inv at hc;obtain⟨d,hd,rfl⟩:=List.mem_map.1 hc;have:=a1 d hd;rw[if_pos this,Zlc _ (by omega)];omega
 ·rw[e] at hl;exact a2 (List.eq_nil_of_length_eq_zero hl.symm)
theorem ZiA (a b:List UInt8) (ha:a.length<=1099511627776) (hb:b.length<=1099511627776) (w:World):
  Calls Tryz.prog 210 #[.string (bs a),.string (bs b)] w λx w'=>x=.returned (.tuple #[.string (bs (difV a b).1),.bool (difV a b).2])/\Below w.heap.size w w':=by
 have Ha:=h_ (Zbr a ha w);have Hb:=h_ (λW=>Zbr b hb W);have dG:(bs a).size=a.length:=Z00 a;have fq:(bs b).size=b.length:=Z00 b;have he:bs ([]:List UInt8)=⟨#[]⟩:=rfl;unfold difV;cases eO:knV a with
 |false=>
  rw[eO] at Ha;rw[if_neg (by simp)];simp only[he];clear dG fq he;generalize bs a=SA at*;generalize bs b=SB at*;go_enter Tryz.func210,Tryz.ntmps210;go_wp2_with fail;refine(Ha.o).mono ?_;rintro x w1 ⟨rfl,a7⟩;go_wp2;go_returns;exact⟨rfl,a7⟩
 |true=>
  cases cS:knV b with
  |false=>
   rw[eO] at Ha;rw[cS] at Hb;rw[if_neg (by simp)];simp only[he];clear dG fq he;generalize bs a=SA at*;generalize bs b=SB at*;go_enter Tryz.func210,Tryz.ntmps210;go_wp2_with fail;refine(Ha.o).mono ?_;rintro x w1 ⟨rfl,a7⟩;go_wp2_with fail;refine(Hb.o _).mono ?_;rintro x w2 ⟨rfl,a8⟩;have aQ:=a7.trans (a8.mono a7.size);go_wp2;go_returns;exact⟨rfl,aQ⟩
  |true=>
   rw[eO] at Ha;rw[cS] at Hb;by_cases hl:a.length=b.length
   ·obtain⟨k1,k2⟩:=Zfc eO;have Hs:=h_ (λW=>Zfb b (inv a) 1 (by omega) cS k1 (by omega) W);have Hi:=h_ (λW=>Ziy a ha W);rw[if_pos (Z7n eO)] at Hi;rw[if_pos ⟨rfl,rfl,hl⟩];have ay:(((bs a).size:Int) !=((bs b).size:Int))=false:=(by rw[dG,fq,hl];exact bne_self_eq_false _);simp only;generalize bs (sm b (inv a) 1).1=SR at*;generalize bs (inv a)=SI at*;clear dG fq he eO cS hl k1 k2;generalize bs a=SA at*;generalize bs b=SB at*;go_enter Tryz.func210,Tryz.ntmps210;go_wp2_with fail;refine(Ha.o).mono ?_;rintro x w1 ⟨rfl,a7⟩;go_wp2_with fail;refine(Hb.o _).mono ?_;rintro x w2 ⟨rfl,a8⟩;have aQ:=a7.trans (a8.mono a7.size);clear a7 a8;go_wp2_with fail;refine(Hi.o _).mono ?_;rintro x w3 ⟨rfl,ae⟩;have nO:=aQ.trans (ae.mono aQ.size);clear aQ ae;go_wp2_with fail;refine(Hs.o _).mono ?_;rintro x w4 ⟨rfl,aw⟩;have um:=nO.trans (aw.mono nO.size);clear nO aw;go_wp2;go_returns;exact⟨rfl,um⟩
   ·rw[if_neg (λh=>hl h.2.2)];have ay:(((bs a).size:Int) !=((bs b).size:Int))=true:=(by rw[dG,fq,bne_iff_ne];omega);simp only[he];clear dG fq he eO cS hl;generalize bs a=SA at*;generalize bs b=SB at*;go_enter Tryz.func210,Tryz.ntmps210;go_wp2_with fail;refine(Ha.o).mono ?_;rintro x w1 ⟨rfl,a7⟩;go_wp2_with fail;refine(Hb.o _).mono ?_;rintro x w2 ⟨rfl,a8⟩;have aQ:=a7.trans (a8.mono a7.size);go_wp2;go_returns;exact⟨rfl,aQ⟩
theorem Z8I (a b:UInt8):((a.toNat:Int)==(b.toNat:Int))=decide (a=b):=by
 rw[Bool.eq_iff_iff,beq_iff_eq,decide_eq_true_iff];exact⟨λh=>UInt8.toNat_inj.1 (by omega),λh=>by rw[h]⟩
theorem Z6z (v:List UInt8) (hv:v.length<=1099511627776) (w:World):
  Calls Tryz.prog 97 #[.string (bs v)] w λx w'=>x=.returned (.string (bs (shr v)))/\Below w.heap.size w w':=by
 have Hi:=h_ (Z5G v hv w);have he:bs ([]:List UInt8)=⟨#[]⟩:=rfl;unfold shr;cases h:isV v with
 |false=>
  rw[h] at Hi;rw[if_neg (by simp),he];clear he;generalize bs v=S at*;go_enter Tryz.func97,Tryz.ntmps97;go_wp2_with fail;refine(Hi.o).mono ?_;rintro x w1 ⟨rfl,a7⟩;go_wp2;go_returns;exact⟨rfl,a7⟩
 |true=>
  rw[h] at Hi;rw[if_pos rfl];obtain⟨h1,h2,h3⟩:=Z0t.1 h;have H2:=h_ h2;clear he h h1 h2;go_enter Tryz.func97,Tryz.ntmps97;go_wp2_with fail;refine(Hi.o).mono ?_;rintro x w1 ⟨rfl,a7⟩;have an:=h_ a7;clear a7 Hi;go_wp2
  go_loopw [0] (λs0 wr=>∃u:List UInt8,s0=.string (bs u)/\Hid (shq u=shq v)/\Hid (u≠[])/\u.length<=128/\Hid (Below w.heap.size w wr)) (λs0 _=>match s0 with
   |.string s=>s.size
   |_=>0)
  case atStart=>exact⟨v,rfl,h_ rfl,H2,h3,an⟩
  case round=>
   clear an H2;obtain⟨u,rfl,hq,ay,hl,hb⟩:=hrel;have ad:(bs u).size=u.length:=Z00 u;have hex:=Z3m (bs u) 1;rw[Z0d] at hex;go_upto_region 3 with fail;go_cut [30] (λyz wx=>∃q:Bool,yz=.bool q/\Hid ((q=true/\∃a b r,u=a::b::r/\a=fr b)\/(q=false/\shq u=u))/\∃k,wx=wr.drewN k)
   case first=>
    clear hex hq hb;match u,ay.o with
    |[c],_=>
     have h0:decide ((1:Int)<((bs [c]).size:Int))=false:=(by rw[ad];rfl);have h1:¬(1:Int)<((bs [c]).size:Int):=(by rw[ad];simp);generalize bs [c]=S at*;clear ad;go_quiet (fail);go_wp2;go_meet;case rel=>exact⟨false,rfl,h_ (.inr ⟨rfl,rfl⟩),_,rfl⟩
    |a::b::r,_=>
     have hlen:(bs (a::b::r)).size=r.length+2:=(by rw[ad];rfl);have g0:∀hh:0<(bs (a::b::r)).size,((bs (a::b::r))[0]'hh).toNat=a.toNat:=λhh=>(by rw[Z48 _ 0 (by simp)];rfl);have g1:∀hh:1<(bs (a::b::r)).size,((bs (a::b::r))[1]'hh).toNat=b.toNat:=λhh=>(by rw[Z48 _ 1 (by simp)];rfl);have aJ:(1:Int)<((bs (a::b::r)).size:Int):=(by rw[hlen];omega);have cO:decide ((1:Int)<((bs (a::b::r)).size:Int))=true:=decide_eq_true aJ;have yA:0<(bs (a::b::r)).size:=(by omega);have EN:1<(bs (a::b::r)).size:=(by omega);have x1:=Z8I a b;have x2:=Z8I a 49;have x3:=Z8I a 48;have x4:=Z8I b 49;have y2:(((49:UInt8).toNat:Nat):Int)=49:=rfl;have y3:(((48:UInt8).toNat:Nat):Int)=48:=rfl;rw[y2] at x2 x4;rw[y3] at x3;have z2:((a.toNat:Int) !=49)= !decide (a=49):=(by rw[bne,x2]);have ey:fr b=if b=49 then 48 else b:=rfl
     have lJ:=Z5z a b r;have HF:=h_ ey;have oL:=h_ lJ;obtain⟨A,hA⟩:∃A,a.toNat=A:=⟨_,rfl⟩;obtain⟨B,hB⟩:∃B,b.toNat=B:=⟨_,rfl⟩;rw[hA] at g0 x1 x2 x3 z2;rw[hB] at g1 x1 x4;generalize bs (a::b::r)=S at*;clear ad hlen y2 y3 ey lJ hA hB hl;by_cases c1:a=b
     ·rw[decide_eq_true c1] at x1;by_cases c2:a=49
      ·rw[decide_eq_true c2] at x2 z2;have c3:¬a=48:=(by rw[c2];decide);rw[decide_eq_false c3] at x3
       have dt:Hid (shq (a::b::r)=a::b::r):=h_ (by
        rw[oL.o,if_neg];rw[HF.o,<-c1,if_pos c2,c2];decide)
       clear c1 c2 c3 HF oL x2 x4;go_quiet (fail);go_wp2;go_meet;case rel=>exact⟨false,by simp[x1,z2,x3],h_ (.inr ⟨rfl,dt.o⟩),_,rfl⟩
      ·rw[decide_eq_false c2] at x2 z2;have dH:Hid (a=fr b):=h_ (by rw[HF.o,<-c1,if_neg c2]);clear c1 c2 HF oL x2 x4 x3;go_quiet (fail);go_wp2;go_meet;case rel=>exact⟨true,by simp[x1,z2],h_ (.inl ⟨rfl,a,b,r,rfl,dH.o⟩),_,rfl⟩
     ·rw[decide_eq_false c1] at x1;by_cases c2:a=48
      ·rw[decide_eq_true c2] at x3;by_cases c3:b=49
       ·rw[decide_eq_true c3] at x4;have dH:Hid (a=fr b):=h_ (by rw[HF.o,if_pos c3,c2]);clear c1 c2 c3 HF oL x2 z2;go_quiet (fail);go_wp2;go_meet;case rel=>exact⟨true,by simp[x1,x3,x4],h_ (.inl ⟨rfl,a,b,r,rfl,dH.o⟩),_,rfl⟩
       ·rw[decide_eq_false c3] at x4
        have dt:Hid (shq (a::b::r)=a::b::r):=h_ (by
         rw[oL.o,if_neg];rw[HF.o,if_neg c3];exact c1)
        clear c1 c2 c3 HF oL x2 z2;go_quiet (fail);go_wp2;go_meet;case rel=>exact⟨false,by simp[x1,x3,x4],h_ (.inr ⟨rfl,dt.o⟩),_,rfl⟩
      ·rw[decide_eq_false c2] at x3
       have dt:Hid (shq (a::b::r)=a::b::r):=h_ (by
        rw[oL.o,if_neg];rw[HF.o];by_cases c3:b=49
        ·rw[if_pos c3];exact c2
        ·rw[if_neg c3];exact c1)
       clear c1 c2 HF oL x2 z2 x4;go_quiet (fail);go_wp2;go_meet;case rel=>exact⟨false,by simp[x1,x3],h_ (.inr ⟨rfl,dt.o⟩),_,rfl⟩
   case rest=>
    obtain⟨q,rfl,EO,k,rfl⟩:=hcut;have jV:=h_ (bdN hb.o k);rcases EO.o with ⟨rfl,a,b,r,hu,ha⟩|⟨rfl,dt⟩
    ·have sS:Hid (shq (b::r)=shq v):=h_ (by rw[<-hq.o,hu,Z5z,if_pos ha]);have jE:u.drop 1=b::r:=(by rw[hu];rfl);rw[jE] at hex;have aJ:(1:Int)<=((bs u).size:Int):=(by rw[ad,hu];simp;omega);have Pw:1<=(bs u).size:=(by omega);have fu:(b::r).length<=128:=(by rw[hu] at hl;simp at hl⊢;omega);have fO:(bs (b::r)).size<u.length:=(by rw[Z00,hu];simp);have sT:=h_ fO;clear fO;have Px:Hid (b::r≠[]):=h_ (by simp);clear EO hu ha jE hq ay hb ad hl;generalize bs u=S at*;go_wp2;refine⟨⟨b::r,rfl,sS,Px,fu,jV⟩,?_⟩;show(bs (b::r)).size<(bs u).size;rw[Z00 u];exact sT.o
    ·have fa:Hid (bs u=bs (shq v)):=h_ (by rw[<-hq.o,dt]);clear EO dt hex ad;go_wp2;go_returns;exact⟨by rw[<-fa.o];rfl,jV.o⟩
theorem Zfd (c:UInt8):∀n,Lib.repeatL [c] n=List.replicate n c
 |0=>rfl
 |n+1=>by rw[Lib.repeatL,Zfd c n,List.replicate_succ];rfl
theorem Zfe (c:UInt8) (n:Nat) (hn:n<=1099511627776) (W:World):
  Calls Tryz.prog 146 #[.string ⟨#[c]⟩,.int .i64 (n:Int)] W λe w'=>e=.returned (.string (bs (List.replicate n c)))/\Below W.heap.size W w':=by
 have h:=Tryz.strings_Repeat ⟨#[c]⟩ n W (by omega) (by rw[show(⟨#[c]⟩:ByteArray).size=1 from rfl];omega);refine h.mono ?_;rintro x w1 ⟨rfl,h2⟩;refine⟨?_,h2⟩;rw[<-Zfd];rfl
theorem Zff (n:Int) (c:UInt8) (w:World):
  Calls Tryz.prog 95 #[.int .i64 n,.int .u8 (c.toNat:Int)] w λx w'=>x=.returned (.string (bs (allV n c)))/\Below w.heap.size w w':=by
 have Hv:=h_ (λW=>ZcA c W);have he:bs ([]:List UInt8)=⟨#[]⟩:=rfl;unfold allV;by_cases h1:n<1
 ·rw[if_pos (.inl h1),he];clear he Hv;go_enter Tryz.func95,Tryz.ntmps95;go_wp2;go_returns;exact⟨rfl,Below.refl _ _⟩
 ·by_cases h2:128<n
  ·rw[if_pos (.inr (.inl h2)),he];clear he Hv;go_enter Tryz.func95,Tryz.ntmps95;go_wp2;go_returns;exact⟨rfl,Below.refl _ _⟩
  ·cases h3:isC c with
   |false=>
    rw[if_pos (.inr (.inr rfl)),he];rw[h3] at Hv;clear he h3;generalize (c.toNat:Int)=C at*;go_enter Tryz.func95,Tryz.ntmps95;go_wp2_with fail;refine(Hv.o _).mono ?_;rintro x w1 ⟨rfl,rfl⟩;go_wp2;go_returns;exact⟨rfl,Below.refl _ _⟩
   |true=>
    rw[if_neg (by simp[h1,h2])];rw[h3] at Hv;have ew:=Zb0 (P:=Tryz.prog) 115 9 5 Tryz.underlying115 Tryz.underlying5 Tryz.underlying9 w (c.toNat:Int);have e1:UInt8.ofNat (c.toNat:Int).toNat=c:=(by simp);rw[e1] at ew;obtain⟨m,rfl⟩:∃m:Nat,n=m:=⟨n.toNat,by omega⟩;rw[Int.toNat_natCast];have Hr:=h_ (λW=>Zfe c m (by omega) W);have aA:=Z0y w (.cells #[.int .u8 (c.toNat:Int)] 5);have aI:=h_ aA;clear he h3 e1 aA;generalize (c.toNat:Int)=C at*;generalize bs (List.replicate m c)=SR at*;go_enter Tryz.func95,Tryz.ntmps95;go_wp2_with fail;refine(Hv.o _).mono ?_;rintro x w1 ⟨rfl,rfl⟩;go_wp2_with fail;refine(Hr.o _).mono ?_;rintro x w1 ⟨rfl,hb⟩;have aQ:=aI.o.trans (hb.mono aI.o.size);clear hb aI Hv Hr ew;go_wp2;go_returns;exact⟨rfl,aQ⟩
theorem Zlv (n:Int) (v:List UInt8) (hv:v.length<=1099511627776) (w:World):
  Calls Tryz.prog 148 #[.int .i64 n,.string (bs v)] w λx w'=>x=.returned (.tuple #[.string (bs (ext n v).1),.int .i64 ((ext n v).2:Int)])/\Below w.heap.size w w':=by
 have he:bs ([]:List UInt8)=⟨#[]⟩:=rfl;have ad:(bs v).size=v.length:=Z00 v;have Hc:=h_ (Z5F v hv w);unfold ext;by_cases h1:n<1
 ·rw[if_pos (.inl h1)];simp only[he];clear he ad Hc;generalize bs v=S at*;go_enter Tryz.func148,Tryz.ntmps148;go_wp2;go_returns;exact⟨rfl,Below.refl _ _⟩
 ·by_cases h2:128<n
  ·rw[if_pos (.inr h2)];simp only[he];clear he ad Hc;generalize bs v=S at*;go_enter Tryz.func148,Tryz.ntmps148;go_wp2;go_returns;exact⟨rfl,Below.refl _ _⟩
  ·rw[if_neg (by omega)];obtain⟨m,rfl⟩:∃m:Nat,n=m:=⟨n.toNat,by omega⟩;match v,hv with
   |[],_=>
    have cJ:=Z2i [];rw[decide_eq_true rfl] at cJ;simp only[he] at*;unfold cnA at Hc;generalize (cn 0 []:Int)=n0 at*;generalize (cn 1 []:Int)=n1 at*;generalize (cn 2 []:Int)=n2 at*;generalize (cn 3 []:Int)=n3 at*;clear ad;go_enter Tryz.func148,Tryz.ntmps148;go_wp2_with fail;refine(Hc.o).mono ?_;rintro x w1 ⟨rfl,a7⟩;have Hb:=h_ (a7.alloc a7.size (.cells #[.int .i64 n0,.int .i64 n1,.int .i64 n2,.int .i64 n3] 209));clear a7;go_wp2;go_returns;exact⟨rfl,Hb.o⟩
   |c::t,hv=>
    have cJ:=Z2i (c::t);rw[decide_eq_false (by simp)] at cJ;obtain⟨s1,s2,s3,s4⟩:=Zfa (c::t)
    have mT:decide ((cn 0 (c::t):Int)+(cn 1 (c::t):Int)+(cn 2 (c::t):Int)+(cn 3 (c::t):Int)=((bs (c::t)).size:Int))=(c::t).all isC:=by
     rw[Bool.eq_iff_iff,decide_eq_true_iff,List.all_eq_true,ad];constructor
     ·intro h x hx;have:=s2.1 (by omega) x hx;unfold isC;rw[decide_eq_true_iff];exact this
     ·intro h;have:=s2.2 (λx hx=>by have:=h x hx;unfold isC at this;simpa using this);omega
    have hlen:cn 0 (c::t)<=1099511627776/\cn 1 (c::t)<=1099511627776/\cn 2 (c::t)<=1099511627776/\cn 3 (c::t)<=1099511627776:=by omega
    have sU:((cn 0 (c::t):Int)+(cn 1 (c::t):Int)+(cn 2 (c::t):Int)+(cn 3 (c::t):Int) !=((bs (c::t)).size:Int))= !((c::t).all isC):=by
     rw[<-mT,bne,Bool.not_eq_eq_eq_not,Bool.not_not,Bool.eq_iff_iff,beq_iff_eq,decide_eq_true_iff]
    obtain⟨l0,l1,l2,l3⟩:=hlen;unfold cnA at Hc;generalize cn 0 (c::t)=n0 at*;generalize cn 1 (c::t)=n1 at*;generalize cn 2 (c::t)=n2 at*;generalize cn 3 (c::t)=n3 at*;clear s1 s2 s3 s4 mT;simp only;cases ha:(c::t).all isC with
    |false=>
     rw[if_pos rfl];rw[ha] at sU;simp only[he];clear ad;generalize bs (c::t)=S at*;go_enter Tryz.func148,Tryz.ntmps148;go_wp2_with fail;refine(Hc.o).mono ?_;rintro x w1 ⟨rfl,a7⟩;have Hb:=h_ (a7.alloc a7.size (.cells #[.int .i64 (n0:Int),.int .i64 (n1:Int),.int .i64 (n2:Int),.int .i64 (n3:Int)] 209));clear a7;go_wp2;go_returns;exact⟨rfl,Hb.o⟩
    |true=>
     rw[if_neg (by simp)];rw[ha] at sU;by_cases ab:(m:Int)<((c::t).length:Int)
     ·rw[if_pos ab];rw[<-ad] at ab;simp only[he];clear ad;generalize bs (c::t)=S at*;go_enter Tryz.func148,Tryz.ntmps148;go_wp2_with fail;refine(Hc.o).mono ?_;rintro x w1 ⟨rfl,a7⟩;have Hb:=h_ (a7.alloc a7.size (.cells #[.int .i64 (n0:Int),.int .i64 (n1:Int),.int .i64 (n2:Int),.int .i64 (n3:Int)] 209));clear a7;go_wp2;go_returns;exact⟨rfl,Hb.o⟩
     ·rw[if_neg ab];have fQ:(m:Int)-((bs (c::t)).size:Int)=((m-(c::t).length:Nat):Int):=(by rw[ad];omega);have bK:¬(m:Int)<((bs (c::t)).size:Int):=(by rw[ad];exact ab);have bR:0<(bs (c::t)).size:=(by rw[ad];simp);have aY:∀h:0<(bs (c::t)).size,((bs (c::t))[0]'h).toNat=c.toNat:=λh=>(by rw[Z48 _ 0 (by simp)];rfl);have oE:bs (List.replicate (m-(c::t).length) (fr c))++bs (c::t)=bs (List.replicate (m-(c::t).length) (fr c)++(c::t)):=Z0f _ _;have uo:=h_ oE;obtain⟨d,hd⟩:∃d,m-(c::t).length=d:=⟨_,rfl⟩;have mq:d<=128:=(by omega);have eA:(m:Int)<=128:=(by omega);simp only[Int.toNat_natCast];rw[hd] at fQ uo⊢;have Hr:=h_ (λW=>Zfe (fr c) d (by omega) W);have oM:Hid ((bs (List.replicate d (fr c))).size+(bs (c::t)).size<=128):=h_ (by rw[Z00,Z00,List.length_replicate];omega);have e1:UInt8.ofNat ((fr c).toNat:Int).toNat=fr c:=(by simp);have ew:=λW=>Zb0 (P:=Tryz.prog) 115 9 5 Tryz.underlying115 Tryz.underlying5 Tryz.underlying9 W ((fr c).toNat:Int);rw[e1] at ew
      have hf:((fr c).toNat:Int)=if c=49 then 48 else(c.toNat:Int):=by
       unfold fr;by_cases h:c=49
       ·rw[if_pos h,if_pos h];rfl
       ·rw[if_neg h,if_neg h]
      have hq:=Z8I c 49;rw[show(((49:UInt8).toNat:Nat):Int)=49 from rfl] at hq;rw[<-uo.o];obtain⟨A,hA⟩:∃A,c.toNat=A:=⟨_,rfl⟩;rw[hA] at aY hf hq;obtain⟨F,hF⟩:∃F,((fr c).toNat:Int)=F:=⟨_,rfl⟩;rw[hF] at hf ew;generalize bs (List.replicate d (fr c))=SR at*;generalize fr c=f at*;clear uo hd ad he oE ha e1 hA hF ab;generalize bs (c::t)=S at*;have EP:SR.size+S.size<=128:=oM.o;by_cases ru:c=49
      ·rw[if_pos ru] at hf;rw[decide_eq_true ru] at hq;subst hf;clear ru;go_enter Tryz.func148,Tryz.ntmps148;go_wp2_with fail;refine(Hc.o).mono ?_;rintro x w1 ⟨rfl,a7⟩;have Hb:=h_ (a7.alloc a7.size (.cells #[.int .i64 (n0:Int),.int .i64 (n1:Int),.int .i64 (n2:Int),.int .i64 (n3:Int)] 209));have al:=h_ (Hb.o.alloc Hb.o.size (.cells #[.int .u8 48] 5));have xd:=ew (w1.alloc (.cells #[.int .i64 (n0:Int),.int .i64 (n1:Int),.int .i64 (n2:Int),.int .i64 (n3:Int)] 209));rw[World.size_alloc] at xd;clear a7 ew Hb;go_wp2_with fail;refine(Hr.o _).mono ?_;rintro x w2 ⟨rfl,a8⟩;have aQ:=al.o.trans (a8.mono al.o.size);clear a8 al Hr xd Hc;go_wp2;go_returns;exact⟨rfl,aQ⟩
      ·rw[if_neg ru] at hf;rw[decide_eq_false ru] at hq;subst hf;clear ru;go_enter Tryz.func148,Tryz.ntmps148;go_wp2_with fail;refine(Hc.o).mono ?_;rintro x w1 ⟨rfl,a7⟩;have Hb:=h_ (a7.alloc a7.size (.cells #[.int .i64 (n0:Int),.int .i64 (n1:Int),.int .i64 (n2:Int),.int .i64 (n3:Int)] 209));have al:=h_ (Hb.o.alloc Hb.o.size (.cells #[.int .u8 (A:Int)] 5));have xd:=ew (w1.alloc (.cells #[.int .i64 (n0:Int),.int .i64 (n1:Int),.int .i64 (n2:Int),.int .i64 (n3:Int)] 209));rw[World.size_alloc] at xd;clear a7 ew Hb;go_wp2_with fail;refine(Hr.o _).mono ?_;rintro x w2 ⟨rfl,a8⟩;have aQ:=al.o.trans (a8.mono al.o.size);clear a8 al Hr xd Hc;go_wp2;go_returns;exact⟨rfl,aQ⟩
theorem ZiB {p q:Nat} (hp:p<4) (hq:q<4):Go.bits .xor .i64 (p:Int) (q:Int)=((p ^^^ q:Nat):Int):=by
 rcases(show p=0\/p=1\/p=2\/p=3 by omega) with rfl|rfl|rfl|rfl<;>rcases(show q=0\/q=1\/q=2\/q=3 by omega) with rfl|rfl|rfl|rfl<;>decide
theorem Zfg {c:UInt8} (h:cd c<4):cdI c=(cd c:Int):=by unfold cdI;rw[if_pos h]
def mxA (a b:List UInt8) (i:Nat):List UInt8:=List.zipWith mx (a.take i) (b.take i)++List.replicate (a.length-i) 0
theorem Zlw (a b:List UInt8) (hl:a.length=b.length) (i:Nat) (hi:i<=a.length):(mxA a b i).length=a.length:=by
 unfold mxA;rw[List.length_append,List.length_zipWith,List.length_take,List.length_take,List.length_replicate];omega
theorem Zlx (a b:List UInt8) (hl:a.length=b.length) (i:Nat) (ha:i<a.length) (hb:i<b.length):(mxA a b i).set i (mx a[i] b[i])=mxA a b (i+1):=by
 have hz:(List.zipWith mx (a.take i) (b.take i)).length=i:=by
  rw[List.length_zipWith,List.length_take,List.length_take];omega
 unfold mxA
 rw[List.set_append_right _ _ (by omega),hz,Nat.sub_self,List.take_succ_eq_append_getElem ha,List.take_succ_eq_append_getElem hb,
  List.zipWith_append (by rw[List.length_take,List.length_take];omega),show a.length-i=(a.length-(i+1))+1 by omega,List.replicate_succ,List.set_cons_zero]
 simp
theorem ZiC (a b:List UInt8) (jY:a.length<=1099511627776) (cl:b.length<=1099511627776) (w:World):
  Calls Tryz.prog 170 #[.string (bs a),.string (bs b)] w λx w'=>x=.returned (.tuple #[.string (bs (mixV a b).1),.int .i64 ((mixV a b).2:Int)])/\Below w.heap.size w w':=by
 have Ha:=h_ (Z5G a jY w);have Hb:=h_ (λW=>Z5G b cl W);have dG:(bs a).size=a.length:=Z00 a;have fq:(bs b).size=b.length:=Z00 b;have he:bs ([]:List UInt8)=⟨#[]⟩:=rfl;unfold mixV;cases eO:isV a with
 |false=>
  rw[eO] at Ha;rw[if_pos (.inl rfl)];simp only[he];clear dG fq he;generalize bs a=SA at*;generalize bs b=SB at*;go_enter Tryz.func170,Tryz.ntmps170;go_wp2_with fail;refine(Ha.o).mono ?_;rintro x w1 ⟨rfl,a7⟩;go_wp2;go_returns;exact⟨rfl,a7⟩
 |true=>
  cases cS:isV b with
  |false=>
   rw[eO] at Ha;rw[cS] at Hb;rw[if_pos (.inr rfl)];simp only[he];clear dG fq he;generalize bs a=SA at*;generalize bs b=SB at*;go_enter Tryz.func170,Tryz.ntmps170;go_wp2_with fail;refine(Ha.o).mono ?_;rintro x w1 ⟨rfl,a7⟩;go_wp2_with fail;refine(Hb.o _).mono ?_;rintro x w2 ⟨rfl,a8⟩;have aQ:=a7.trans (a8.mono a7.size);go_wp2;go_returns;exact⟨rfl,aQ⟩
  |true=>
   rw[eO] at Ha;rw[cS] at Hb;rw[if_neg (by simp)];by_cases hl:a.length=b.length
   ·rw[if_neg (by simp[hl])];simp only;have ay:(((bs a).size:Int) !=((bs b).size:Int))=false:=(by rw[dG,fq,hl];exact bne_self_eq_false _);obtain⟨a1,a2,a3⟩:=Z0t.1 eO;obtain⟨b1,b2,b3⟩:=Z0t.1 cS;have mn:Hid (∀(i:Nat) (h:i<a.length) (h2:i<(bs a).size),(bs a)[i]'h2=a[i]'h):=h_ (λi h h2=>Z48 a i h h2);have om:Hid (∀(i:Nat) (h:i<b.length) (h2:i<(bs b).size),(bs b)[i]'h2=b[i]'h):=h_ (λi h h2=>Z48 b i h h2);obtain⟨n,hn⟩:∃n,a.length=n:=⟨_,rfl⟩;have rp:b.length=n:=(by omega);have bE:=λW=>Z1g (P:=Tryz.prog) 115 5 (.int .u8 0) 1 Tryz.underlying115 (by kernel_rfl) rfl ((bs a).size:Int) n (by rw[dG,hn]) (by omega) (by omega) W
    have aN:(Array.replicate n (.int .u8 0:Value))=((mxA a b 0).map bv).toArray:=by
     unfold mxA;rw[List.take_zero,List.zipWith_nil_left,List.nil_append,Nat.sub_zero,List.map_replicate,hn];rfl
    have aR:=h_ aN;have aq:=h_ (λi (hi:i<=n)=>(show(mxA a b i).length=n by rw[Zlw a b hl i (by omega),hn]));have aT:=h_ (λi (h1:i<a.length) (h2:i<b.length)=>Zlx a b hl i h1 h2)
    have dP:Hid (mxA a b n=List.zipWith mx a b):=h_ (by
     unfold mxA;rw[List.take_of_length_le (by omega),List.take_of_length_le (by omega),hn,Nat.sub_self,List.replicate_zero,List.append_nil])
    have qC:=h_ a1;have an:=h_ b1;have Hn:=h_ hn;have EH:=h_ rp;rw[hn] at dG;rw[rp] at fq;obtain⟨SA,yv⟩:∃s,bs a=s:=⟨_,rfl⟩;obtain⟨SB,rq⟩:∃s,bs b=s:=⟨_,rfl⟩;rw[yv] at dG ay bE mn Ha⊢;rw[rq] at fq ay om Hb⊢;rw[hn] at a3;have x9:=h_ dG;have EI:=h_ fq;clear aN a1 b1 hn rp yv rq dG fq jY cl a2 b2 b3 he eO cS hl;go_enter Tryz.func170,Tryz.ntmps170;go_wp2_with fail;refine(Ha.o).mono ?_;rintro x w1 ⟨rfl,a7⟩;go_wp2_with fail;refine(Hb.o _).mono ?_;rintro x w2 ⟨rfl,a8⟩;have aQ:=a7.trans (a8.mono a7.size);have oD:=bE w2;have bU:=Bk.new w2 5 (Array.replicate n (.int .u8 0));rw[aR.o] at bU;have dw:=h_ bU;have aA:=h_ (aQ.alloc aQ.size (.cells (Array.replicate n (.int .u8 0)) 5));have hG:=aQ.size;obtain⟨G,KM⟩:∃G,w2.heap.size=G:=⟨_,rfl⟩;rw[KM] at oD hG dw;rw[<-aR.o] at dw;generalize w2.alloc (.cells (Array.replicate n (.int .u8 0)) 5)=W0 at*;clear bE Ha Hb a7 a8 aQ bU KM;rw[aR.o] at dw;go_wp2;go_loopw [26] (λuq wr=>∃i:Nat,i<=n/\uq=.int .i64 (i:Int)/\Hid (Bk wr G 5 ((mxA a b i).map bv).toArray)/\Hid (Below w.heap.size w wr)) (λuq _=>(n-intOf uq).toNat);case atStart=>exact⟨0,Nat.zero_le _,rfl,dw,aA⟩
    case round=>
     clear dw aA oD aR;obtain⟨i,hi,rfl,aC,hb⟩:=hrel;by_cases ab:i<n
     ·have sQ:i<a.length:=(by rw[Hn.o];exact ab);have qD:i<b.length:=(by rw[EH.o];exact ab);have mS:=mn.o i sQ;have iJ:=om.o i qD;have rr:=qC.o a[i] (List.getElem_mem _);have iS:=an.o b[i] (List.getElem_mem _);have hs:=aT.o i sQ qD;have gT:=aq.o i hi;have aj:=aC.o.put i (bv (mx a[i] b[i]));rw[List.setIfInBounds_toArray,<-List.map_set,hs] at aj;have hcell:=aC.o.cell i;rw[List.getElem?_toArray,List.getElem?_map,List.getElem?_eq_getElem (by omega)] at hcell;have eU:=aC.o.frozen i;obtain⟨old,hold⟩:∃o,(Option.map bv (some (mxA a b i)[i]))=some o:=⟨_,rfl⟩;rw[hold] at hcell;have ER:=h_ (λW=>Z3q a[i] W);have xf:=h_ (λW=>Z3q b[i] W);have yB:=h_ (λW=>Zbq (cd a[i] ^^^ cd b[i]) (Zeq _ rr _ iS).1 W);rw[Zfg rr] at ER;rw[Zfg iS] at xf;have Py:=ZiB rr iS;have yC:mx a[i] b[i]=ch (cd a[i] ^^^ cd b[i]):=rfl;rw[yC] at aj;have av:=h_ aj;have jC:=h_ (hb.o.setCell (p:=⟨G,i,none⟩) hG (bv (ch (cd a[i] ^^^ cd b[i]))));unfold bv at av jC;have yD:∀h:i<SA.size,((SA[i]'h).toNat:Int)=(a[i].toNat:Int):=λh=>(by rw[mS h]);have yE:∀h:i<SB.size,((SB[i]'h).toNat:Int)=(b[i].toNat:Int):=λh=>(by rw[iJ h]);have KK:i<SA.size:=(by rw[x9.o];omega);have CF:i<SB.size:=(by rw[EI.o];omega);obtain⟨Z,hZ⟩:∃z,((ch (cd a[i] ^^^ cd b[i])).toNat:Int)=z:=⟨_,rfl⟩;rw[hZ] at av jC yB;clear aj hs gT hold yC mS iJ rr iS hZ aC hb;generalize (cd a[i] ^^^ cd b[i])=M at*;generalize cd a[i]=P at*;generalize cd b[i]=Q at*;have Pz:=yD KK;have TY:=yE CF;generalize (a[i].toNat:Int)=A at*;generalize (b[i].toNat:Int)=B at*;have ji:(0:Int)<=(i:Int):=(by omega);have di:(i:Int)<(n:Int):=(by omega);clear yD yE sQ qD aT aq dP mn om qC an;have TZ:(i:Int)<(SA.size:Int):=(by omega);have ES:(i:Int)<(SB.size:Int):=(by omega);go_wp2
      go_region_with (first
       |(go_at_call 205;with_reducible refine(yB.o _).mono ?_;rintro r w9 ⟨rfl,rfl⟩)
       |(go_at_call 165;with_reducible refine(ER.o _).mono ?_;rintro r w9 ⟨rfl,rfl⟩)
       |(go_at_call 165;with_reducible refine(xf.o _).mono ?_;rintro r w9 ⟨rfl,rfl⟩))
      all_goals
       clear hcell eU ER xf yB;go_wp2;go_roundw;case rel=>first|exact⟨i+1,ab,by go_num,h_ (av.o.drew),h_ (jC.o.drew)⟩|((repeat apply Exists.intro);exact⟨⟨i+1,ab,by go_num,h_ (av.o.drew),h_ (jC.o.drew)⟩,rfl⟩)
       case measure=>simp[intOf]<;>omega
     ·have aX:i=n:=(by omega);subst aX;have dC:=aC.o;rw[dP.o] at dC;have gT:(List.zipWith mx a b).length=i:=(by rw[<-dP.o];exact aq.o i (Nat.le_refl _))
      have iV:=run_convert_bytes_back (P:=Tryz.prog) wr 115 9 5 ⟨G,0,none⟩ i (List.zipWith mx a b) Tryz.underlying115 Tryz.underlying5 Tryz.underlying9 (λj hj=>by
       rw[Go.WideShapes.add_plain,Nat.zero_add,dC.cell j,List.getElem?_toArray,List.getElem?_map,List.getElem?_eq_getElem hj];rfl)
      rw[gT] at iV;have ic:(⟨(List.zipWith mx a b).toArray⟩:ByteArray)=bs (List.zipWith mx a b):=rfl;rw[ic] at iV;obtain⟨SR,oJ⟩:∃s,bs (List.zipWith mx a b)=s:=⟨_,rfl⟩;rw[oJ] at iV;have yr:=h_ oJ;clear dC gT ic oJ aC aT aq dP mn om qC an;go_wp2;go_returns;exact⟨by rw[yr.o];rfl,hb.o⟩
   ·rw[if_pos hl];have ay:(((bs a).size:Int) !=((bs b).size:Int))=true:=(by rw[dG,fq,bne_iff_ne];omega);simp only[he];clear dG fq he eO cS hl;generalize bs a=SA at*;generalize bs b=SB at*;go_enter Tryz.func170,Tryz.ntmps170;go_wp2_with fail;refine(Ha.o).mono ?_;rintro x w1 ⟨rfl,a7⟩;go_wp2_with fail;refine(Hb.o _).mono ?_;rintro x w2 ⟨rfl,a8⟩;have aQ:=a7.trans (a8.mono a7.size);go_wp2;go_returns;exact⟨rfl,aQ⟩
end Go.Proofs.YtchokmkfobandaaGreatDoor
