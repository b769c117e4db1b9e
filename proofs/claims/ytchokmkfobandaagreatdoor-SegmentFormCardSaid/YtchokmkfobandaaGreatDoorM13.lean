import Derived.Test.YtchokmkfobandaaGreatDoorM10
import Derived.Test.YtchokmkfobandaaGreatDoorMShelf
import Derived.Lib.Repeat
import Derived.StillTailTactics
set_option linter.unusedVariables false
set_option linter.unusedSimpArgs false
set_option maxRecDepth 100000
set_option maxHeartbeats 8000000
namespace Go.Proofs.YtchokmkfobandaaGreatDoor
open Go.RowKit Go.Proofs Wv Wv.Vi Wv.Bc
def cdI (c:UInt8):Int:=if cd c<4 then(cd c:Int) else-1
theorem Zbe:(∀h:0<(⟨#[48,49,120,122]⟩:ByteArray).size,((⟨#[48,49,120,122]⟩:ByteArray)[0]'h).toNat=48)/\(∀h:1<(⟨#[48,49,120,122]⟩:ByteArray).size,((⟨#[48,49,120,122]⟩:ByteArray)[1]'h).toNat=49)/\
  (∀h:2<(⟨#[48,49,120,122]⟩:ByteArray).size,((⟨#[48,49,120,122]⟩:ByteArray)[2]'h).toNat=120)/\(∀h:3<(⟨#[48,49,120,122]⟩:ByteArray).size,((⟨#[48,49,120,122]⟩:ByteArray)[3]'h).toNat=122):=⟨λ_=>rfl,λ_=>rfl,λ_=>rfl,λ_=>rfl⟩
theorem Zkd {c:UInt8} :(c.toNat=48->cdI c=0)/\(c.toNat=49->cdI c=1)/\(c.toNat=120->cdI c=2)/\(c.toNat=122->cdI c=3)/\(c.toNat≠48->c.toNat≠49->c.toNat≠120->c.toNat≠122->cdI c= -1):=by
 have e:∀k:UInt8,c.toNat=k.toNat->c=k:=λk h=>UInt8.toNat_inj.1 h;refine⟨λh=>by rw[e 48 h];rfl,λh=>by rw[e 49 h];rfl,λh=>by rw[e 120 h];rfl,λh=>by rw[e 122 h];rfl,λh0 h1 h2 h3=> ?_⟩;rcases Z1d c with ⟨rfl,h⟩|⟨rfl,h⟩|⟨rfl,h⟩|⟨rfl,h⟩|⟨_,_,_,_,h⟩
 ·exact absurd rfl h0
 ·exact absurd rfl h1
 ·exact absurd rfl h2
 ·exact absurd rfl h3
 ·unfold cdI;rw[h];rfl
theorem Qt (c:UInt8) (w:World):Calls Tryz.prog 165 #[.int .u8 (c.toNat:Int)] w λx w'=>x=.returned (.int .i64 (cdI c))/\w=w':=by
 obtain⟨f0,f1,f2,f3,f4⟩:=Zkd (c:=c);obtain⟨g0,g1,g2,g3⟩:=Zbe;obtain⟨R,hR⟩:∃R,cdI c=R:=⟨_,rfl⟩;rw[hR] at f0 f1 f2 f3 f4⊢;obtain⟨C,hC⟩:∃C,c.toNat=C:=⟨_,rfl⟩;rw[hC] at f0 f1 f2 f3 f4⊢;have F0:=h_ f0;have F1:=h_ f1;have F2:=h_ f2;have F3:=h_ f3;have F4:=h_ f4;clear hR hC f0 f1 f2 f3 f4;go_enter Tryz.func165,Tryz.ntmps165;go_wp2;go_loopw [4] (λs4 wr=>∃i:Nat,i<=4/\s4=.int .i64 (i:Int)/\Hid ((0<i->C≠48)/\(1<i->C≠49)/\(2<i->C≠120)/\(3<i->C≠122))/\wr=w) (λs4 _=>(4-intOf s4).toNat);case atStart=>exact⟨0,by omega,rfl,h_ ⟨λh=>by omega,λh=>by omega,λh=>by omega,λh=>by omega⟩,rfl⟩
 case round=>
  obtain⟨i,hi,rfl,dC,rfl⟩:=hrel;rcases(show i=0\/i=1\/i=2\/i=3\/i=4 by omega) with rfl|rfl|rfl|rfl|rfl
  ·by_cases hc:C=48
   ·have hR:=F0.out hc;subst hc;go_wp2;go_returns;exact⟨by first|rfl|(rw[hR];rfl),rfl⟩
   ·have hb:((48:Int)==(C:Int))=false:=(by rw[Van];omega);go_wp2;refine⟨⟨1,by omega,rfl,h_ ⟨λ_=>hc,λh=>by omega,λh=>by omega,λh=>by omega⟩,by first|rfl|trivial⟩,?_⟩;simp[intOf]
  ·by_cases hc:C=49
   ·have hR:=F1.out hc;subst hc;go_wp2;go_returns;exact⟨by first|rfl|(rw[hR];rfl),rfl⟩
   ·have hb:((49:Int)==(C:Int))=false:=(by rw[Van];omega);have hn:=dC.o;go_wp2;refine⟨⟨2,by omega,rfl,h_ ⟨λ_=>hn.1 (by omega),λ_=>hc,λh=>by omega,λh=>by omega⟩,by first|rfl|trivial⟩,?_⟩;simp[intOf]
  ·by_cases hc:C=120
   ·have hR:=F2.out hc;subst hc;go_wp2;go_returns;exact⟨by first|rfl|(rw[hR];rfl),rfl⟩
   ·have hb:((120:Int)==(C:Int))=false:=(by rw[Van];omega);have hn:=dC.o;go_wp2;refine⟨⟨3,by omega,rfl,h_ ⟨λ_=>hn.1 (by omega),λ_=>hn.2.1 (by omega),λ_=>hc,λh=>by omega⟩,by first|rfl|trivial⟩,?_⟩;simp[intOf]
  ·by_cases hc:C=122
   ·have hR:=F3.out hc;subst hc;go_wp2;go_returns;exact⟨by first|rfl|(rw[hR];rfl),rfl⟩
   ·have hb:((122:Int)==(C:Int))=false:=(by rw[Van];omega);have hn:=dC.o;go_wp2;refine⟨⟨4,by omega,rfl,h_ ⟨λ_=>hn.1 (by omega),λ_=>hn.2.1 (by omega),λ_=>hn.2.2.1 (by omega),λ_=>hc⟩,by first|rfl|trivial⟩,?_⟩;simp[intOf]
  ·have hn:=dC.o;have hR:=F4.out (hn.1 (by omega)) (hn.2.1 (by omega)) (hn.2.2.1 (by omega)) (hn.2.2.2 (by omega));go_wp2;go_returns;exact⟨by first|rfl|(rw[hR];rfl),rfl⟩
theorem Z7u (n:Nat) (hn:n<4) (w:World):Calls Tryz.prog 205 #[.int .i64 (n:Int)] w λx w'=>x=.returned (.tuple #[.int .u8 ((ch n).toNat:Int),.bool true])/\w=w':=by
 rcases(show n=0\/n=1\/n=2\/n=3 by omega) with rfl|rfl|rfl|rfl
 all_goals
  go_enter Tryz.func205,Tryz.ntmps205;go_wp2;go_returns;exact⟨rfl,rfl⟩
def cdK (c:UInt8):Nat:=if cd c<4 then cd c else 2
theorem Zke (c:UInt8):cdK c<4:=by unfold cdK;split<;>omega
theorem Zbf (c:UInt8) (w:World):Calls Tryz.prog 309 #[.int .u8 (c.toNat:Int)] w λx w'=>x=.returned (.int .i64 (cdK c:Int))/\w=w':=by
 have H:=h_ (Qt c w);unfold cdI cdK at*;by_cases h:cd c<4
 ·rw[Vaf h] at H⊢;generalize (c.toNat:Int)=C at*;generalize cd c=k at*;have h0:(0:Int)<=(k:Int):=(by omega);go_enter Tryz.func309,Tryz.ntmps309;go_wp2_with fail;refine(H.o).mono ?_;rintro x w1 ⟨rfl,rfl⟩;go_wp2;go_returns;exact⟨rfl,rfl⟩
 ·rw[Vad h] at H⊢;generalize (c.toNat:Int)=C at*;clear h;go_enter Tryz.func309,Tryz.ntmps309;go_wp2_with fail;refine(H.o).mono ?_;rintro x w1 ⟨rfl,rfl⟩;go_wp2;go_returns;exact⟨rfl,rfl⟩
theorem Z8I (c:UInt8) (w:World):Calls Tryz.prog 145 #[.int .u8 (c.toNat:Int)] w λx w'=>x=.returned (.bool (isC c))/\w=w':=by
 have H:=h_ (Qt c w)
 have h:decide (0<=cdI c)=isC c:=by
  unfold cdI isC;by_cases h:cd c<4
  ·rw[Vaf h];simp[h]
  ·rw[Vad h];simp[h]
 generalize (c.toNat:Int)=C at*;generalize cdI c=k at*;go_enter Tryz.func145,Tryz.ntmps145;go_wp2_with fail;refine(H.o).mono ?_;rintro x w1 ⟨rfl,rfl⟩;go_wp2;go_returns;exact⟨by first|rfl|(rw[h]),rfl⟩
def invC (c:UInt8):UInt8:=ch (if cdK c<2 then 1-cdK c else cdK c)
theorem ZeN (w:World):(Instr.index 207 (.agg #[.int .u8 49,.int .u8 48,.int .u8 120,.int .u8 122]) (.int .i64 0)).run Tryz.prog w=.ok (.int .u8 49) w:=by kernel_rfl
theorem ZeO (w:World):(Instr.index 207 (.agg #[.int .u8 49,.int .u8 48,.int .u8 120,.int .u8 122]) (.int .i64 1)).run Tryz.prog w=.ok (.int .u8 48) w:=by kernel_rfl
theorem ZeP (w:World):(Instr.index 207 (.agg #[.int .u8 49,.int .u8 48,.int .u8 120,.int .u8 122]) (.int .i64 2)).run Tryz.prog w=.ok (.int .u8 120) w:=by kernel_rfl
theorem ZeQ (w:World):(Instr.index 207 (.agg #[.int .u8 49,.int .u8 48,.int .u8 120,.int .u8 122]) (.int .i64 3)).run Tryz.prog w=.ok (.int .u8 122) w:=by kernel_rfl
theorem Z66 (c:UInt8) (w:World):Calls Tryz.prog 297 #[.int .u8 (c.toNat:Int)] w λx w'=>x=.returned (.int .u8 ((invC c).toNat:Int))/\w=w':=by
 have H:=h_ (Zbf c w);have hk:=Zke c;unfold invC;generalize (c.toNat:Int)=C at*;generalize cdK c=k at*;have r0:=ZeN w;have r1:=ZeO w;have r2:=ZeP w;have r3:=ZeQ w;rcases(show k=0\/k=1\/k=2\/k=3 by omega) with rfl|rfl|rfl|rfl
 all_goals
  go_enter Tryz.func297,Tryz.ntmps297;go_wp2_with fail;refine(H.o).mono ?_;rintro x w1 ⟨rfl,rfl⟩;go_wp2;go_returns;exact⟨rfl,rfl⟩
def cn (k:Nat) (v:List UInt8):Nat:=(v.filter (λc=>cd c==k)).length
theorem Zbg (k:Nat) (v:List UInt8) (c:UInt8):cn k (v++[c])=cn k v+if cd c=k then 1 else 0:=by
 unfold cn;rw[List.filter_append,Vab];congr 1;by_cases h:cd c=k
 ·rw[Vaf h];simp[h]
 ·rw[Vad h];simp[h]
theorem Z2w (k:Nat) (v:List UInt8):cn k v<=v.length:=List.length_filter_le _ _
theorem Zbh (v:List UInt8):cn 0 v+cn 1 v+cn 2 v+cn 3 v<=v.length/\(cn 0 v+cn 1 v+cn 2 v+cn 3 v=v.length↔∀c∈v,cd c<4)/\(cn 0 v+cn 1 v=v.length↔∀c∈v,cd c<2)/\((∀c∈v,cd c<4)->(cn 2 v+cn 3 v=0↔∀c∈v,cd c<2)):=by
 induction v with
 |nil=>simp[cn]
 |cons a r ih=>
  have key:∀k,cn k (a::r)=cn k r+if cd a=k then 1 else 0:=λk=>by
   unfold cn;by_cases h:cd a=k
   ·rw[Vaf h,List.filter_cons_of_pos (by simp[h])];rfl
   ·rw[Vad h,List.filter_cons_of_neg (by simp[h])];rfl
  obtain⟨i1,i2,i3,i4⟩:=ih;have hle:=ZjS a;simp only[key,Vaz,List.forall_mem_cons];rcases(show cd a=0\/cd a=1\/cd a=2\/cd a=3\/cd a=4 by omega) with h|h|h|h|h
  all_goals
   simp only[h];refine⟨by simp<;>omega,⟨λh1=> ?_,λh1=> ?_⟩,⟨λh1=> ?_,λh1=> ?_⟩,λh0=>⟨λh1=> ?_,λh1=> ?_⟩⟩
  all_goals simp at*
  all_goals first
   |omega
   |(refine i2.1 ?_;omega)
   |(have:=i2.2 h1;omega)
   |(refine i3.1 ?_;omega)
   |(have:=i3.2 h1;omega)
   |(exact(i4 h0).1 h1)
   |(exact(i4 h0).2 h1)
   |skip
theorem Z0c (v:List UInt8) (i:Nat) (h:i<v.length) (h2:i<(bs v).size):((bs v)[i]'h2)=v[i]'h:=by simp[bs];rfl
def cnA (v:List UInt8):Array Value:= #[.int .i64 (cn 0 v:Int),.int .i64 (cn 1 v:Int),.int .i64 (cn 2 v:Int),.int .i64 (cn 3 v:Int)]
theorem ZeR (v:List UInt8) (c:UInt8) (k:Nat) (hk:cd c=k) (h:k<4):(cnA v).setIfInBounds k (.int .i64 ((cn k v:Int)+1))=cnA (v++[c]):=by
 unfold cnA;simp only[Zbg,hk];rcases(show k=0\/k=1\/k=2\/k=3 by omega) with rfl|rfl|rfl|rfl<;>simp
theorem ZeS (v:List UInt8) (c:UInt8) (h:¬cd c<4):cnA (v++[c])=cnA v:=by
 unfold cnA;simp only[Zbg];rw[Vad (by omega),Vad (by omega),Vad (by omega),Vad (by omega)];rfl
theorem Z1O (v:List UInt8) (hv:v.length<=1099511627776) (w:World):
  Calls Tryz.prog 162 #[.string (bs v)] w λx w'=>x=.returned (.agg (cnA v))/\Below w.heap.size w w':=by
 have ad:(bs v).size=v.length:=Z0 v;have aD:=h_ (((Vae w.heap.size w).alloc UZz (.cells #[.int .i64 0,.int .i64 0,.int .i64 0,.int .i64 0] 209)).alloc (by simp) (.cells #[.int .i64 0,.int .i64 0,.int .i64 0,.int .i64 0] 209));have cg:=h_ ((Bk.new w 209 #[.int .i64 0,.int .i64 0,.int .i64 0,.int .i64 0]).alloc (.cells #[.int .i64 0,.int .i64 0,.int .i64 0,.int .i64 0] 209));have bk:=Bk.new (w.alloc (.cells #[.int .i64 0,.int .i64 0,.int .i64 0,.int .i64 0] 209)) 209 #[.int .i64 0,.int .i64 0,.int .i64 0,.int .i64 0];rw[World.size_alloc] at bk;have rQ:=h_ bk;have ez:Hid (∀(i:Nat) (h:i<v.length) (h2:i<(bs v).size),(bs v)[i]'h2=v[i]'h):=h_ (λi h h2=>Z0c v i h h2);obtain⟨n,hn⟩:∃n,v.length=n:=⟨_,rfl⟩;obtain⟨S,hS⟩:∃S,bs v=S:=⟨_,rfl⟩;rw[hS] at ad ez⊢;rw[hn] at ad hv;have Hn:=h_ hn;have cC:=h_ ad;clear hn hS bk ad;go_enter Tryz.func162,Tryz.ntmps162;go_wp2;rw[cC.o];go_loopw [8] (λs8 wr=>∃i:Nat,i<=n/\s8=.int .i64 (i:Int)/\Hid (Bk wr w.heap.size 209 #[.int .i64 0,.int .i64 0,.int .i64 0,.int .i64 0])/\Hid (Bk wr (w.heap.size+1) 209 (cnA (v.take i)))/\Hid (Below w.heap.size w wr)) (λs8 _=>(n-intOf s8).toNat);case atStart=>exact⟨0,Var _,rfl,cg,rQ,aD⟩
 case round=>
  clear cg rQ aD;obtain⟨i,hi,rfl,fe,dd,hb⟩:=hrel;by_cases ab:i<n
  ·have aX:i<v.length:=(by rw[Hn.o];exact ab);have r7:i<S.size:=(by rw[cC.o];exact ab);have dW:=ez.o i aX;have ax:v.take (i+1)=v.take i++[v[i]]:=Vac aX;obtain⟨c,hc⟩:∃c,v[i]=c:=⟨_,rfl⟩;rw[hc] at dW ax;have bu:∀h:i<S.size,(S[i]'h).toNat=c.toNat:=λh=>(by rw[dW h]);have dw:(i:Int)<(n:Int):=(by omega);have tG:(0:Int)<=(i:Int):=(by omega)
   have ir:cn 0 (v.take i)<=i/\cn 1 (v.take i)<=i/\cn 2 (v.take i)<=i/\cn 3 (v.take i)<=i:=by
    have hl:(v.take i).length<=i:=(by rw[Vau];omega);exact⟨Vas (Z2w _ _) hl,Vas (Z2w _ _) hl,Vas (Z2w _ _) hl,Vas (Z2w _ _) hl⟩
   obtain⟨bP,cq,dN,fE⟩:=ir;have ns:=h_ (Qt c wr);unfold cdI at ns;have rR:=dd.o.cell 0;have fF:=dd.o.cell 1;have uR:=dd.o.cell 2;have uS:=dd.o.cell 3;have f0:=dd.o.frozen 0;have f1:=dd.o.frozen 1;have f2:=dd.o.frozen 2;have f3:=dd.o.frozen 3;unfold cnA at rR fF uR uS;simp only[Vbf,List.getElem?_cons_zero,List.getElem?_cons_succ] at rR fF uR uS;have az:=h_ (λk (h:cd c=k) (h4:k<4)=>(by rw[ax,<-ZeR _ c k h h4];exact Bk.put dd.o k (.int .i64 ((cn k (v.take i):Int)+1)):Bk (wr.setCell ⟨w.heap.size+1,k,none⟩ (.int .i64 ((cn k (v.take i):Int)+1))) (w.heap.size+1) 209 (cnA (v.take (i+1)))));have pc:=h_ (λ(h:¬cd c<4)=>(by rw[ax,ZeS _ c h];exact dd.o:Bk wr (w.heap.size+1) 209 (cnA (v.take (i+1)))));have nk:=h_ (λk (u:Value)=>Bk.off fe.o (p:=⟨w.heap.size+1,k,none⟩) (by simp) u);have jK:=h_ (λk (u:Value)=>hb.o.setCell (p:=⟨w.heap.size+1,k,none⟩) (by simp) u);have hle:=ZjS c;obtain⟨CN,Ds⟩:∃f:Nat->Nat,(λk=>cn k (v.take i))=f:=⟨_,rfl⟩;have tx:∀k,cn k (v.take i)=CN k:=λk=>congrFun Ds k;simp only[tx] at az rR fF uR uS bP cq dN fE;clear aX dW ax hc Ds tx;by_cases h4:cd c<4
   ·rw[Vaf h4] at ns;clear pc;obtain⟨k,hk⟩:∃k,cd c=k:=⟨_,rfl⟩;rw[hk] at ns h4;have j0:=h_ (az.o k hk h4);have Fw:=h_ (λu=>nk.o k u);have a8:=h_ (λu=>jK.o k u);clear az nk jK hle hk;rcases(show k=0\/k=1\/k=2\/k=3 by omega) with rfl|rfl|rfl|rfl
    all_goals
     clear h4;go_wp2_with fail;refine(ns.o).mono ?_;rintro x w1 ⟨rfl,rfl⟩;go_wp2;refine⟨⟨i+1,ab,by go_num,h_ (Fw.o _),j0,h_ (a8.o _)⟩,?_⟩;simp[intOf]<;>omega
   ·rw[Vad h4] at ns;have j0:=h_ (pc.o h4);clear az pc nk jK h4 rR fF uR uS f0 f1 f2 f3 hle;go_wp2_with fail;refine(ns.o).mono ?_;rintro x w1 ⟨rfl,rfl⟩;go_wp2;refine⟨⟨i+1,ab,by go_num,fe,j0,hb⟩,?_⟩;simp[intOf]<;>omega
  ·have aO:i=n:=(by omega);subst aO;have ax:v.take i=v:=Vai (by rw[Hn.o];exact UZz);have ja:=dd.o;rw[ax] at ja;have rR:=ja.cell 0;have fF:=ja.cell 1;have uR:=ja.cell 2;have uS:=ja.cell 3;have fP:=fe.o.frozen 0;have cI:=fe.o.frozen 1;have bR:=fe.o.frozen 2;have eV:=fe.o.frozen 3;have qZ:=fe.o.cell 0;have bq:=fe.o.cell 1;have bm:=fe.o.cell 2;have eu:=fe.o.cell 3;unfold cnA at rR fF uR uS;simp only[Vbf,List.getElem?_cons_zero,List.getElem?_cons_succ] at rR fF uR uS qZ bq bm eu;have pd:cnA v= #[.int .i64 (cn 0 v:Int),.int .i64 (cn 1 v:Int),.int .i64 (cn 2 v:Int),.int .i64 (cn 3 v:Int)]:=rfl;have Ds:=h_ pd;clear pd;generalize cn 0 v=n0 at*;generalize cn 1 v=n1 at*;generalize cn 2 v=n2 at*;generalize cn 3 v=n3 at*;clear ax ja;have hF:=h_ ((((fe.o.put 0 (.int .i64 (n0:Int))).put 1 (.int .i64 (n1:Int))).put 2 (.int .i64 (n2:Int))).put 3 (.int .i64 (n3:Int)));have dD:=h_ ((((hb.o.setCell (p:=⟨w.heap.size,0,none⟩) UZz (.int .i64 (n0:Int))).setCell (p:=⟨w.heap.size,1,none⟩) UZz (.int .i64 (n1:Int))).setCell (p:=⟨w.heap.size,2,none⟩) UZz (.int .i64 (n2:Int))).setCell (p:=⟨w.heap.size,3,none⟩) UZz (.int .i64 (n3:Int)));go_wp2;have z0:=hF.o.cell 0;have z1:=hF.o.cell 1;have z2:=hF.o.cell 2;have z3:=hF.o.cell 3;simp at z0 z1 z2 z3;generalize ((((wr.setCell ⟨w.heap.size,0,none⟩ (.int .i64 (n0:Int))).setCell ⟨w.heap.size,1,none⟩ (.int .i64 (n1:Int))).setCell ⟨w.heap.size,2,none⟩ (.int .i64 (n2:Int))).setCell ⟨w.heap.size,3,none⟩ (.int .i64 (n3:Int)))=WF at*;refine bodyPost_ret (v:=.agg #[.int .i64 (n0:Int),.int .i64 (n1:Int),.int .i64 (n2:Int),.int .i64 (n3:Int)]) (by simp[results,Tryz.results162,go_sem,z0,z1,z2,z3];try rfl) rfl ?_;exact⟨by rw[Ds.o],dD.o⟩
theorem Xk (v:List UInt8):(bs v).toList.isEmpty=decide (v=[]):=by
 have h:(bs v).toList.isEmpty=((bs v).toList==(bs []).toList):=by
  have:(bs ([]:List UInt8)).toList=[]:=(by decide+kernel);rw[this];cases (bs v).toList<;>rfl
 rw[h,Vbl,beq_iff_eq,Vaq,ByteArray.toList_eq,ByteArray.toList_eq];exact Iff.rfl
theorem Zkf {v:List UInt8} (h0:v≠[]) (h1:v.length<=128):isV v=decide ((cn 0 v:Int)+(cn 1 v:Int)+(cn 2 v:Int)+(cn 3 v:Int)=(v.length:Int)):=by
 rw[Vbl,Zv,Vaq];obtain⟨_,s2,_,_⟩:=Zbh v;constructor
 ·rintro⟨h,_,_⟩;have:=s2.2 h;omega
 ·intro h;exact⟨s2.1 (by omega),h0,h1⟩
theorem Zkg {v:List UInt8} (h:isV v=true):knV v=decide ((cn 2 v:Int)+(cn 3 v:Int)=0):=by
 obtain⟨a,b,c⟩:=Zv.1 h;rw[Vbl,Yq,Vaq];obtain⟨_,_,_,s4⟩:=Zbh v;constructor
 ·rintro⟨h,_,_⟩;have:=(s4 a).2 h;omega
 ·intro h;exact⟨(s4 a).1 (by omega),b,c⟩
theorem Z1P (v : List UInt8) (hv : v.length <= 1099511627776) (w : World) :
    Calls Tryz.prog 119 #[.string (bs v)] w λx w'=>x=.returned (.bool (isV v))/\Below w.heap.size w w':=by
  have cB:=Xk v;have ad:(bs v).size=v.length:=Z0 v;by_cases h0:v=[]
  · have hi : isV v = false := by cases h : isV v with
      |false=>rfl
      |true=>exact absurd h0 (Zv.1 h).2.1
    rw[Vam h0] at cB;rw[hi];clear ad hi h0;generalize bs v=S at*;go_enter Tryz.func119,Tryz.ntmps119;go_wp2;go_returns;exact⟨rfl,Vae _ _⟩
  · rw[Vah h0] at cB
    by_cases h1:128<v.length
    · have hi : isV v = false := by cases h : isV v with
        |false=>rfl
        |true=>have:=(Zv.1 h).2.2;omega
      rw[hi];have h2:(128:Int)<((bs v).size:Int):=(by omega);clear ad hi h0 h1;generalize bs v=S at*;go_enter Tryz.func119,Tryz.ntmps119;go_wp2;go_returns;exact⟨rfl,Vae _ _⟩
    · have hi:=Zkf h0 (by omega)
      have Hc:=h_ (Z1O v hv w);have pd:cnA v= #[.int .i64 (cn 0 v:Int),.int .i64 (cn 1 v:Int),.int .i64 (cn 2 v:Int),.int .i64 (cn 3 v:Int)]:=rfl;rw[pd] at Hc;have c0:=Z2w 0 v;have c1:=Z2w 1 v;have c2:=Z2w 2 v;have c3:=Z2w 3 v;have zk:Hid ((bs v).size=v.length):=h_ ad;have h2:¬(128:Int)<((bs v).size:Int):=(by omega);have Hi:=h_ hi;have kP:v.length<=128:=(by omega);obtain⟨n,hn⟩:∃n,v.length=n:=⟨_,rfl⟩;rw[hn] at Hi zk c0 c1 c2 c3 kP;generalize cn 0 v=n0 at*;generalize cn 1 v=n1 at*;generalize cn 2 v=n2 at*;generalize cn 3 v=n3 at*;generalize bs v=S at*;clear pd ad hi h0 h1 hn hv;go_enter Tryz.func119,Tryz.ntmps119;go_wp2_with fail;refine(Hc.o).mono ?_;rintro x w1 ⟨rfl,a7⟩;have al:=h_ (a7.alloc a7.size (.cells #[.int .i64 (n0:Int),.int .i64 (n1:Int),.int .i64 (n2:Int),.int .i64 (n3:Int)] 209));clear a7 Hc;go_wp2;go_returns;rw[zk.o,Hi.o];exact⟨by first|rfl|(congr 2;rw[Vbl];simp),al.o⟩
theorem Z7v (v:List UInt8) (hv:v.length<=1099511627776) (w:World):
  Calls Tryz.prog 245 #[.string (bs v)] w λx w'=>x=.returned (.bool (knV v))/\Below w.heap.size w w':=by
 have Hc:=h_ (Z1O v hv w);have pd:cnA v= #[.int .i64 (cn 0 v:Int),.int .i64 (cn 1 v:Int),.int .i64 (cn 2 v:Int),.int .i64 (cn 3 v:Int)]:=rfl;rw[pd] at Hc;have Hi:=h_ (λW=>Z1P v hv W);have c2:=Z2w 2 v;have c3:=Z2w 3 v;cases h:isV v with
 |false=>
  have hk:knV v=false:=by cases hk:knV v with
   |false=>rfl
   |true=>rw[Z3x hk] at h;cases h
  rw[h] at Hi;rw[hk];generalize cn 0 v=n0 at*;generalize cn 1 v=n1 at*;generalize cn 2 v=n2 at*;generalize cn 3 v=n3 at*;generalize bs v=S at*;clear pd h hk;go_enter Tryz.func245,Tryz.ntmps245;go_wp2_with fail;refine(Hc.o).mono ?_;rintro x w1 ⟨rfl,a7⟩;have al:=h_ (a7.alloc a7.size (.cells #[.int .i64 (n0:Int),.int .i64 (n1:Int),.int .i64 (n2:Int),.int .i64 (n3:Int)] 209));clear a7 Hc;go_wp2_with fail;refine(Hi.o _).mono ?_;rintro x w2 ⟨rfl,a8⟩;have ak:=h_ (al.o.trans (a8.mono al.o.size));clear a8;go_wp2;go_returns;exact⟨rfl,ak.o⟩
 |true=>
  have hk:=Zkg h;have kP:=(Zv.1 h).2.2;rw[h] at Hi;rw[hk];have V8:cn 2 v<=128:=(by omega);have V9:cn 3 v<=128:=(by omega);generalize cn 0 v=n0 at*;generalize cn 1 v=n1 at*;generalize cn 2 v=n2 at*;generalize cn 3 v=n3 at*;generalize bs v=S at*;clear pd h hk c2 c3 kP;go_enter Tryz.func245,Tryz.ntmps245;go_wp2_with fail;refine(Hc.o).mono ?_;rintro x w1 ⟨rfl,a7⟩;have ft:=h_ (Bk.new w1 209 #[.int .i64 (n0:Int),.int .i64 (n1:Int),.int .i64 (n2:Int),.int .i64 (n3:Int)]);have al:=h_ (a7.alloc a7.size (.cells #[.int .i64 (n0:Int),.int .i64 (n1:Int),.int .i64 (n2:Int),.int .i64 (n3:Int)] 209));clear a7 Hc;go_wp2_with fail;refine(Hi.o _).mono ?_;rintro x w2 ⟨rfl,a8⟩;have cK:=Bk.below ft.o a8 (by simp);have k2:=cK.cell 2;have k3:=cK.cell 3;simp only[Vbf,List.getElem?_cons_zero,List.getElem?_cons_succ] at k2 k3;have ak:=h_ (al.o.trans (a8.mono al.o.size));clear a8 cK ft al;go_wp2;go_returns;exact⟨by first|rfl|(congr 2;rw[Vbl];simp),ak.o⟩
theorem Z67 (wd:Int) (v:List UInt8) (hv:v.length<=1099511627776) (w:World):
  Calls Tryz.prog 75 #[.int .i64 wd,.string (bs v)] w λx w'=>x=.returned (.bool (vld wd v))/\Below w.heap.size w w':=by
 have Hi:=h_ (Z1P v hv w);have ad:(bs v).size=v.length:=Z0 v;have cC:=h_ ad;unfold vld;generalize isV v=b at*;generalize bs v=S at*;clear ad;cases b with
 |false=>
  go_enter Tryz.func75,Tryz.ntmps75;go_wp2_with fail;refine(Hi.o).mono ?_;rintro x w1 ⟨rfl,a7⟩;go_wp2;go_returns;exact⟨rfl,a7⟩
 |true=>
  go_enter Tryz.func75,Tryz.ntmps75;go_wp2_with fail;refine(Hi.o).mono ?_;rintro x w1 ⟨rfl,a7⟩;go_wp2;go_returns;rw[cC.o];exact⟨by first|rfl|(congr 2;rw[Vbl];simp),a7⟩
end Go.Proofs.YtchokmkfobandaaGreatDoor
namespace Wv
open Go Go.RowKit
def ByR (w:World) (g:Nat) (e:TypeId) (R:List UInt8):Prop:=∃cs fz sp,w.heap[g]? =some (.cells cs e fz)/\cs.toList=R.map bv++sp/\R.length<=fz.1
theorem ByR.lt {w:World} {g:Nat} {e:TypeId} {R:List UInt8} (h:ByR w g e R):g<w.heap.size:=by
 obtain⟨cs,fz,sp,h1,_,_⟩:=h;exact(Array.getElem?_eq_some_iff.1 h1).1
theorem ByR.cell {w:World} {g:Nat} {e:TypeId} {R:List UInt8} (h:ByR w g e R) (i:Nat) (hi:i<R.length):w.cell? ⟨g,i,none⟩=some (bv R[i])/\w.frozen? ⟨g,i,none⟩=false:=by
 obtain⟨cs,fz,sp,h1,h2,h3⟩:=h;constructor
 ·simp only[World.cell?,h1];rw[<-Array.getElem?_toList,h2,List.getElem?_append_left (by rw[Vag];exact hi),Vbc,Vao hi];rfl
 ·simp only[World.frozen?,h1];simp;omega
theorem ByR.put {w:World} {g:Nat} {e:TypeId} {R:List UInt8} (h:ByR w g e R) (i:Nat) (hi:i<R.length) (x:UInt8):ByR (w.setCell ⟨g,i,none⟩ (bv x)) g e (R.set i x):=by
 obtain⟨cs,fz,sp,h1,h2,h3⟩:=h;refine⟨cs.setIfInBounds i (bv x),fz,sp,?_,?_,by rw[Vbh];exact h3⟩
 ·simp[World.setCell,Array.getElem?_modify,h1]
 ·rw[Array.toList_setIfInBounds,h2,List.set_append_left _ _ (by rw[Vag];exact hi),List.map_set]
theorem ByR.below {w w':World} {B g:Nat} {e:TypeId} {R:List UInt8} (h:ByR w g e R) (hb:Below B w w') (hg:g<B):ByR w' g e R:=by
 obtain⟨cs,fz,sp,h1,h2,h3⟩:=h;exact⟨cs,fz,sp,(hb.block g hg).trans h1,h2,h3⟩
theorem ByR.new (w:World) (e:TypeId) (s:ByteArray) (cap:Nat) (z:Nat×Nat) (hz:s.size<=z.1):ByR (w.alloc (.cells (bytesRow s cap) e z)) w.heap.size e s.data.toList:=by
 refine⟨bytesRow s cap,z,(Array.replicate (cap-s.size) (.int .u8 0)).toList,?_,?_,by rw[Array.length_toList];exact hz⟩
 ·show(w.heap.push _)[w.heap.size]? =_;simp
 ·unfold bytesRow;rw[Array.toList_append,Array.toList_map];rfl
end Wv
namespace Go.Proofs.YtchokmkfobandaaGreatDoor
open Go.RowKit Go.Proofs Wv Wv.Vi Wv.Bc
theorem ZhY (v:List UInt8) (h:isV v=true):inv v=v.map invC:=by
 unfold inv;apply List.map_congr_left;intro c hc;have:=(Zv.1 h).1 c hc;unfold invC cdK;rw[Vaf this]
theorem ZeT (v:List UInt8) (hv:v.length<=1099511627776) (w:World):
  Calls Tryz.prog 296 #[.string (bs v),.func (.func 297) #[] #[]] w λx w'=>x=.returned (.string (bs (v.map invC)))/\Below w.heap.size w w':=by
 have eH:=run_bytes_of_string (P:=Tryz.prog) w 9 115 5 (bs v) Tryz.underlying9 Tryz.underlying115 Tryz.underlying5;have ad:(bs v).size=v.length:=Z0 v;have dt:=ByR.new w.drew 5 (bs v) (grownCap w (bs v).size 0 5) ((bytesRow (bs v) (grownCap w (bs v).size 0 5)).size,(bytesRow (bs v) (grownCap w (bs v).size 0 5)).size+1) (by unfold bytesRow;simp);have aD:=h_ (((Vae w.heap.size w).drew).alloc UZz (.cells (bytesRow (bs v) (grownCap w (bs v).size 0 5)) 5 ((bytesRow (bs v) (grownCap w (bs v).size 0 5)).size,(bytesRow (bs v) (grownCap w (bs v).size 0 5)).size+1)));have gb:(bs v).data.toList=v:=rfl;rw[gb] at dt;have Fx:=h_ (show ByR _ w.heap.size 5 v from dt);have nt:=h_ (λc W=>Z66 c W);obtain⟨n,hn⟩:∃n,v.length=n:=⟨_,rfl⟩;obtain⟨cap,fN⟩:∃c,grownCap w (bs v).size 0 5=c:=⟨_,rfl⟩;rw[fN] at eH aD Fx
 have oL:n<=cap:=by
  have:=grownCap_ge w (bs v).size 0 5;rw[fN] at this;omega
 generalize w.drew.alloc (.cells (bytesRow (bs v) cap) 5 ((bytesRow (bs v) cap).size,(bytesRow (bs v) cap).size+1))=W0 at*;rw[ad,hn] at eH;rw[hn] at hv;have Hn:=h_ hn;obtain⟨S,hS⟩:∃S,bs v=S:=⟨_,rfl⟩;rw[hS] at eH⊢;clear ad dt gb fN hn hS;go_enter Tryz.func296,Tryz.ntmps296;go_wp2;go_loopw [12] (λmi wr=>∃i:Nat,i<=n/\mi=.int .i64 (i:Int)/\Hid (ByR wr w.heap.size 5 ((v.take i).map invC++v.drop i))/\Hid (Below w.heap.size w wr)) (λmi _=>(n-intOf mi).toNat);case atStart=>exact⟨0,Var _,rfl,Fx,aD⟩
 case round=>
  clear Fx aD eH;obtain⟨i,hi,rfl,dt,hb⟩:=hrel;by_cases ab:i<n
  ·have aX:i<v.length:=(by rw[Hn.o];exact ab);have ax:v.take (i+1)=v.take i++[v[i]]:=Vac aX;have jL:v.drop i=v[i]::v.drop (i+1):=Va4 aX;have eS:((v.take i).map invC).length=i:=(by rw[Vag,Vau];omega);obtain⟨c,hc⟩:∃c,v[i]=c:=⟨_,rfl⟩;rw[hc] at ax jL;have uT:i<((v.take i).map invC++v.drop i).length:=(by rw[Vab,eS,Va2];omega);obtain⟨h1,h2⟩:=dt.o.cell i uT
   have Dt:((v.take i).map invC++v.drop i)[i]=c:=by
    rw[Vc4 (by omega)];simp only[eS,Va7];rw[Vcw];simpa using hc
   rw[Dt] at h1;have KY:wr.cell? ⟨w.heap.size,i,none⟩=some (.int .u8 (c.toNat:Int)):=h1;have aj:=dt.o.put i uT (invC c)
   have dE:((v.take i).map invC++v.drop i).set i (invC c)=(v.take (i+1)).map invC++v.drop (i+1):=by
    rw[Va8 _ _ (by omega),eS,Va7,jL,List.set_cons_zero,ax,Vbk];simp
   rw[dE] at aj;have az:=h_ aj;have Hi:=h_ (nt.o c wr);have jK:=h_ (hb.o.setCell (p:=⟨w.heap.size,i,none⟩) UZz (bv (invC c)));have dw:(i:Int)<(n:Int):=(by omega);have tG:(0:Int)<=(i:Int):=(by omega);clear aX ax jL eS hc uT h1 Dt aj dE dt hb;unfold bv at az jK;go_wp2_with fail;refine(Hi.o).mono ?_;rintro x w1 ⟨rfl,rfl⟩;go_wp2;refine⟨⟨i+1,ab,by go_num,az,jK⟩,?_⟩;simp[intOf]<;>omega
  ·have aO:i=n:=(by omega);subst aO;have ax:v.take i=v:=Vai (by rw[Hn.o];exact UZz);have jL:v.drop i=[]:=Vbb (by rw[Hn.o];exact UZz);have uU:=dt.o;rw[ax,jL,Va3] at uU;have eS:(v.map invC).length=i:=(by rw[Vag,Hn.o])
   have jb:=run_convert_bytes_back (P:=Tryz.prog) wr 115 9 5 ⟨w.heap.size,0,none⟩ cap (v.map invC) Tryz.underlying115 Tryz.underlying5 Tryz.underlying9 (λj hj=>by
    have:=(uU.cell j hj).1;rw[Go.WideShapes.add_plain,Vbo];exact this)
   rw[eS] at jb;have iu:(⟨(v.map invC).toArray⟩:ByteArray)=bs (v.map invC):=rfl;rw[iu] at jb;obtain⟨SR,pf⟩:∃s,bs (v.map invC)=s:=⟨_,rfl⟩;rw[pf] at jb;have zl:=h_ pf;clear ax jL uU eS dt iu pf;go_wp2;go_returns;exact⟨by rw[zl.o];rfl,hb.o⟩
theorem ZeU (v:List UInt8) (hv:v.length<=1099511627776) (w:World):
  Calls Tryz.prog 248 #[.string (bs v)] w λx w'=>x=.returned (.string (bs (if isV v=true then inv v else[])))/\Below w.heap.size w w':=by
 have Hi:=h_ (Z1P v hv w);have He:=h_ (λW=>ZeT v hv W);cases h:isV v with
 |false=>
  rw[h] at Hi;rw[Vad (by simp)];generalize bs v=S at*;go_enter Tryz.func248,Tryz.ntmps248;go_wp2_with fail;refine(Hi.o).mono ?_;rintro x w1 ⟨rfl,a7⟩;go_wp2;go_returns;exact⟨rfl,a7⟩
 |true=>
  rw[h] at Hi;rw[Vaf rfl,ZhY v h];generalize bs (v.map invC)=SR at*;generalize bs v=S at*;go_enter Tryz.func248,Tryz.ntmps248;go_wp2_with fail;refine(Hi.o).mono ?_;rintro x w1 ⟨rfl,a7⟩;go_wp2_with fail;refine(He.o _).mono ?_;rintro x w2 ⟨rfl,a8⟩;have hb:=a7.trans (a8.mono a7.size);go_wp2;go_returns;exact⟨rfl,hb⟩
theorem Zx (w:World) (o:Obj):Below w.heap.size w (w.alloc o):=(Vae w.heap.size w).alloc UZz o
theorem Z8J (w:World) (g n:Nat) (hn:n<=128):(Instr.sliceAt 333 (.pointer (some ⟨g,0,none⟩)) none (some (.int .i64 (n:Int))) none).run Tryz.prog w=.ok (.slice (some ⟨g,0,none⟩) n 128) w:=by
 have h1:Tryz.prog.arrayLen 333=128:=(by kernel_rfl);have h2:Tryz.prog.underlying 333=some (.array (Tryz.prog.arrayLen 333) (Tryz.prog.elem 333)):=(by kernel_rfl);have h3:∀w,(sizeOf (Tryz.prog.elem 333)).run Tryz.prog w=.ok 1 w:=λw=>(by kernel_rfl);rw[run_sliceAt_array_h w _ ⟨g,0,none⟩ h2 .i64 (n:Int) (by omega) (by rw[h1];omega),h3,h1];unfold slicedAt;simp[Result.andThen,Addr.add]
theorem cd2 {c:UInt8} (h:cd c<2):c.toNat=48+cd c:=by
 rcases Z1d c with ⟨rfl,h1⟩|⟨rfl,h1⟩|⟨_,h1⟩|⟨_,h1⟩|⟨_,_,_,_,h1⟩
 ·rfl
 ·rfl
 all_goals omega
theorem ZhZ {a b:List UInt8} {k:Nat} (c:Nat) (ha:k<a.length) (hb:k<b.length):sm (a.drop k) (b.drop k) c=(UInt8.ofNat (48+(cd a[k]+cd b[k]+(sm (a.drop (k+1)) (b.drop (k+1)) c).2) % 2)::(sm (a.drop (k+1)) (b.drop (k+1)) c).1,(cd a[k]+cd b[k]+(sm (a.drop (k+1)) (b.drop (k+1)) c).2)/2):=by
 rw[Va4 ha,Va4 hb];rfl
theorem Z7w (c:Nat) (hc:c<=1):∀(a b:List UInt8),(∀x∈a,cd x<2)->(∀x∈b,cd x<2)->(sm a b c).2<=1
 |[],_,_,_=>by simpa [sm] using hc
 |_::_,[],_,_=>by simpa [sm] using hc
 |x::a,y::b,h1,h2=>by
  have h3:=Z7w c hc a b (λz hz=>h1 z (Vat _ hz)) (λz hz=>h2 z (Vat _ hz));have h4:=h1 x Vap;have h5:=h2 y Vap;show(cd x+cd y+(sm a b c).2)/2<=1;omega
def smA (n k:Nat) (ds:List UInt8):Array Value:=((List.replicate k 0++ds++List.replicate (128-n) 0).map bv).toArray
theorem Zbi (a b:List UInt8) (c:Nat) (hc:c<=1) (ha:knV a=true) (hb:knV b=true) (hl:a.length=b.length) (w:World):
  Calls Tryz.prog 246 #[.string (bs a),.string (bs b),.int .u8 (c:Int)] w λx w'=>x=.returned (.string (bs (sm a b c).1))/\Below w.heap.size w w':=by
 obtain⟨a1,a2,a3⟩:=Yq.1 ha;obtain⟨b1,b2,b3⟩:=Yq.1 hb;have dO:(bs a).size=a.length:=Z0 a;have fH:(bs b).size=b.length:=Z0 b;have mQ:Hid (∀(i:Nat) (h:i<a.length) (h2:i<(bs a).size),(bs a)[i]'h2=a[i]'h):=h_ (λi h h2=>Z0c a i h h2);have oS:Hid (∀(i:Nat) (h:i<b.length) (h2:i<(bs b).size),(bs b)[i]'h2=b[i]'h):=h_ (λi h h2=>Z0c b i h h2);obtain⟨n,hn⟩:∃n,a.length=n:=⟨_,rfl⟩;have rS:b.length=n:=(by omega);rw[hn] at dO a3;rw[rS] at fH;have cg:=h_ (Bk.new w 333 (Array.replicate 128 (.int .u8 0)));have aD:=h_ (Zx w (.cells (Array.replicate 128 (.int .u8 0)) 333))
 have eI:Array.replicate 128 (.int .u8 0:Value)=smA n n (sm (a.drop n) (b.drop n) c).1:=by
  have e1:a.drop n=[]:=Vbb (by omega);rw[e1];show _=((List.replicate n (0:UInt8)++[]++List.replicate (128-n) (0:UInt8)).map bv).toArray;rw[Va3,List.replicate_append_replicate,show n+(128-n)=128 by omega,List.map_replicate];rfl
 have aS:=h_ eI
 have bP:(sm (a.drop n) (b.drop n) c).2=c:=by
  have e1:a.drop n=[]:=Vbb (by omega);rw[e1];rfl
 have iR:=h_ bP;have uV:=h_ (λk=>Z7w c hc (a.drop k) (b.drop k) (λx hx=>a1 x (List.mem_of_mem_drop hx)) (λx hx=>b1 x (List.mem_of_mem_drop hx)));have uW:=h_ (λk (h1:k<a.length) (h2:k<b.length)=>ZhZ c h1 h2);have r8:=h_ a1;have al:=h_ b1;have Hn:=h_ hn;have Fy:=h_ rS;have zm:(sm a b c).1.length=n:=(by rw[Z7g a b c hl,hn]);have zn:=h_ zm;obtain⟨SA,zo⟩:∃s,bs a=s:=⟨_,rfl⟩;obtain⟨SB,rT⟩:∃s,bs b=s:=⟨_,rfl⟩;rw[zo] at dO mQ⊢;rw[rT] at fH oS⊢;have xV:=h_ dO;have Fz:=h_ fH;clear eI bP a1 b1 hn rS zo rT dO fH ha hb hl a2 b2 b3 zm;have KZ:SA.size<=128:=(by rw[xV.o];exact a3);go_enter Tryz.func246,Tryz.ntmps246;go_wp2;rw[xV.o];go_loopw [2,8] (λs2 s8 wr=>∃k:Nat,k<=n/\s8=.int .i64 ((k:Int)-1)/\s2=.int .u8 (((sm (a.drop k) (b.drop k) c).2:Nat):Int)/\Hid (Bk wr w.heap.size 333 (smA n k (sm (a.drop k) (b.drop k) c).1))/\Hid (Below w.heap.size w wr)) (λ_ s8 _=>(intOf s8+1).toNat);case atStart=>exact⟨n,UZz,rfl,by rw[iR.o],h_ (by rw[<-aS.o];exact cg.o),aD⟩
 case round=>
  clear cg aD aS iR;obtain⟨k,hk,rfl,rfl,aF,hb⟩:=hrel;cases k with
  |succ i=>
   have tH:i<a.length:=(by rw[Hn.o];omega);have r9:i<b.length:=(by rw[Fy.o];omega);have L5:i<SA.size:=(by rw[xV.o];omega);have L6:i<SB.size:=(by rw[Fz.o];omega);have hs:=uW.o i tH r9;have tz:=uV.o (i+1);have rU:=r8.o a[i] (Vaj _);have iZ:=al.o b[i] (Vaj _);have nu:=mQ.o i tH;have iP:=oS.o i r9;obtain⟨x,hx⟩:∃x,a[i]=x:=⟨_,rfl⟩;obtain⟨y,hy⟩:∃y,b[i]=y:=⟨_,rfl⟩;rw[hx,hy] at hs;rw[hx] at rU nu;rw[hy] at iZ iP;obtain⟨⟨ds,cr⟩,hr⟩:∃r,sm (a.drop (i+1)) (b.drop (i+1)) c=r:=⟨_,rfl⟩;rw[hr] at hs tz aF;simp only at hs tz aF;have zp:∀h:i<SA.size,(SA[i]'h).toNat=48+cd x:=λh=>(by rw[nu h,cd2 rU]);have zq:∀h:i<SB.size,(SB[i]'h).toNat=48+cd y:=λh=>(by rw[iP h,cd2 iZ]);obtain⟨p,hp⟩:∃p,cd x=p:=⟨_,rfl⟩;obtain⟨q,hq⟩:∃q,cd y=q:=⟨_,rfl⟩;rw[hp] at hs rU zp;rw[hq] at hs iZ zq;have e1:((i+1:Nat):Int)-1=(i:Int):=(by omega);rw[e1,hr];have iS:(0:Int)<=(i:Int):=(by omega);have aO:(i:Int)<(n:Int):=(by omega);have L7:(i:Int)<128:=(by omega);have FA:i<128:=(by omega);have hcell:=aF.o.cell i;have fj:=aF.o.frozen i;have aj:=λu=>aF.o.put i u
   have dE:∀d:UInt8,(smA n (i+1) ds).setIfInBounds i (bv d)=smA n i (d::ds):=λd=>by
    unfold smA;rw[List.setIfInBounds_toArray,<-List.map_set];congr 2;rw[List.replicate_succ',Vay,Vay,Va8 _ _ (by rw[Vaw];exact UZz),Vaw,Va7];simp
   have dN:(smA n (i+1) ds)[i]? =some (.int .u8 0):=by
    unfold smA;rw[Vbf,Vbc,Vay,List.getElem?_append_left (by rw[Vaw];omega),List.getElem?_replicate,Vaf (by omega)];rfl
   rw[dN] at hcell;have az:=h_ (λd:UInt8=>(by rw[<-dE d];exact aj (bv d):Bk (wr.setCell ⟨w.heap.size,i,none⟩ (bv d)) w.heap.size 333 (smA n i (d::ds))));have jK:=h_ (λu:Value=>hb.o.setCell (p:=⟨w.heap.size,i,none⟩) UZz u);unfold bv at az;obtain⟨mm,jF⟩:∃m,p+q+cr=m:=⟨_,rfl⟩;rw[jF] at hs;have xW:((UInt8.ofNat (48+mm % 2)).toNat:Int)=((48+mm % 2:Nat):Int):=(by simp;omega)
   have tI:=h_ (show Bk (wr.setCell ⟨w.heap.size,i,none⟩ (.int .u8 ((48+mm % 2:Nat):Int))) w.heap.size 333 (smA n i (sm (a.drop i) (b.drop i) c).1) by
    have:=az.o (UInt8.ofNat (48+mm % 2));rw[xW] at this;rw[hs];exact this)
   have FB:=h_ (show(((sm (a.drop i) (b.drop i) c).2:Nat):Int)=((mm/2:Nat):Int) by rw[hs]);have b0:Go.bits .and .u8 0 1=0:=(by decide);have b1:Go.bits .and .u8 1 1=1:=(by decide);have b2:Go.bits .and .u8 2 1=0:=(by decide);have b3:Go.bits .and .u8 3 1=1:=(by decide);clear az xW;clear tH r9 hs nu iP hx hy hr hp hq e1 aj dE dN aF hb uW uV r8 al mQ oS;have PN:(p=0\/p=1)/\(q=0\/q=1)/\(cr=0\/cr=1):=(by omega);obtain⟨h1,h2,h3⟩:=PN;clear tz rU iZ;rcases h1 with rfl|rfl<;>rcases h2 with rfl|rfl<;>rcases h3 with rfl|rfl
   all_goals
    go_wp2;go_quiet (fail);have pg:(wr.drewN nq).cell? ⟨w.heap.size,i,none⟩=some (.int .u8 0):=hcell;have FC:(wr.drewN nq).frozen? ⟨w.heap.size,i,none⟩=false:=fj;have zr:Hid (Bk ((wr.drewN nq).setCell ⟨w.heap.size,i,none⟩ (.int .u8 ((48+mm % 2:Nat):Int))) w.heap.size 333 (smA n i (sm (a.drop i) (b.drop i) c).1)):=h_ tI.o;have FD:Hid (∀u:Value,Below w.heap.size w ((wr.drewN nq).setCell ⟨w.heap.size,i,none⟩ u)):=h_ (λu=>bdN (jK.o u) nq);clear hcell fj tI jK;generalize wr.drewN nq=W at*;subst jF;go_wp2;refine⟨⟨i,by omega,by go_num,by rw[FB.o];rfl,h_ (by exact zr.o),h_ (FD.o _)⟩,?_⟩;simp[intOf]<;>omega
  |zero=>
   have e1:((0:Nat):Int)-1= -1:=rfl;rw[e1];simp only[Vcn] at aF⊢;have hsl:=zn.o
   have hcs:∀j (hj:j<(sm a b c).1.length),wr.cell? ⟨w.heap.size,0+j,none⟩=some (.int .u8 (((sm a b c).1[j]).toNat:Int)):=λj hj=>by
    rw[Vbo,aF.o.cell j];unfold smA;rw[Vbf,Vbc,List.replicate_zero,Vbz,List.getElem?_append_left hj,Vao hj];rfl
   have jb:=run_convert_bytes_back (P:=Tryz.prog) wr 115 9 5 ⟨w.heap.size,0,none⟩ 128 (sm a b c).1 Tryz.underlying115 Tryz.underlying5 Tryz.underlying9 (λj hj=>by
    rw[Go.WideShapes.add_plain];exact hcs j hj)
   rw[hsl] at jb;have iu:(⟨((sm a b c).1).toArray⟩:ByteArray)=bs (sm a b c).1:=rfl;rw[iu] at jb;obtain⟨SR,pf⟩:∃s,bs (sm a b c).1=s:=⟨_,rfl⟩;rw[pf] at jb;have zl:=h_ pf;have mR:(0:Int)<=(n:Int):=(by omega);have fI:(n:Int)<=128:=(by omega);generalize (sm a b c).2=c2 at*;clear hsl hcs iu pf aF uW uV r8 al mQ oS zn e1;have PO:=Z8J wr w.heap.size n (by omega);have PP:(SA.size:Int)=(n:Int):=(by rw[xV.o]);go_wp2;go_returns;exact⟨by rw[zl.o];rfl,hb.o⟩
theorem ZeV (a b:List UInt8) (ha:a.length<=1099511627776) (hb:b.length<=1099511627776) (w:World):
  Calls Tryz.prog 207 #[.string (bs a),.string (bs b)] w λx w'=>x=.returned (.tuple #[.string (bs (addV a b).1),.bool (addV a b).2])/\Below w.heap.size w w':=by
 have Ha:=h_ (Z7v a ha w);have Hb:=h_ (λW=>Z7v b hb W);have dO:(bs a).size=a.length:=Z0 a;have fH:(bs b).size=b.length:=Z0 b;have he:bs ([]:List UInt8)=⟨#[]⟩:=rfl;unfold addV;cases fe:knV a with
 |false=>
  rw[fe] at Ha;rw[Vad (by simp)];simp only[he];clear dO fH he;generalize bs a=SA at*;generalize bs b=SB at*;go_enter Tryz.func207,Tryz.ntmps207;go_wp2_with fail;refine(Ha.o).mono ?_;rintro x w1 ⟨rfl,a7⟩;go_wp2;go_returns;exact⟨rfl,a7⟩
 |true=>
  cases dd:knV b with
  |false=>
   rw[fe] at Ha;rw[dd] at Hb;rw[Vad (by simp)];simp only[he];clear dO fH he;generalize bs a=SA at*;generalize bs b=SB at*;go_enter Tryz.func207,Tryz.ntmps207;go_wp2_with fail;refine(Ha.o).mono ?_;rintro x w1 ⟨rfl,a7⟩;go_wp2_with fail;refine(Hb.o _).mono ?_;rintro x w2 ⟨rfl,a8⟩;have aW:=a7.trans (a8.mono a7.size);go_wp2;go_returns;exact⟨rfl,aW⟩
  |true=>
   rw[fe] at Ha;rw[dd] at Hb;by_cases hl:a.length=b.length
   ·have Hs:=h_ (λW=>Zbi a b 0 (by omega) fe dd hl W);rw[Vaf ⟨rfl,rfl,hl⟩];have ay:(((bs a).size:Int) !=((bs b).size:Int))=false:=(by rw[dO,fH,hl];exact Vca _);have PQ:=Hs;simp only;generalize bs (sm a b 0).1=SR at*;clear dO fH he fe dd hl PQ;generalize bs a=SA at*;generalize bs b=SB at*;go_enter Tryz.func207,Tryz.ntmps207;go_wp2_with fail;refine(Ha.o).mono ?_;rintro x w1 ⟨rfl,a7⟩;go_wp2_with fail;refine(Hb.o _).mono ?_;rintro x w2 ⟨rfl,a8⟩;have aW:=a7.trans (a8.mono a7.size);clear a7 a8;go_wp2_with fail;refine(Hs.o _).mono ?_;rintro x w3 ⟨rfl,af⟩;have oe:=aW.trans (af.mono aW.size);clear aW af;go_wp2;go_returns;exact⟨rfl,oe⟩
   ·rw[Vad (λh=>hl h.2.2)];have ay:(((bs a).size:Int) !=((bs b).size:Int))=true:=(by rw[dO,fH,Va1];omega);simp only[he];clear dO fH he fe dd hl;generalize bs a=SA at*;generalize bs b=SB at*;go_enter Tryz.func207,Tryz.ntmps207;go_wp2_with fail;refine(Ha.o).mono ?_;rintro x w1 ⟨rfl,a7⟩;go_wp2_with fail;refine(Hb.o _).mono ?_;rintro x w2 ⟨rfl,a8⟩;have aW:=a7.trans (a8.mono a7.size);go_wp2;go_returns;exact⟨rfl,aW⟩
theorem Zbj {v:List UInt8} (h:knV v=true):knV (inv v)=true/\(inv v).length=v.length:=by
 obtain⟨a1,a2,a3⟩:=Yq.1 h;have hl:(inv v).length=v.length:=(by unfold inv;rw[Vag]);refine⟨Yq.2 ⟨λc hc=> ?_,λe=> ?_,by omega⟩,hl⟩
 ·unfold inv at hc;obtain⟨d,hd,rfl⟩:=Va6.1 hc;have:=a1 d hd;rw[Vaf this,ZhH _ (by omega)];omega
 ·rw[e] at hl;exact a2 (Vak hl.symm)
theorem ZeW (a b:List UInt8) (ha:a.length<=1099511627776) (hb:b.length<=1099511627776) (w:World):
  Calls Tryz.prog 210 #[.string (bs a),.string (bs b)] w λx w'=>x=.returned (.tuple #[.string (bs (difV a b).1),.bool (difV a b).2])/\Below w.heap.size w w':=by
 have Ha:=h_ (Z7v a ha w);have Hb:=h_ (λW=>Z7v b hb W);have dO:(bs a).size=a.length:=Z0 a;have fH:(bs b).size=b.length:=Z0 b;have he:bs ([]:List UInt8)=⟨#[]⟩:=rfl;unfold difV;cases fe:knV a with
 |false=>
  rw[fe] at Ha;rw[Vad (by simp)];simp only[he];clear dO fH he;generalize bs a=SA at*;generalize bs b=SB at*;go_enter Tryz.func210,Tryz.ntmps210;go_wp2_with fail;refine(Ha.o).mono ?_;rintro x w1 ⟨rfl,a7⟩;go_wp2;go_returns;exact⟨rfl,a7⟩
 |true=>
  cases dd:knV b with
  |false=>
   rw[fe] at Ha;rw[dd] at Hb;rw[Vad (by simp)];simp only[he];clear dO fH he;generalize bs a=SA at*;generalize bs b=SB at*;go_enter Tryz.func210,Tryz.ntmps210;go_wp2_with fail;refine(Ha.o).mono ?_;rintro x w1 ⟨rfl,a7⟩;go_wp2_with fail;refine(Hb.o _).mono ?_;rintro x w2 ⟨rfl,a8⟩;have aW:=a7.trans (a8.mono a7.size);go_wp2;go_returns;exact⟨rfl,aW⟩
  |true=>
   rw[fe] at Ha;rw[dd] at Hb;by_cases hl:a.length=b.length
   ·obtain⟨k1,k2⟩:=Zbj fe;have Hs:=h_ (λW=>Zbi b (inv a) 1 (by omega) dd k1 (by omega) W);have Hi:=h_ (λW=>ZeU a ha W);rw[Vaf (Z3x fe)] at Hi;rw[Vaf ⟨rfl,rfl,hl⟩];have ay:(((bs a).size:Int) !=((bs b).size:Int))=false:=(by rw[dO,fH,hl];exact Vca _);simp only;generalize bs (sm b (inv a) 1).1=SR at*;generalize bs (inv a)=SI at*;clear dO fH he fe dd hl k1 k2;generalize bs a=SA at*;generalize bs b=SB at*;go_enter Tryz.func210,Tryz.ntmps210;go_wp2_with fail;refine(Ha.o).mono ?_;rintro x w1 ⟨rfl,a7⟩;go_wp2_with fail;refine(Hb.o _).mono ?_;rintro x w2 ⟨rfl,a8⟩;have aW:=a7.trans (a8.mono a7.size);clear a7 a8;go_wp2_with fail;refine(Hi.o _).mono ?_;rintro x w3 ⟨rfl,af⟩;have oe:=aW.trans (af.mono aW.size);clear aW af;go_wp2_with fail;refine(Hs.o _).mono ?_;rintro x w4 ⟨rfl,au⟩;have uX:=oe.trans (au.mono oe.size);clear oe au;go_wp2;go_returns;exact⟨rfl,uX⟩
   ·rw[Vad (λh=>hl h.2.2)];have ay:(((bs a).size:Int) !=((bs b).size:Int))=true:=(by rw[dO,fH,Va1];omega);simp only[he];clear dO fH he fe dd hl;generalize bs a=SA at*;generalize bs b=SB at*;go_enter Tryz.func210,Tryz.ntmps210;go_wp2_with fail;refine(Ha.o).mono ?_;rintro x w1 ⟨rfl,a7⟩;go_wp2_with fail;refine(Hb.o _).mono ?_;rintro x w2 ⟨rfl,a8⟩;have aW:=a7.trans (a8.mono a7.size);go_wp2;go_returns;exact⟨rfl,aW⟩
theorem Z4N (a b:UInt8):((a.toNat:Int)==(b.toNat:Int))=decide (a=b):=by
 rw[Vbl,beq_iff_eq,Vaq];exact⟨λh=>UInt8.toNat_inj.1 (by omega),λh=>by rw[h]⟩
theorem Z2M (v:List UInt8) (hv:v.length<=1099511627776) (w:World):
  Calls Tryz.prog 97 #[.string (bs v)] w λx w'=>x=.returned (.string (bs (shr v)))/\Below w.heap.size w w':=by
 have Hi:=h_ (Z1P v hv w);have he:bs ([]:List UInt8)=⟨#[]⟩:=rfl;unfold shr;cases h:isV v with
 |false=>
  rw[h] at Hi;rw[Vad (by simp),he];clear he;generalize bs v=S at*;go_enter Tryz.func97,Tryz.ntmps97;go_wp2_with fail;refine(Hi.o).mono ?_;rintro x w1 ⟨rfl,a7⟩;go_wp2;go_returns;exact⟨rfl,a7⟩
 |true=>
  rw[h] at Hi;rw[Vaf rfl];obtain⟨h1,h2,h3⟩:=Zv.1 h;have H2:=h_ h2;clear he h h1 h2;go_enter Tryz.func97,Tryz.ntmps97;go_wp2_with fail;refine(Hi.o).mono ?_;rintro x w1 ⟨rfl,a7⟩;have al:=h_ a7;clear a7 Hi;go_wp2
  go_loopw [0] (λs0 wr=>∃u:List UInt8,s0=.string (bs u)/\Hid (shq u=shq v)/\Hid (u≠[])/\u.length<=128/\Hid (Below w.heap.size w wr)) (λs0 _=>match s0 with
   |.string s=>s.size
   |_=>0)
  case atStart=>exact⟨v,rfl,h_ rfl,H2,h3,al⟩
  case round=>
   clear al H2;obtain⟨u,rfl,hq,ay,hl,hb⟩:=hrel;have ad:(bs u).size=u.length:=Z0 u;have hex:=Qp (bs u) 1;rw[Zd] at hex;go_upto_region 3 with fail;go_cut [30] (λPR wx=>∃q:Bool,PR=.bool q/\Hid ((q=true/\∃a b r,u=a::b::r/\a=fr b)\/(q=false/\shq u=u))/\∃k,wx=wr.drewN k)
   case first=>
    clear hex hq hb;match u,ay.o with
    |[c],_=>
     have h0:decide ((1:Int)<((bs [c]).size:Int))=false:=(by rw[ad];rfl);have h1:¬(1:Int)<((bs [c]).size:Int):=(by rw[ad];simp);generalize bs [c]=S at*;clear ad;go_quiet (fail);go_wp2;go_meet;case rel=>exact⟨false,rfl,h_ (.inr ⟨rfl,rfl⟩),_,rfl⟩
    |a::b::r,_=>
     have hlen:(bs (a::b::r)).size=r.length+2:=(by rw[ad];rfl);have g0:∀hh:0<(bs (a::b::r)).size,((bs (a::b::r))[0]'hh).toNat=a.toNat:=λhh=>(by rw[Z0c _ 0 (by simp)];rfl);have g1:∀hh:1<(bs (a::b::r)).size,((bs (a::b::r))[1]'hh).toNat=b.toNat:=λhh=>(by rw[Z0c _ 1 (by simp)];rfl);have aM:(1:Int)<((bs (a::b::r)).size:Int):=(by rw[hlen];omega);have cZ:decide ((1:Int)<((bs (a::b::r)).size:Int))=true:=Vam aM;have zt:0<(bs (a::b::r)).size:=(by omega);have FE:1<(bs (a::b::r)).size:=(by omega);have x1:=Z4N a b;have x2:=Z4N a 49;have x3:=Z4N a 48;have x4:=Z4N b 49;have y2:(((49:UInt8).toNat:Nat):Int)=49:=rfl;have y3:(((48:UInt8).toNat:Nat):Int)=48:=rfl;rw[y2] at x2 x4;rw[y3] at x3;have z2:((a.toNat:Int) !=49)= !decide (a=49):=(by rw[bne,x2]);have dB:fr b=if b=49 then 48 else b:=rfl
     have ph:=Z1I a b r;have HF:=h_ dB;have pj:=h_ ph;obtain⟨A,hA⟩:∃A,a.toNat=A:=⟨_,rfl⟩;obtain⟨B,hB⟩:∃B,b.toNat=B:=⟨_,rfl⟩;rw[hA] at g0 x1 x2 x3 z2;rw[hB] at g1 x1 x4;generalize bs (a::b::r)=S at*;clear ad hlen y2 y3 dB ph hA hB hl;by_cases c1:a=b
     ·rw[Vam c1] at x1;by_cases c2:a=49
      ·rw[Vam c2] at x2 z2;have c3:¬a=48:=(by rw[c2];decide);rw[Vah c3] at x3
       have dC:Hid (shq (a::b::r)=a::b::r):=h_ (by
        rw[pj.o,Vad];rw[HF.o,<-c1,Vaf c2,c2];decide)
       clear c1 c2 c3 HF pj x2 x4;go_quiet (fail);go_wp2;go_meet;case rel=>exact⟨false,by simp[x1,z2,x3],h_ (.inr ⟨rfl,dC.o⟩),_,rfl⟩
      ·rw[Vah c2] at x2 z2;have dP:Hid (a=fr b):=h_ (by rw[HF.o,<-c1,Vad c2]);clear c1 c2 HF pj x2 x4 x3;go_quiet (fail);go_wp2;go_meet;case rel=>exact⟨true,by simp[x1,z2],h_ (.inl ⟨rfl,a,b,r,rfl,dP.o⟩),_,rfl⟩
     ·rw[Vah c1] at x1;by_cases c2:a=48
      ·rw[Vam c2] at x3;by_cases c3:b=49
       ·rw[Vam c3] at x4;have dP:Hid (a=fr b):=h_ (by rw[HF.o,Vaf c3,c2]);clear c1 c2 c3 HF pj x2 z2;go_quiet (fail);go_wp2;go_meet;case rel=>exact⟨true,by simp[x1,x3,x4],h_ (.inl ⟨rfl,a,b,r,rfl,dP.o⟩),_,rfl⟩
       ·rw[Vah c3] at x4
        have dC:Hid (shq (a::b::r)=a::b::r):=h_ (by
         rw[pj.o,Vad];rw[HF.o,Vad c3];exact c1)
        clear c1 c2 c3 HF pj x2 z2;go_quiet (fail);go_wp2;go_meet;case rel=>exact⟨false,by simp[x1,x3,x4],h_ (.inr ⟨rfl,dC.o⟩),_,rfl⟩
      ·rw[Vah c2] at x3
       have dC:Hid (shq (a::b::r)=a::b::r):=h_ (by
        rw[pj.o,Vad];rw[HF.o];by_cases c3:b=49
        ·rw[Vaf c3];exact c2
        ·rw[Vad c3];exact c1)
       clear c1 c2 HF pj x2 z2 x4;go_quiet (fail);go_wp2;go_meet;case rel=>exact⟨false,by simp[x1,x3],h_ (.inr ⟨rfl,dC.o⟩),_,rfl⟩
   case rest=>
    obtain⟨q,rfl,FF,k,rfl⟩:=hcut;have kz:=h_ (bdN hb.o k);rcases FF.o with ⟨rfl,a,b,r,hu,ha⟩|⟨rfl,dC⟩
    ·have tJ:Hid (shq (b::r)=shq v):=h_ (by rw[<-hq.o,hu,Z1I,Vaf ha]);have jL:u.drop 1=b::r:=(by rw[hu];rfl);rw[jL] at hex;have aM:(1:Int)<=((bs u).size:Int):=(by rw[ad,hu];simp;omega);have PS:1<=(bs u).size:=(by omega);have fJ:(b::r).length<=128:=(by rw[hu] at hl;simp at hl⊢;omega);have fZ:(bs (b::r)).size<u.length:=(by rw[Z0,hu];simp);have tK:=h_ fZ;clear fZ;have PT:Hid (b::r≠[]):=h_ (by simp);clear FF hu ha jL hq ay hb ad hl;generalize bs u=S at*;go_wp2;refine⟨⟨b::r,rfl,tJ,PT,fJ,kz⟩,?_⟩;show(bs (b::r)).size<(bs u).size;rw[Z0 u];exact tK.o
    ·have fu:Hid (bs u=bs (shq v)):=h_ (by rw[<-hq.o,dC]);clear FF dC hex ad;go_wp2;go_returns;exact⟨by rw[<-fu.o];rfl,kz.o⟩
theorem Zbk (c:UInt8):∀n,Lib.repeatL [c] n=List.replicate n c
 |0=>rfl
 |n+1=>by rw[Lib.repeatL,Zbk c n,Vbg];rfl
theorem Zbl (c:UInt8) (n:Nat) (hn:n<=1099511627776) (W:World):
  Calls Tryz.prog 146 #[.string ⟨#[c]⟩,.int .i64 (n:Int)] W λe w'=>e=.returned (.string (bs (List.replicate n c)))/\Below W.heap.size W w':=by
 have h:=Tryz.strings_Repeat ⟨#[c]⟩ n W (by omega) (by rw[show(⟨#[c]⟩:ByteArray).size=1 from rfl];omega);refine h.mono ?_;rintro x w1 ⟨rfl,h2⟩;refine⟨?_,h2⟩;rw[<-Zbk];rfl
theorem Zbm (n:Int) (c:UInt8) (w:World):
  Calls Tryz.prog 95 #[.int .i64 n,.int .u8 (c.toNat:Int)] w λx w'=>x=.returned (.string (bs (allV n c)))/\Below w.heap.size w w':=by
 have Hv:=h_ (λW=>Z8I c W);have he:bs ([]:List UInt8)=⟨#[]⟩:=rfl;unfold allV;by_cases h1:n<1
 ·rw[Vaf (.inl h1),he];clear he Hv;go_enter Tryz.func95,Tryz.ntmps95;go_wp2;go_returns;exact⟨rfl,Vae _ _⟩
 ·by_cases h2:128<n
  ·rw[Vaf (.inr (.inl h2)),he];clear he Hv;go_enter Tryz.func95,Tryz.ntmps95;go_wp2;go_returns;exact⟨rfl,Vae _ _⟩
  ·cases h3:isC c with
   |false=>
    rw[Vaf (.inr (.inr rfl)),he];rw[h3] at Hv;clear he h3;generalize (c.toNat:Int)=C at*;go_enter Tryz.func95,Tryz.ntmps95;go_wp2_with fail;refine(Hv.o _).mono ?_;rintro x w1 ⟨rfl,rfl⟩;go_wp2;go_returns;exact⟨rfl,Vae _ _⟩
   |true=>
    rw[Vad (by simp[h1,h2])];rw[h3] at Hv;have eH:=Z74 (P:=Tryz.prog) 115 9 5 Tryz.underlying115 Tryz.underlying5 Tryz.underlying9 w (c.toNat:Int);have e1:UInt8.ofNat (c.toNat:Int).toNat=c:=(by simp);rw[e1] at eH;obtain⟨m,rfl⟩:∃m:Nat,n=m:=⟨n.toNat,by omega⟩;rw[Vav];have Hr:=h_ (λW=>Zbl c m (by omega) W);have aD:=Zx w (.cells #[.int .u8 (c.toNat:Int)] 5);have aP:=h_ aD;clear he h3 e1 aD;generalize (c.toNat:Int)=C at*;generalize bs (List.replicate m c)=SR at*;go_enter Tryz.func95,Tryz.ntmps95;go_wp2_with fail;refine(Hv.o _).mono ?_;rintro x w1 ⟨rfl,rfl⟩;go_wp2_with fail;refine(Hr.o _).mono ?_;rintro x w1 ⟨rfl,hb⟩;have aW:=aP.o.trans (hb.mono aP.o.size);clear hb aP Hv Hr eH;go_wp2;go_returns;exact⟨rfl,aW⟩
theorem Zi0 (n:Int) (v:List UInt8) (hv:v.length<=1099511627776) (w:World):
  Calls Tryz.prog 148 #[.int .i64 n,.string (bs v)] w λx w'=>x=.returned (.tuple #[.string (bs (ext n v).1),.int .i64 ((ext n v).2:Int)])/\Below w.heap.size w w':=by
 have he:bs ([]:List UInt8)=⟨#[]⟩:=rfl;have ad:(bs v).size=v.length:=Z0 v;have Hc:=h_ (Z1O v hv w);unfold ext;by_cases h1:n<1
 ·rw[Vaf (.inl h1)];simp only[he];clear he ad Hc;generalize bs v=S at*;go_enter Tryz.func148,Tryz.ntmps148;go_wp2;go_returns;exact⟨rfl,Vae _ _⟩
 ·by_cases h2:128<n
  ·rw[Vaf (.inr h2)];simp only[he];clear he ad Hc;generalize bs v=S at*;go_enter Tryz.func148,Tryz.ntmps148;go_wp2;go_returns;exact⟨rfl,Vae _ _⟩
  ·rw[Vad (by omega)];obtain⟨m,rfl⟩:∃m:Nat,n=m:=⟨n.toNat,by omega⟩;match v,hv with
   |[],_=>
    have cB:=Xk [];rw[Vam rfl] at cB;simp only[he] at*;unfold cnA at Hc;generalize (cn 0 []:Int)=n0 at*;generalize (cn 1 []:Int)=n1 at*;generalize (cn 2 []:Int)=n2 at*;generalize (cn 3 []:Int)=n3 at*;clear ad;go_enter Tryz.func148,Tryz.ntmps148;go_wp2_with fail;refine(Hc.o).mono ?_;rintro x w1 ⟨rfl,a7⟩;have Hb:=h_ (a7.alloc a7.size (.cells #[.int .i64 n0,.int .i64 n1,.int .i64 n2,.int .i64 n3] 209));clear a7;go_wp2;go_returns;exact⟨rfl,Hb.o⟩
   |c::t,hv=>
    have cB:=Xk (c::t);rw[Vah (by simp)] at cB;obtain⟨s1,s2,s3,s4⟩:=Zbh (c::t)
    have nv:decide ((cn 0 (c::t):Int)+(cn 1 (c::t):Int)+(cn 2 (c::t):Int)+(cn 3 (c::t):Int)=((bs (c::t)).size:Int))=(c::t).all isC:=by
     rw[Vbl,Vaq,Vbp,ad];constructor
     ·intro h x hx;have:=s2.1 (by omega) x hx;unfold isC;rw[Vaq];exact this
     ·intro h;have:=s2.2 (λx hx=>by have:=h x hx;unfold isC at this;simpa using this);omega
    have hlen:cn 0 (c::t)<=1099511627776/\cn 1 (c::t)<=1099511627776/\cn 2 (c::t)<=1099511627776/\cn 3 (c::t)<=1099511627776:=by omega
    have tL:((cn 0 (c::t):Int)+(cn 1 (c::t):Int)+(cn 2 (c::t):Int)+(cn 3 (c::t):Int) !=((bs (c::t)).size:Int))= !((c::t).all isC):=by
     rw[<-nv,bne,Bool.not_eq_eq_eq_not,Bool.not_not,Vbl,beq_iff_eq,Vaq]
    obtain⟨l0,l1,l2,l3⟩:=hlen;unfold cnA at Hc;generalize cn 0 (c::t)=n0 at*;generalize cn 1 (c::t)=n1 at*;generalize cn 2 (c::t)=n2 at*;generalize cn 3 (c::t)=n3 at*;clear s1 s2 s3 s4 nv;simp only;cases ha:(c::t).all isC with
    |false=>
     rw[Vaf rfl];rw[ha] at tL;simp only[he];clear ad;generalize bs (c::t)=S at*;go_enter Tryz.func148,Tryz.ntmps148;go_wp2_with fail;refine(Hc.o).mono ?_;rintro x w1 ⟨rfl,a7⟩;have Hb:=h_ (a7.alloc a7.size (.cells #[.int .i64 (n0:Int),.int .i64 (n1:Int),.int .i64 (n2:Int),.int .i64 (n3:Int)] 209));clear a7;go_wp2;go_returns;exact⟨rfl,Hb.o⟩
    |true=>
     rw[Vad (by simp)];rw[ha] at tL;by_cases ab:(m:Int)<((c::t).length:Int)
     ·rw[Vaf ab];rw[<-ad] at ab;simp only[he];clear ad;generalize bs (c::t)=S at*;go_enter Tryz.func148,Tryz.ntmps148;go_wp2_with fail;refine(Hc.o).mono ?_;rintro x w1 ⟨rfl,a7⟩;have Hb:=h_ (a7.alloc a7.size (.cells #[.int .i64 (n0:Int),.int .i64 (n1:Int),.int .i64 (n2:Int),.int .i64 (n3:Int)] 209));clear a7;go_wp2;go_returns;exact⟨rfl,Hb.o⟩
     ·rw[Vad ab];have gb:(m:Int)-((bs (c::t)).size:Int)=((m-(c::t).length:Nat):Int):=(by rw[ad];omega);have bS:¬(m:Int)<((bs (c::t)).size:Int):=(by rw[ad];exact ab);have cG:0<(bs (c::t)).size:=(by rw[ad];simp);have bu:∀h:0<(bs (c::t)).size,((bs (c::t))[0]'h).toNat=c.toNat:=λh=>(by rw[Z0c _ 0 (by simp)];rfl);have pb:bs (List.replicate (m-(c::t).length) (fr c))++bs (c::t)=bs (List.replicate (m-(c::t).length) (fr c)++(c::t)):=Zf _ _;have uY:=h_ pb;obtain⟨d,hd⟩:∃d,m-(c::t).length=d:=⟨_,rfl⟩;have og:d<=128:=(by omega);have eJ:(m:Int)<=128:=(by omega);simp only[Vav];rw[hd] at gb uY⊢;have Hr:=h_ (λW=>Zbl (fr c) d (by omega) W);have pn:Hid ((bs (List.replicate d (fr c))).size+(bs (c::t)).size<=128):=h_ (by rw[Z0,Z0,Vaw];omega);have e1:UInt8.ofNat ((fr c).toNat:Int).toNat=fr c:=(by simp);have eH:=λW=>Z74 (P:=Tryz.prog) 115 9 5 Tryz.underlying115 Tryz.underlying5 Tryz.underlying9 W ((fr c).toNat:Int);rw[e1] at eH
      have hf:((fr c).toNat:Int)=if c=49 then 48 else(c.toNat:Int):=by
       unfold fr;by_cases h:c=49
       ·rw[Vaf h,Vaf h];rfl
       ·rw[Vad h,Vad h]
      have hq:=Z4N c 49;rw[show(((49:UInt8).toNat:Nat):Int)=49 from rfl] at hq;rw[<-uY.o];obtain⟨A,hA⟩:∃A,c.toNat=A:=⟨_,rfl⟩;rw[hA] at bu hf hq;obtain⟨F,hF⟩:∃F,((fr c).toNat:Int)=F:=⟨_,rfl⟩;rw[hF] at hf eH;generalize bs (List.replicate d (fr c))=SR at*;generalize fr c=f at*;clear uY hd ad he pb ha e1 hA hF ab;generalize bs (c::t)=S at*;have FG:SR.size+S.size<=128:=pn.o;by_cases rV:c=49
      ·rw[Vaf rV] at hf;rw[Vam rV] at hq;subst hf;clear rV;go_enter Tryz.func148,Tryz.ntmps148;go_wp2_with fail;refine(Hc.o).mono ?_;rintro x w1 ⟨rfl,a7⟩;have Hb:=h_ (a7.alloc a7.size (.cells #[.int .i64 (n0:Int),.int .i64 (n1:Int),.int .i64 (n2:Int),.int .i64 (n3:Int)] 209));have ak:=h_ (Hb.o.alloc Hb.o.size (.cells #[.int .u8 48] 5));have xX:=eH (w1.alloc (.cells #[.int .i64 (n0:Int),.int .i64 (n1:Int),.int .i64 (n2:Int),.int .i64 (n3:Int)] 209));rw[World.size_alloc] at xX;clear a7 eH Hb;go_wp2_with fail;refine(Hr.o _).mono ?_;rintro x w2 ⟨rfl,a8⟩;have aW:=ak.o.trans (a8.mono ak.o.size);clear a8 ak Hr xX Hc;go_wp2;go_returns;exact⟨rfl,aW⟩
      ·rw[Vad rV] at hf;rw[Vah rV] at hq;subst hf;clear rV;go_enter Tryz.func148,Tryz.ntmps148;go_wp2_with fail;refine(Hc.o).mono ?_;rintro x w1 ⟨rfl,a7⟩;have Hb:=h_ (a7.alloc a7.size (.cells #[.int .i64 (n0:Int),.int .i64 (n1:Int),.int .i64 (n2:Int),.int .i64 (n3:Int)] 209));have ak:=h_ (Hb.o.alloc Hb.o.size (.cells #[.int .u8 (A:Int)] 5));have xX:=eH (w1.alloc (.cells #[.int .i64 (n0:Int),.int .i64 (n1:Int),.int .i64 (n2:Int),.int .i64 (n3:Int)] 209));rw[World.size_alloc] at xX;clear a7 eH Hb;go_wp2_with fail;refine(Hr.o _).mono ?_;rintro x w2 ⟨rfl,a8⟩;have aW:=ak.o.trans (a8.mono ak.o.size);clear a8 ak Hr xX Hc;go_wp2;go_returns;exact⟨rfl,aW⟩
theorem ZeX {p q:Nat} (hp:p<4) (hq:q<4):Go.bits .xor .i64 (p:Int) (q:Int)=((p ^^^ q:Nat):Int):=by
 rcases(show p=0\/p=1\/p=2\/p=3 by omega) with rfl|rfl|rfl|rfl<;>rcases(show q=0\/q=1\/q=2\/q=3 by omega) with rfl|rfl|rfl|rfl<;>decide
theorem Zbn {c:UInt8} (h:cd c<4):cdI c=(cd c:Int):=by unfold cdI;rw[Vaf h]
def mxA (a b:List UInt8) (i:Nat):List UInt8:=List.zipWith mx (a.take i) (b.take i)++List.replicate (a.length-i) 0
theorem Zi1 (a b:List UInt8) (hl:a.length=b.length) (i:Nat) (hi:i<=a.length):(mxA a b i).length=a.length:=by
 unfold mxA;rw[Vab,Vb9,Vau,Vau,Vaw];omega
theorem Zi2 (a b:List UInt8) (hl:a.length=b.length) (i:Nat) (ha:i<a.length) (hb:i<b.length):(mxA a b i).set i (mx a[i] b[i])=mxA a b (i+1):=by
 have hz:(List.zipWith mx (a.take i) (b.take i)).length=i:=by
  rw[Vb9,Vau,Vau];omega
 unfold mxA
 rw[Va8 _ _ (by omega),hz,Va7,Vac ha,Vac hb,
  List.zipWith_append (by rw[Vau,Vau];omega),show a.length-i=(a.length-(i+1))+1 by omega,Vbg,List.set_cons_zero]
 simp
theorem ZeY (a b:List UInt8) (kC:a.length<=1099511627776) (cF:b.length<=1099511627776) (w:World):
  Calls Tryz.prog 170 #[.string (bs a),.string (bs b)] w λx w'=>x=.returned (.tuple #[.string (bs (mixV a b).1),.int .i64 ((mixV a b).2:Int)])/\Below w.heap.size w w':=by
 have Ha:=h_ (Z1P a kC w);have Hb:=h_ (λW=>Z1P b cF W);have dO:(bs a).size=a.length:=Z0 a;have fH:(bs b).size=b.length:=Z0 b;have he:bs ([]:List UInt8)=⟨#[]⟩:=rfl;unfold mixV;cases fe:isV a with
 |false=>
  rw[fe] at Ha;rw[Vaf (.inl rfl)];simp only[he];clear dO fH he;generalize bs a=SA at*;generalize bs b=SB at*;go_enter Tryz.func170,Tryz.ntmps170;go_wp2_with fail;refine(Ha.o).mono ?_;rintro x w1 ⟨rfl,a7⟩;go_wp2;go_returns;exact⟨rfl,a7⟩
 |true=>
  cases dd:isV b with
  |false=>
   rw[fe] at Ha;rw[dd] at Hb;rw[Vaf (.inr rfl)];simp only[he];clear dO fH he;generalize bs a=SA at*;generalize bs b=SB at*;go_enter Tryz.func170,Tryz.ntmps170;go_wp2_with fail;refine(Ha.o).mono ?_;rintro x w1 ⟨rfl,a7⟩;go_wp2_with fail;refine(Hb.o _).mono ?_;rintro x w2 ⟨rfl,a8⟩;have aW:=a7.trans (a8.mono a7.size);go_wp2;go_returns;exact⟨rfl,aW⟩
  |true=>
   rw[fe] at Ha;rw[dd] at Hb;rw[Vad (by simp)];by_cases hl:a.length=b.length
   ·rw[Vad (by simp[hl])];simp only;have ay:(((bs a).size:Int) !=((bs b).size:Int))=false:=(by rw[dO,fH,hl];exact Vca _);obtain⟨a1,a2,a3⟩:=Zv.1 fe;obtain⟨b1,b2,b3⟩:=Zv.1 dd;have mQ:Hid (∀(i:Nat) (h:i<a.length) (h2:i<(bs a).size),(bs a)[i]'h2=a[i]'h):=h_ (λi h h2=>Z0c a i h h2);have oS:Hid (∀(i:Nat) (h:i<b.length) (h2:i<(bs b).size),(bs b)[i]'h2=b[i]'h):=h_ (λi h h2=>Z0c b i h h2);obtain⟨n,hn⟩:∃n,a.length=n:=⟨_,rfl⟩;have rS:b.length=n:=(by omega);have bG:=λW=>Yi (P:=Tryz.prog) 115 5 (.int .u8 0) 1 Tryz.underlying115 (by kernel_rfl) rfl ((bs a).size:Int) n (by rw[dO,hn]) (by omega) (by omega) W
    have aT:(Array.replicate n (.int .u8 0:Value))=((mxA a b 0).map bv).toArray:=by
     unfold mxA;rw[Vbw,List.zipWith_nil_left,Vbz,Nat.sub_zero,List.map_replicate,hn];rfl
    have aS:=h_ aT;have av:=h_ (λi (hi:i<=n)=>(show(mxA a b i).length=n by rw[Zi1 a b hl i (by omega),hn]));have aZ:=h_ (λi (h1:i<a.length) (h2:i<b.length)=>Zi2 a b hl i h1 h2)
    have dX:Hid (mxA a b n=List.zipWith mx a b):=h_ (by
     unfold mxA;rw[Vai (by omega),Vai (by omega),hn,Va7,List.replicate_zero,Va3])
    have r8:=h_ a1;have al:=h_ b1;have Hn:=h_ hn;have Fy:=h_ rS;rw[hn] at dO;rw[rS] at fH;obtain⟨SA,zo⟩:∃s,bs a=s:=⟨_,rfl⟩;obtain⟨SB,rT⟩:∃s,bs b=s:=⟨_,rfl⟩;rw[zo] at dO ay bG mQ Ha⊢;rw[rT] at fH ay oS Hb⊢;rw[hn] at a3;have xV:=h_ dO;have Fz:=h_ fH;clear aT a1 b1 hn rS zo rT dO fH kC cF a2 b2 b3 he fe dd hl;go_enter Tryz.func170,Tryz.ntmps170;go_wp2_with fail;refine(Ha.o).mono ?_;rintro x w1 ⟨rfl,a7⟩;go_wp2_with fail;refine(Hb.o _).mono ?_;rintro x w2 ⟨rfl,a8⟩;have aW:=a7.trans (a8.mono a7.size);have pa:=bG w2;have cg:=Bk.new w2 5 (Array.replicate n (.int .u8 0));rw[aS.o] at cg;have dF:=h_ cg;have aD:=h_ (aW.alloc aW.size (.cells (Array.replicate n (.int .u8 0)) 5));have hG:=aW.size;obtain⟨G,L8⟩:∃G,w2.heap.size=G:=⟨_,rfl⟩;rw[L8] at pa hG dF;rw[<-aS.o] at dF;generalize w2.alloc (.cells (Array.replicate n (.int .u8 0)) 5)=W0 at*;clear bG Ha Hb a7 a8 aW cg L8;rw[aS.o] at dF;go_wp2;go_loopw [26] (λuZ wr=>∃i:Nat,i<=n/\uZ=.int .i64 (i:Int)/\Hid (Bk wr G 5 ((mxA a b i).map bv).toArray)/\Hid (Below w.heap.size w wr)) (λuZ _=>(n-intOf uZ).toNat);case atStart=>exact⟨0,Var _,rfl,dF,aD⟩
    case round=>
     clear dF aD pa aS;obtain⟨i,hi,rfl,aF,hb⟩:=hrel;by_cases ab:i<n
     ·have tH:i<a.length:=(by rw[Hn.o];exact ab);have r9:i<b.length:=(by rw[Fy.o];exact ab);have nu:=mQ.o i tH;have iP:=oS.o i r9;have rU:=r8.o a[i] (Vaj _);have iZ:=al.o b[i] (Vaj _);have hs:=aZ.o i tH r9;have fK:=av.o i hi;have aj:=aF.o.put i (bv (mx a[i] b[i]));rw[List.setIfInBounds_toArray,<-List.map_set,hs] at aj;have hcell:=aF.o.cell i;rw[Vbf,Vbc,Vao (by omega)] at hcell;have fj:=aF.o.frozen i;obtain⟨old,hold⟩:∃o,(Option.map bv (some (mxA a b i)[i]))=some o:=⟨_,rfl⟩;rw[hold] at hcell;have FH:=h_ (λW=>Qt a[i] W);have xY:=h_ (λW=>Qt b[i] W);have zu:=h_ (λW=>Z7u (cd a[i] ^^^ cd b[i]) (Zax _ rU _ iZ).1 W);rw[Zbn rU] at FH;rw[Zbn iZ] at xY;have PU:=ZeX rU iZ;have zv:mx a[i] b[i]=ch (cd a[i] ^^^ cd b[i]):=rfl;rw[zv] at aj;have az:=h_ aj;have jK:=h_ (hb.o.setCell (p:=⟨G,i,none⟩) hG (bv (ch (cd a[i] ^^^ cd b[i]))));unfold bv at az jK;have zw:∀h:i<SA.size,((SA[i]'h).toNat:Int)=(a[i].toNat:Int):=λh=>(by rw[nu h]);have zx:∀h:i<SB.size,((SB[i]'h).toNat:Int)=(b[i].toNat:Int):=λh=>(by rw[iP h]);have L5:i<SA.size:=(by rw[xV.o];omega);have L6:i<SB.size:=(by rw[Fz.o];omega);obtain⟨Z,hZ⟩:∃z,((ch (cd a[i] ^^^ cd b[i])).toNat:Int)=z:=⟨_,rfl⟩;rw[hZ] at az jK zu;clear aj hs fK hold zv nu iP rU iZ hZ aF hb;generalize (cd a[i] ^^^ cd b[i])=M at*;generalize cd a[i]=P at*;generalize cd b[i]=Q at*;have PV:=zw L5;have Va:=zx L6;generalize (a[i].toNat:Int)=A at*;generalize (b[i].toNat:Int)=B at*;have iS:(0:Int)<=(i:Int):=(by omega);have dw:(i:Int)<(n:Int):=(by omega);clear zw zx tH r9 aZ av dX mQ oS r8 al;have Vb:(i:Int)<(SA.size:Int):=(by omega);have FJ:(i:Int)<(SB.size:Int):=(by omega);go_wp2
      go_region_with (first
       |(go_at_call 205;with_reducible refine(zu.o _).mono ?_;rintro r w9 ⟨rfl,rfl⟩)
       |(go_at_call 165;with_reducible refine(FH.o _).mono ?_;rintro r w9 ⟨rfl,rfl⟩)
       |(go_at_call 165;with_reducible refine(xY.o _).mono ?_;rintro r w9 ⟨rfl,rfl⟩))
      all_goals
       clear hcell fj FH xY zu;go_wp2;go_roundw;case rel=>first|exact⟨i+1,ab,by go_num,h_ (az.o.drew),h_ (jK.o.drew)⟩|((repeat apply Exists.intro);exact⟨⟨i+1,ab,by go_num,h_ (az.o.drew),h_ (jK.o.drew)⟩,rfl⟩)
       case measure=>simp[intOf]<;>omega
     ·have aO:i=n:=(by omega);subst aO;have dK:=aF.o;rw[dX.o] at dK;have fK:(List.zipWith mx a b).length=i:=(by rw[<-dX.o];exact av.o i UZz)
      have jb:=run_convert_bytes_back (P:=Tryz.prog) wr 115 9 5 ⟨G,0,none⟩ i (List.zipWith mx a b) Tryz.underlying115 Tryz.underlying5 Tryz.underlying9 (λj hj=>by
       rw[Go.WideShapes.add_plain,Vbo,dK.cell j,Vbf,Vbc,Vao hj];rfl)
      rw[fK] at jb;have iu:(⟨(List.zipWith mx a b).toArray⟩:ByteArray)=bs (List.zipWith mx a b):=rfl;rw[iu] at jb;obtain⟨SR,pf⟩:∃s,bs (List.zipWith mx a b)=s:=⟨_,rfl⟩;rw[pf] at jb;have zl:=h_ pf;clear dK fK iu pf aF aZ av dX mQ oS r8 al;go_wp2;go_returns;exact⟨by rw[zl.o];rfl,hb.o⟩
   ·rw[Vaf hl];have ay:(((bs a).size:Int) !=((bs b).size:Int))=true:=(by rw[dO,fH,Va1];omega);simp only[he];clear dO fH he fe dd hl;generalize bs a=SA at*;generalize bs b=SB at*;go_enter Tryz.func170,Tryz.ntmps170;go_wp2_with fail;refine(Ha.o).mono ?_;rintro x w1 ⟨rfl,a7⟩;go_wp2_with fail;refine(Hb.o _).mono ?_;rintro x w2 ⟨rfl,a8⟩;have aW:=a7.trans (a8.mono a7.size);go_wp2;go_returns;exact⟨rfl,aW⟩
end Go.Proofs.YtchokmkfobandaaGreatDoor
