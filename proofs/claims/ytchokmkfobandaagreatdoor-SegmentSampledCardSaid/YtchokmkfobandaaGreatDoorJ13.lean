import Derived.Test.YtchokmkfobandaaGreatDoorJ10
import Derived.Test.YtchokmkfobandaaGreatDoorLShelf
import Derived.Lib.Repeat
import Derived.StillTailTactics
set_option linter.unusedVariables false
set_option linter.unusedSimpArgs false
set_option maxRecDepth 100000
set_option maxHeartbeats 8000000
namespace Go.Proofs.YtchokmkfobandaaGreatDoor
open Go.RowKit Go.Proofs Wv Wv.Vi Wv.Bc
def cdI (c:UInt8):Int:=if cd c<4 then(cd c:Int) else-1
theorem Zbd:(∀h:0<(⟨#[48,49,120,122]⟩:ByteArray).size,((⟨#[48,49,120,122]⟩:ByteArray)[0]'h).toNat=48)/\(∀h:1<(⟨#[48,49,120,122]⟩:ByteArray).size,((⟨#[48,49,120,122]⟩:ByteArray)[1]'h).toNat=49)/\
  (∀h:2<(⟨#[48,49,120,122]⟩:ByteArray).size,((⟨#[48,49,120,122]⟩:ByteArray)[2]'h).toNat=120)/\(∀h:3<(⟨#[48,49,120,122]⟩:ByteArray).size,((⟨#[48,49,120,122]⟩:ByteArray)[3]'h).toNat=122):=⟨λ_=>rfl,λ_=>rfl,λ_=>rfl,λ_=>rfl⟩
theorem Zk9 {c:UInt8} :(c.toNat=48->cdI c=0)/\(c.toNat=49->cdI c=1)/\(c.toNat=120->cdI c=2)/\(c.toNat=122->cdI c=3)/\(c.toNat≠48->c.toNat≠49->c.toNat≠120->c.toNat≠122->cdI c= -1):=by
 have e:∀k:UInt8,c.toNat=k.toNat->c=k:=λk h=>UInt8.toNat_inj.1 h;refine⟨λh=>by rw[e 48 h];rfl,λh=>by rw[e 49 h];rfl,λh=>by rw[e 120 h];rfl,λh=>by rw[e 122 h];rfl,λh0 h1 h2 h3=> ?_⟩;rcases Z19 c with ⟨rfl,h⟩|⟨rfl,h⟩|⟨rfl,h⟩|⟨rfl,h⟩|⟨_,_,_,_,h⟩
 ·exact absurd rfl h0
 ·exact absurd rfl h1
 ·exact absurd rfl h2
 ·exact absurd rfl h3
 ·unfold cdI;rw[h];rfl
theorem Qr (c:UInt8) (w:World):Calls Tryz.prog 165 #[.int .u8 (c.toNat:Int)] w λx w'=>x=.returned (.int .i64 (cdI c))/\w=w':=by
 obtain⟨f0,f1,f2,f3,f4⟩:=Zk9 (c:=c);obtain⟨g0,g1,g2,g3⟩:=Zbd;obtain⟨R,hR⟩:∃R,cdI c=R:=⟨_,rfl⟩;rw[hR] at f0 f1 f2 f3 f4⊢;obtain⟨C,hC⟩:∃C,c.toNat=C:=⟨_,rfl⟩;rw[hC] at f0 f1 f2 f3 f4⊢;have F0:=h_ f0;have F1:=h_ f1;have F2:=h_ f2;have F3:=h_ f3;have F4:=h_ f4;clear hR hC f0 f1 f2 f3 f4;go_enter Tryz.func165,Tryz.ntmps165;go_wp2;go_loopw [4] (λs4 wr=>∃i:Nat,i<=4/\s4=.int .i64 (i:Int)/\Hid ((0<i->C≠48)/\(1<i->C≠49)/\(2<i->C≠120)/\(3<i->C≠122))/\wr=w) (λs4 _=>(4-intOf s4).toNat);case atStart=>exact⟨0,by omega,rfl,h_ ⟨λh=>by omega,λh=>by omega,λh=>by omega,λh=>by omega⟩,rfl⟩
 case round=>
  obtain⟨i,hi,rfl,dw,rfl⟩:=hrel;rcases(show i=0\/i=1\/i=2\/i=3\/i=4 by omega) with rfl|rfl|rfl|rfl|rfl
  ·by_cases hc:C=48
   ·have hR:=F0.out hc;subst hc;go_wp2;go_returns;exact⟨by first|rfl|(rw[hR];rfl),rfl⟩
   ·have hb:((48:Int)==(C:Int))=false:=(by rw[Vam];omega);go_wp2;refine⟨⟨1,by omega,rfl,h_ ⟨λ_=>hc,λh=>by omega,λh=>by omega,λh=>by omega⟩,by first|rfl|trivial⟩,?_⟩;simp[intOf]
  ·by_cases hc:C=49
   ·have hR:=F1.out hc;subst hc;go_wp2;go_returns;exact⟨by first|rfl|(rw[hR];rfl),rfl⟩
   ·have hb:((49:Int)==(C:Int))=false:=(by rw[Vam];omega);have hn:=dw.o;go_wp2;refine⟨⟨2,by omega,rfl,h_ ⟨λ_=>hn.1 (by omega),λ_=>hc,λh=>by omega,λh=>by omega⟩,by first|rfl|trivial⟩,?_⟩;simp[intOf]
  ·by_cases hc:C=120
   ·have hR:=F2.out hc;subst hc;go_wp2;go_returns;exact⟨by first|rfl|(rw[hR];rfl),rfl⟩
   ·have hb:((120:Int)==(C:Int))=false:=(by rw[Vam];omega);have hn:=dw.o;go_wp2;refine⟨⟨3,by omega,rfl,h_ ⟨λ_=>hn.1 (by omega),λ_=>hn.2.1 (by omega),λ_=>hc,λh=>by omega⟩,by first|rfl|trivial⟩,?_⟩;simp[intOf]
  ·by_cases hc:C=122
   ·have hR:=F3.out hc;subst hc;go_wp2;go_returns;exact⟨by first|rfl|(rw[hR];rfl),rfl⟩
   ·have hb:((122:Int)==(C:Int))=false:=(by rw[Vam];omega);have hn:=dw.o;go_wp2;refine⟨⟨4,by omega,rfl,h_ ⟨λ_=>hn.1 (by omega),λ_=>hn.2.1 (by omega),λ_=>hn.2.2.1 (by omega),λ_=>hc⟩,by first|rfl|trivial⟩,?_⟩;simp[intOf]
  ·have hn:=dw.o;have hR:=F4.out (hn.1 (by omega)) (hn.2.1 (by omega)) (hn.2.2.1 (by omega)) (hn.2.2.2 (by omega));go_wp2;go_returns;exact⟨by first|rfl|(rw[hR];rfl),rfl⟩
theorem Z7u (n:Nat) (hn:n<4) (w:World):Calls Tryz.prog 205 #[.int .i64 (n:Int)] w λx w'=>x=.returned (.tuple #[.int .u8 ((ch n).toNat:Int),.bool true])/\w=w':=by
 rcases(show n=0\/n=1\/n=2\/n=3 by omega) with rfl|rfl|rfl|rfl
 all_goals
  go_enter Tryz.func205,Tryz.ntmps205;go_wp2;go_returns;exact⟨rfl,rfl⟩
def cdK (c:UInt8):Nat:=if cd c<4 then cd c else 2
theorem Zka (c:UInt8):cdK c<4:=by unfold cdK;split<;>omega
theorem Zbe (c:UInt8) (w:World):Calls Tryz.prog 309 #[.int .u8 (c.toNat:Int)] w λx w'=>x=.returned (.int .i64 (cdK c:Int))/\w=w':=by
 have H:=h_ (Qr c w);unfold cdI cdK at*;by_cases h:cd c<4
 ·rw[Vaf h] at H⊢;generalize (c.toNat:Int)=C at*;generalize cd c=k at*;have h0:(0:Int)<=(k:Int):=(by omega);go_enter Tryz.func309,Tryz.ntmps309;go_wp2_with fail;refine(H.o).mono ?_;rintro x w1 ⟨rfl,rfl⟩;go_wp2;go_returns;exact⟨rfl,rfl⟩
 ·rw[Vad h] at H⊢;generalize (c.toNat:Int)=C at*;clear h;go_enter Tryz.func309,Tryz.ntmps309;go_wp2_with fail;refine(H.o).mono ?_;rintro x w1 ⟨rfl,rfl⟩;go_wp2;go_returns;exact⟨rfl,rfl⟩
theorem Z8H (c:UInt8) (w:World):Calls Tryz.prog 145 #[.int .u8 (c.toNat:Int)] w λx w'=>x=.returned (.bool (isC c))/\w=w':=by
 have H:=h_ (Qr c w)
 have h:decide (0<=cdI c)=isC c:=by
  unfold cdI isC;by_cases h:cd c<4
  ·rw[Vaf h];simp[h]
  ·rw[Vad h];simp[h]
 generalize (c.toNat:Int)=C at*;generalize cdI c=k at*;go_enter Tryz.func145,Tryz.ntmps145;go_wp2_with fail;refine(H.o).mono ?_;rintro x w1 ⟨rfl,rfl⟩;go_wp2;go_returns;exact⟨by first|rfl|(rw[h]),rfl⟩
def invC (c:UInt8):UInt8:=ch (if cdK c<2 then 1-cdK c else cdK c)
theorem ZeI (w:World):(Instr.index 207 (.agg #[.int .u8 49,.int .u8 48,.int .u8 120,.int .u8 122]) (.int .i64 0)).run Tryz.prog w=.ok (.int .u8 49) w:=by kernel_rfl
theorem ZeJ (w:World):(Instr.index 207 (.agg #[.int .u8 49,.int .u8 48,.int .u8 120,.int .u8 122]) (.int .i64 1)).run Tryz.prog w=.ok (.int .u8 48) w:=by kernel_rfl
theorem ZeK (w:World):(Instr.index 207 (.agg #[.int .u8 49,.int .u8 48,.int .u8 120,.int .u8 122]) (.int .i64 2)).run Tryz.prog w=.ok (.int .u8 120) w:=by kernel_rfl
theorem ZeL (w:World):(Instr.index 207 (.agg #[.int .u8 49,.int .u8 48,.int .u8 120,.int .u8 122]) (.int .i64 3)).run Tryz.prog w=.ok (.int .u8 122) w:=by kernel_rfl
theorem Z62 (c:UInt8) (w:World):Calls Tryz.prog 297 #[.int .u8 (c.toNat:Int)] w λx w'=>x=.returned (.int .u8 ((invC c).toNat:Int))/\w=w':=by
 have H:=h_ (Zbe c w);have hk:=Zka c;unfold invC;generalize (c.toNat:Int)=C at*;generalize cdK c=k at*;have r0:=ZeI w;have r1:=ZeJ w;have r2:=ZeK w;have r3:=ZeL w;rcases(show k=0\/k=1\/k=2\/k=3 by omega) with rfl|rfl|rfl|rfl
 all_goals
  go_enter Tryz.func297,Tryz.ntmps297;go_wp2_with fail;refine(H.o).mono ?_;rintro x w1 ⟨rfl,rfl⟩;go_wp2;go_returns;exact⟨rfl,rfl⟩
def cn (k:Nat) (v:List UInt8):Nat:=(v.filter (λc=>cd c==k)).length
theorem Zbf (k:Nat) (v:List UInt8) (c:UInt8):cn k (v++[c])=cn k v+if cd c=k then 1 else 0:=by
 unfold cn;rw[List.filter_append,Vab];congr 1;by_cases h:cd c=k
 ·rw[Vaf h];simp[h]
 ·rw[Vad h];simp[h]
theorem Z2p (k:Nat) (v:List UInt8):cn k v<=v.length:=List.length_filter_le _ _
theorem Zbg (v:List UInt8):cn 0 v+cn 1 v+cn 2 v+cn 3 v<=v.length/\(cn 0 v+cn 1 v+cn 2 v+cn 3 v=v.length↔∀c∈v,cd c<4)/\(cn 0 v+cn 1 v=v.length↔∀c∈v,cd c<2)/\((∀c∈v,cd c<4)->(cn 2 v+cn 3 v=0↔∀c∈v,cd c<2)):=by
 induction v with
 |nil=>simp[cn]
 |cons a r ih=>
  have key:∀k,cn k (a::r)=cn k r+if cd a=k then 1 else 0:=λk=>by
   unfold cn;by_cases h:cd a=k
   ·rw[Vaf h,List.filter_cons_of_pos (by simp[h])];rfl
   ·rw[Vad h,List.filter_cons_of_neg (by simp[h])];rfl
  obtain⟨i1,i2,i3,i4⟩:=ih;have hle:=ZjO a;simp only[key,Vaz,List.forall_mem_cons];rcases(show cd a=0\/cd a=1\/cd a=2\/cd a=3\/cd a=4 by omega) with h|h|h|h|h
  all_goals
   simp only[h];refine⟨by simp<;>omega,⟨λh1=> ?_,λh1=> ?_⟩,⟨λh1=> ?_,λh1=> ?_⟩,λh0=>⟨λh1=> ?_,λh1=> ?_⟩⟩
  all_goals simp at*
  all_goals first
   |omega
   |(refine i2.1 ?_;omega)
   |(have:=i2.2 h1;omega)
   |(refine i3.1 ?_;omega)
   |(have:=i3.2 h1;omega)
   |(exact(i4 h0).1 h1)
   |(exact(i4 h0).2 h1)
   |skip
theorem Z09 (v:List UInt8) (i:Nat) (h:i<v.length) (h2:i<(bs v).size):((bs v)[i]'h2)=v[i]'h:=by simp[bs];rfl
def cnA (v:List UInt8):Array Value:= #[.int .i64 (cn 0 v:Int),.int .i64 (cn 1 v:Int),.int .i64 (cn 2 v:Int),.int .i64 (cn 3 v:Int)]
theorem ZeM (v:List UInt8) (c:UInt8) (k:Nat) (hk:cd c=k) (h:k<4):(cnA v).setIfInBounds k (.int .i64 ((cn k v:Int)+1))=cnA (v++[c]):=by
 unfold cnA;simp only[Zbf,hk];rcases(show k=0\/k=1\/k=2\/k=3 by omega) with rfl|rfl|rfl|rfl<;>simp
theorem ZeN (v:List UInt8) (c:UInt8) (h:¬cd c<4):cnA (v++[c])=cnA v:=by
 unfold cnA;simp only[Zbf];rw[Vad (by omega),Vad (by omega),Vad (by omega),Vad (by omega)];rfl
theorem Z1I (v:List UInt8) (hv:v.length<=1099511627776) (w:World):
  Calls Tryz.prog 162 #[.string (bs v)] w λx w'=>x=.returned (.agg (cnA v))/\Below w.heap.size w w':=by
 have ad:(bs v).size=v.length:=Z0 v;have aB:=h_ (((Vae w.heap.size w).alloc UZz (.cells #[.int .i64 0,.int .i64 0,.int .i64 0,.int .i64 0] 209)).alloc (by simp) (.cells #[.int .i64 0,.int .i64 0,.int .i64 0,.int .i64 0] 209));have cj:=h_ ((Bk.new w 209 #[.int .i64 0,.int .i64 0,.int .i64 0,.int .i64 0]).alloc (.cells #[.int .i64 0,.int .i64 0,.int .i64 0,.int .i64 0] 209));have aZ:=Bk.new (w.alloc (.cells #[.int .i64 0,.int .i64 0,.int .i64 0,.int .i64 0] 209)) 209 #[.int .i64 0,.int .i64 0,.int .i64 0,.int .i64 0];rw[World.size_alloc] at aZ;have rP:=h_ aZ;have eo:Hid (∀(i:Nat) (h:i<v.length) (h2:i<(bs v).size),(bs v)[i]'h2=v[i]'h):=h_ (λi h h2=>Z09 v i h h2);obtain⟨n,hn⟩:∃n,v.length=n:=⟨_,rfl⟩;obtain⟨S,hS⟩:∃S,bs v=S:=⟨_,rfl⟩;rw[hS] at ad eo⊢;rw[hn] at ad hv;have Hn:=h_ hn;have cH:=h_ ad;clear hn hS aZ ad;go_enter Tryz.func162,Tryz.ntmps162;go_wp2;rw[cH.o];go_loopw [8] (λs8 wr=>∃i:Nat,i<=n/\s8=.int .i64 (i:Int)/\Hid (Bk wr w.heap.size 209 #[.int .i64 0,.int .i64 0,.int .i64 0,.int .i64 0])/\Hid (Bk wr (w.heap.size+1) 209 (cnA (v.take i)))/\Hid (Below w.heap.size w wr)) (λs8 _=>(n-intOf s8).toNat);case atStart=>exact⟨0,Vat _,rfl,cj,rP,aB⟩
 case round=>
  clear cj rP aB;obtain⟨i,hi,rfl,fb,da,hb⟩:=hrel;by_cases ab:i<n
  ·have bu:i<v.length:=(by rw[Hn.o];exact ab);have qW:i<S.size:=(by rw[cH.o];exact ab);have dS:=eo.o i bu;have ay:v.take (i+1)=v.take i++[v[i]]:=Vac bu;obtain⟨c,hc⟩:∃c,v[i]=c:=⟨_,rfl⟩;rw[hc] at dS ay;have bm:∀h:i<S.size,(S[i]'h).toNat=c.toNat:=λh=>(by rw[dS h]);have dp:(i:Int)<(n:Int):=(by omega);have tF:(0:Int)<=(i:Int):=(by omega)
   have iu:cn 0 (v.take i)<=i/\cn 1 (v.take i)<=i/\cn 2 (v.take i)<=i/\cn 3 (v.take i)<=i:=by
    have hl:(v.take i).length<=i:=(by rw[Vau];omega);exact⟨Vaq (Z2p _ _) hl,Vaq (Z2p _ _) hl,Vaq (Z2p _ _) hl,Vaq (Z2p _ _) hl⟩
   obtain⟨bO,cq,dI,fE⟩:=iu;have nj:=h_ (Qr c wr);unfold cdI at nj;have rQ:=da.o.cell 0;have fF:=da.o.cell 1;have uR:=da.o.cell 2;have uS:=da.o.cell 3;have f0:=da.o.frozen 0;have f1:=da.o.frozen 1;have f2:=da.o.frozen 2;have f3:=da.o.frozen 3;unfold cnA at rQ fF uR uS;simp only[Vbe,List.getElem?_cons_zero,List.getElem?_cons_succ] at rQ fF uR uS;have aA:=h_ (λk (h:cd c=k) (h4:k<4)=>(by rw[ay,<-ZeM _ c k h h4];exact Bk.put da.o k (.int .i64 ((cn k (v.take i):Int)+1)):Bk (wr.setCell ⟨w.heap.size+1,k,none⟩ (.int .i64 ((cn k (v.take i):Int)+1))) (w.heap.size+1) 209 (cnA (v.take (i+1)))));have p8:=h_ (λ(h:¬cd c<4)=>(by rw[ay,ZeN _ c h];exact da.o:Bk wr (w.heap.size+1) 209 (cnA (v.take (i+1)))));have nf:=h_ (λk (u:Value)=>Bk.off fb.o (p:=⟨w.heap.size+1,k,none⟩) (by simp) u);have jQ:=h_ (λk (u:Value)=>hb.o.setCell (p:=⟨w.heap.size+1,k,none⟩) (by simp) u);have hle:=ZjO c;obtain⟨CN,Dq⟩:∃f:Nat->Nat,(λk=>cn k (v.take i))=f:=⟨_,rfl⟩;have tw:∀k,cn k (v.take i)=CN k:=λk=>congrFun Dq k;simp only[tw] at aA rQ fF uR uS bO cq dI fE;clear bu dS ay hc Dq tw;by_cases h4:cd c<4
   ·rw[Vaf h4] at nj;clear p8;obtain⟨k,hk⟩:∃k,cd c=k:=⟨_,rfl⟩;rw[hk] at nj h4;have ji:=h_ (aA.o k hk h4);have Fw:=h_ (λu=>nf.o k u);have a8:=h_ (λu=>jQ.o k u);clear aA nf jQ hle hk;rcases(show k=0\/k=1\/k=2\/k=3 by omega) with rfl|rfl|rfl|rfl
    all_goals
     clear h4;go_wp2_with fail;refine(nj.o).mono ?_;rintro x w1 ⟨rfl,rfl⟩;go_wp2;refine⟨⟨i+1,ab,by go_num,h_ (Fw.o _),ji,h_ (a8.o _)⟩,?_⟩;simp[intOf]<;>omega
   ·rw[Vad h4] at nj;have ji:=h_ (p8.o h4);clear aA p8 nf jQ h4 rQ fF uR uS f0 f1 f2 f3 hle;go_wp2_with fail;refine(nj.o).mono ?_;rintro x w1 ⟨rfl,rfl⟩;go_wp2;refine⟨⟨i+1,ab,by go_num,fb,ji,hb⟩,?_⟩;simp[intOf]<;>omega
  ·have aU:i=n:=(by omega);subst aU;have ay:v.take i=v:=Vah (by rw[Hn.o];exact UZz);have jj:=da.o;rw[ay] at jj;have rQ:=jj.cell 0;have fF:=jj.cell 1;have uR:=jj.cell 2;have uS:=jj.cell 3;have fQ:=fb.o.frozen 0;have cF:=fb.o.frozen 1;have bP:=fb.o.frozen 2;have eU:=fb.o.frozen 3;have qV:=fb.o.cell 0;have bk:=fb.o.cell 1;have bj:=fb.o.cell 2;have ei:=fb.o.cell 3;unfold cnA at rQ fF uR uS;simp only[Vbe,List.getElem?_cons_zero,List.getElem?_cons_succ] at rQ fF uR uS qV bk bj ei;have p9:cnA v= #[.int .i64 (cn 0 v:Int),.int .i64 (cn 1 v:Int),.int .i64 (cn 2 v:Int),.int .i64 (cn 3 v:Int)]:=rfl;have Dq:=h_ p9;clear p9;generalize cn 0 v=n0 at*;generalize cn 1 v=n1 at*;generalize cn 2 v=n2 at*;generalize cn 3 v=n3 at*;clear ay jj;have hF:=h_ ((((fb.o.put 0 (.int .i64 (n0:Int))).put 1 (.int .i64 (n1:Int))).put 2 (.int .i64 (n2:Int))).put 3 (.int .i64 (n3:Int)));have ey:=h_ ((((hb.o.setCell (p:=⟨w.heap.size,0,none⟩) UZz (.int .i64 (n0:Int))).setCell (p:=⟨w.heap.size,1,none⟩) UZz (.int .i64 (n1:Int))).setCell (p:=⟨w.heap.size,2,none⟩) UZz (.int .i64 (n2:Int))).setCell (p:=⟨w.heap.size,3,none⟩) UZz (.int .i64 (n3:Int)));go_wp2;have z0:=hF.o.cell 0;have z1:=hF.o.cell 1;have z2:=hF.o.cell 2;have z3:=hF.o.cell 3;simp at z0 z1 z2 z3;generalize ((((wr.setCell ⟨w.heap.size,0,none⟩ (.int .i64 (n0:Int))).setCell ⟨w.heap.size,1,none⟩ (.int .i64 (n1:Int))).setCell ⟨w.heap.size,2,none⟩ (.int .i64 (n2:Int))).setCell ⟨w.heap.size,3,none⟩ (.int .i64 (n3:Int)))=WF at*;refine bodyPost_ret (v:=.agg #[.int .i64 (n0:Int),.int .i64 (n1:Int),.int .i64 (n2:Int),.int .i64 (n3:Int)]) (by simp[results,Tryz.results162,go_sem,z0,z1,z2,z3];try rfl) rfl ?_;exact⟨by rw[Dq.o],ey.o⟩
theorem Xl (v:List UInt8):(bs v).toList.isEmpty=decide (v=[]):=by
 have h:(bs v).toList.isEmpty=((bs v).toList==(bs []).toList):=by
  have:(bs ([]:List UInt8)).toList=[]:=(by decide+kernel);rw[this];cases (bs v).toList<;>rfl
 rw[h,Vbl,beq_iff_eq,Vas,ByteArray.toList_eq,ByteArray.toList_eq];exact Iff.rfl
theorem Zkb {v:List UInt8} (h0:v≠[]) (h1:v.length<=128):isV v=decide ((cn 0 v:Int)+(cn 1 v:Int)+(cn 2 v:Int)+(cn 3 v:Int)=(v.length:Int)):=by
 rw[Vbl,Zv,Vas];obtain⟨_,s2,_,_⟩:=Zbg v;constructor
 ·rintro⟨h,_,_⟩;have:=s2.2 h;omega
 ·intro h;exact⟨s2.1 (by omega),h0,h1⟩
theorem Zkc {v:List UInt8} (h:isV v=true):knV v=decide ((cn 2 v:Int)+(cn 3 v:Int)=0):=by
 obtain⟨a,b,c⟩:=Zv.1 h;rw[Vbl,Yp,Vas];obtain⟨_,_,_,s4⟩:=Zbg v;constructor
 ·rintro⟨h,_,_⟩;have:=(s4 a).2 h;omega
 ·intro h;exact⟨(s4 a).1 (by omega),b,c⟩
theorem Z1J (v : List UInt8) (hv : v.length <= 1099511627776) (w : World) :
    Calls Tryz.prog 119 #[.string (bs v)] w λx w'=>x=.returned (.bool (isV v))/\Below w.heap.size w w':=by
  have cB:=Xl v;have ad:(bs v).size=v.length:=Z0 v;by_cases h0:v=[]
  · have hi : isV v = false := by cases h : isV v with
      |false=>rfl
      |true=>exact absurd h0 (Zv.1 h).2.1
    rw[Vao h0] at cB;rw[hi];clear ad hi h0;generalize bs v=S at*;go_enter Tryz.func119,Tryz.ntmps119;go_wp2;go_returns;exact⟨rfl,Vae _ _⟩
  · rw[Vai h0] at cB
    by_cases h1:128<v.length
    · have hi : isV v = false := by cases h : isV v with
        |false=>rfl
        |true=>have:=(Zv.1 h).2.2;omega
      rw[hi];have h2:(128:Int)<((bs v).size:Int):=(by omega);clear ad hi h0 h1;generalize bs v=S at*;go_enter Tryz.func119,Tryz.ntmps119;go_wp2;go_returns;exact⟨rfl,Vae _ _⟩
    · have hi:=Zkb h0 (by omega)
      have Hc:=h_ (Z1I v hv w);have p9:cnA v= #[.int .i64 (cn 0 v:Int),.int .i64 (cn 1 v:Int),.int .i64 (cn 2 v:Int),.int .i64 (cn 3 v:Int)]:=rfl;rw[p9] at Hc;have c0:=Z2p 0 v;have c1:=Z2p 1 v;have c2:=Z2p 2 v;have c3:=Z2p 3 v;have zb:Hid ((bs v).size=v.length):=h_ ad;have h2:¬(128:Int)<((bs v).size:Int):=(by omega);have Hi:=h_ hi;have kQ:v.length<=128:=(by omega);obtain⟨n,hn⟩:∃n,v.length=n:=⟨_,rfl⟩;rw[hn] at Hi zb c0 c1 c2 c3 kQ;generalize cn 0 v=n0 at*;generalize cn 1 v=n1 at*;generalize cn 2 v=n2 at*;generalize cn 3 v=n3 at*;generalize bs v=S at*;clear p9 ad hi h0 h1 hn hv;go_enter Tryz.func119,Tryz.ntmps119;go_wp2_with fail;refine(Hc.o).mono ?_;rintro x w1 ⟨rfl,a7⟩;have ao:=h_ (a7.alloc a7.size (.cells #[.int .i64 (n0:Int),.int .i64 (n1:Int),.int .i64 (n2:Int),.int .i64 (n3:Int)] 209));clear a7 Hc;go_wp2;go_returns;rw[zb.o,Hi.o];exact⟨by first|rfl|(congr 2;rw[Vbl];simp),ao.o⟩
theorem Z7v (v:List UInt8) (hv:v.length<=1099511627776) (w:World):
  Calls Tryz.prog 245 #[.string (bs v)] w λx w'=>x=.returned (.bool (knV v))/\Below w.heap.size w w':=by
 have Hc:=h_ (Z1I v hv w);have p9:cnA v= #[.int .i64 (cn 0 v:Int),.int .i64 (cn 1 v:Int),.int .i64 (cn 2 v:Int),.int .i64 (cn 3 v:Int)]:=rfl;rw[p9] at Hc;have Hi:=h_ (λW=>Z1J v hv W);have c2:=Z2p 2 v;have c3:=Z2p 3 v;cases h:isV v with
 |false=>
  have hk:knV v=false:=by cases hk:knV v with
   |false=>rfl
   |true=>rw[Z3p hk] at h;cases h
  rw[h] at Hi;rw[hk];generalize cn 0 v=n0 at*;generalize cn 1 v=n1 at*;generalize cn 2 v=n2 at*;generalize cn 3 v=n3 at*;generalize bs v=S at*;clear p9 h hk;go_enter Tryz.func245,Tryz.ntmps245;go_wp2_with fail;refine(Hc.o).mono ?_;rintro x w1 ⟨rfl,a7⟩;have ao:=h_ (a7.alloc a7.size (.cells #[.int .i64 (n0:Int),.int .i64 (n1:Int),.int .i64 (n2:Int),.int .i64 (n3:Int)] 209));clear a7 Hc;go_wp2_with fail;refine(Hi.o _).mono ?_;rintro x w2 ⟨rfl,a8⟩;have an:=h_ (ao.o.trans (a8.mono ao.o.size));clear a8;go_wp2;go_returns;exact⟨rfl,an.o⟩
 |true=>
  have hk:=Zkc h;have kQ:=(Zv.1 h).2.2;rw[h] at Hi;rw[hk];have Vx:cn 2 v<=128:=(by omega);have Vy:cn 3 v<=128:=(by omega);generalize cn 0 v=n0 at*;generalize cn 1 v=n1 at*;generalize cn 2 v=n2 at*;generalize cn 3 v=n3 at*;generalize bs v=S at*;clear p9 h hk c2 c3 kQ;go_enter Tryz.func245,Tryz.ntmps245;go_wp2_with fail;refine(Hc.o).mono ?_;rintro x w1 ⟨rfl,a7⟩;have fo:=h_ (Bk.new w1 209 #[.int .i64 (n0:Int),.int .i64 (n1:Int),.int .i64 (n2:Int),.int .i64 (n3:Int)]);have ao:=h_ (a7.alloc a7.size (.cells #[.int .i64 (n0:Int),.int .i64 (n1:Int),.int .i64 (n2:Int),.int .i64 (n3:Int)] 209));clear a7 Hc;go_wp2_with fail;refine(Hi.o _).mono ?_;rintro x w2 ⟨rfl,a8⟩;have cL:=Bk.below fo.o a8 (by simp);have k2:=cL.cell 2;have k3:=cL.cell 3;simp only[Vbe,List.getElem?_cons_zero,List.getElem?_cons_succ] at k2 k3;have an:=h_ (ao.o.trans (a8.mono ao.o.size));clear a8 cL fo ao;go_wp2;go_returns;exact⟨by first|rfl|(congr 2;rw[Vbl];simp),an.o⟩
theorem Z63 (wd:Int) (v:List UInt8) (hv:v.length<=1099511627776) (w:World):
  Calls Tryz.prog 75 #[.int .i64 wd,.string (bs v)] w λx w'=>x=.returned (.bool (vld wd v))/\Below w.heap.size w w':=by
 have Hi:=h_ (Z1J v hv w);have ad:(bs v).size=v.length:=Z0 v;have cH:=h_ ad;unfold vld;generalize isV v=b at*;generalize bs v=S at*;clear ad;cases b with
 |false=>
  go_enter Tryz.func75,Tryz.ntmps75;go_wp2_with fail;refine(Hi.o).mono ?_;rintro x w1 ⟨rfl,a7⟩;go_wp2;go_returns;exact⟨rfl,a7⟩
 |true=>
  go_enter Tryz.func75,Tryz.ntmps75;go_wp2_with fail;refine(Hi.o).mono ?_;rintro x w1 ⟨rfl,a7⟩;go_wp2;go_returns;rw[cH.o];exact⟨by first|rfl|(congr 2;rw[Vbl];simp),a7⟩
end Go.Proofs.YtchokmkfobandaaGreatDoor
namespace Wv
open Go Go.RowKit
def ByR (w:World) (g:Nat) (e:TypeId) (R:List UInt8):Prop:=∃cs fz sp,w.heap[g]? =some (.cells cs e fz)/\cs.toList=R.map bv++sp/\R.length<=fz.1
theorem ByR.lt {w:World} {g:Nat} {e:TypeId} {R:List UInt8} (h:ByR w g e R):g<w.heap.size:=by
 obtain⟨cs,fz,sp,h1,_,_⟩:=h;exact(Array.getElem?_eq_some_iff.1 h1).1
theorem ByR.cell {w:World} {g:Nat} {e:TypeId} {R:List UInt8} (h:ByR w g e R) (i:Nat) (hi:i<R.length):w.cell? ⟨g,i,none⟩=some (bv R[i])/\w.frozen? ⟨g,i,none⟩=false:=by
 obtain⟨cs,fz,sp,h1,h2,h3⟩:=h;constructor
 ·simp only[World.cell?,h1];rw[<-Array.getElem?_toList,h2,List.getElem?_append_left (by rw[Vag];exact hi),Vbb,Van hi];rfl
 ·simp only[World.frozen?,h1];simp;omega
theorem ByR.put {w:World} {g:Nat} {e:TypeId} {R:List UInt8} (h:ByR w g e R) (i:Nat) (hi:i<R.length) (x:UInt8):ByR (w.setCell ⟨g,i,none⟩ (bv x)) g e (R.set i x):=by
 obtain⟨cs,fz,sp,h1,h2,h3⟩:=h;refine⟨cs.setIfInBounds i (bv x),fz,sp,?_,?_,by rw[Vbh];exact h3⟩
 ·simp[World.setCell,Array.getElem?_modify,h1]
 ·rw[Array.toList_setIfInBounds,h2,List.set_append_left _ _ (by rw[Vag];exact hi),List.map_set]
theorem ByR.below {w w':World} {B g:Nat} {e:TypeId} {R:List UInt8} (h:ByR w g e R) (hb:Below B w w') (hg:g<B):ByR w' g e R:=by
 obtain⟨cs,fz,sp,h1,h2,h3⟩:=h;exact⟨cs,fz,sp,(hb.block g hg).trans h1,h2,h3⟩
theorem ByR.new (w:World) (e:TypeId) (s:ByteArray) (cap:Nat) (z:Nat×Nat) (hz:s.size<=z.1):ByR (w.alloc (.cells (bytesRow s cap) e z)) w.heap.size e s.data.toList:=by
 refine⟨bytesRow s cap,z,(Array.replicate (cap-s.size) (.int .u8 0)).toList,?_,?_,by rw[Array.length_toList];exact hz⟩
 ·show(w.heap.push _)[w.heap.size]? =_;simp
 ·unfold bytesRow;rw[Array.toList_append,Array.toList_map];rfl
end Wv
namespace Go.Proofs.YtchokmkfobandaaGreatDoor
open Go.RowKit Go.Proofs Wv Wv.Vi Wv.Bc
theorem ZhT (v:List UInt8) (h:isV v=true):inv v=v.map invC:=by
 unfold inv;apply List.map_congr_left;intro c hc;have:=(Zv.1 h).1 c hc;unfold invC cdK;rw[Vaf this]
theorem ZeO (v:List UInt8) (hv:v.length<=1099511627776) (w:World):
  Calls Tryz.prog 296 #[.string (bs v),.func (.func 297) #[] #[]] w λx w'=>x=.returned (.string (bs (v.map invC)))/\Below w.heap.size w w':=by
 have eD:=run_bytes_of_string (P:=Tryz.prog) w 9 115 5 (bs v) Tryz.underlying9 Tryz.underlying115 Tryz.underlying5;have ad:(bs v).size=v.length:=Z0 v;have dj:=ByR.new w.drew 5 (bs v) (grownCap w (bs v).size 0 5) ((bytesRow (bs v) (grownCap w (bs v).size 0 5)).size,(bytesRow (bs v) (grownCap w (bs v).size 0 5)).size+1) (by unfold bytesRow;simp);have aB:=h_ (((Vae w.heap.size w).drew).alloc UZz (.cells (bytesRow (bs v) (grownCap w (bs v).size 0 5)) 5 ((bytesRow (bs v) (grownCap w (bs v).size 0 5)).size,(bytesRow (bs v) (grownCap w (bs v).size 0 5)).size+1)));have gd:(bs v).data.toList=v:=rfl;rw[gd] at dj;have Fx:=h_ (show ByR _ w.heap.size 5 v from dj);have nk:=h_ (λc W=>Z62 c W);obtain⟨n,hn⟩:∃n,v.length=n:=⟨_,rfl⟩;obtain⟨cap,fN⟩:∃c,grownCap w (bs v).size 0 5=c:=⟨_,rfl⟩;rw[fN] at eD aB Fx
 have oG:n<=cap:=by
  have:=grownCap_ge w (bs v).size 0 5;rw[fN] at this;omega
 generalize w.drew.alloc (.cells (bytesRow (bs v) cap) 5 ((bytesRow (bs v) cap).size,(bytesRow (bs v) cap).size+1))=W0 at*;rw[ad,hn] at eD;rw[hn] at hv;have Hn:=h_ hn;obtain⟨S,hS⟩:∃S,bs v=S:=⟨_,rfl⟩;rw[hS] at eD⊢;clear ad dj gd fN hn hS;go_enter Tryz.func296,Tryz.ntmps296;go_wp2;go_loopw [12] (λjR wr=>∃i:Nat,i<=n/\jR=.int .i64 (i:Int)/\Hid (ByR wr w.heap.size 5 ((v.take i).map invC++v.drop i))/\Hid (Below w.heap.size w wr)) (λjR _=>(n-intOf jR).toNat);case atStart=>exact⟨0,Vat _,rfl,Fx,aB⟩
 case round=>
  clear Fx aB eD;obtain⟨i,hi,rfl,dj,hb⟩:=hrel;by_cases ab:i<n
  ·have bu:i<v.length:=(by rw[Hn.o];exact ab);have ay:v.take (i+1)=v.take i++[v[i]]:=Vac bu;have jS:v.drop i=v[i]::v.drop (i+1):=Va4 bu;have eR:((v.take i).map invC).length=i:=(by rw[Vag,Vau];omega);obtain⟨c,hc⟩:∃c,v[i]=c:=⟨_,rfl⟩;rw[hc] at ay jS;have uT:i<((v.take i).map invC++v.drop i).length:=(by rw[Vab,eR,Va2];omega);obtain⟨h1,h2⟩:=dj.o.cell i uT
   have Dr:((v.take i).map invC++v.drop i)[i]=c:=by
    rw[Vc4 (by omega)];simp only[eR,Va7];rw[Vcx];simpa using hc
   rw[Dr] at h1;have L7:wr.cell? ⟨w.heap.size,i,none⟩=some (.int .u8 (c.toNat:Int)):=h1;have aj:=dj.o.put i uT (invC c)
   have dx:((v.take i).map invC++v.drop i).set i (invC c)=(v.take (i+1)).map invC++v.drop (i+1):=by
    rw[Va8 _ _ (by omega),eR,Va7,jS,List.set_cons_zero,ay,Vbk];simp
   rw[dx] at aj;have aA:=h_ aj;have Hi:=h_ (nk.o c wr);have jQ:=h_ (hb.o.setCell (p:=⟨w.heap.size,i,none⟩) UZz (bv (invC c)));have dp:(i:Int)<(n:Int):=(by omega);have tF:(0:Int)<=(i:Int):=(by omega);clear bu ay jS eR hc uT h1 Dr aj dx dj hb;unfold bv at aA jQ;go_wp2_with fail;refine(Hi.o).mono ?_;rintro x w1 ⟨rfl,rfl⟩;go_wp2;refine⟨⟨i+1,ab,by go_num,aA,jQ⟩,?_⟩;simp[intOf]<;>omega
  ·have aU:i=n:=(by omega);subst aU;have ay:v.take i=v:=Vah (by rw[Hn.o];exact UZz);have jS:v.drop i=[]:=Vbf (by rw[Hn.o];exact UZz);have uU:=dj.o;rw[ay,jS,Va3] at uU;have eR:(v.map invC).length=i:=(by rw[Vag,Hn.o])
   have jk:=run_convert_bytes_back (P:=Tryz.prog) wr 115 9 5 ⟨w.heap.size,0,none⟩ cap (v.map invC) Tryz.underlying115 Tryz.underlying5 Tryz.underlying9 (λj hj=>by
    have:=(uU.cell j hj).1;rw[Go.WideShapes.add_plain,Vbo];exact this)
   rw[eR] at jk;have iw:(⟨(v.map invC).toArray⟩:ByteArray)=bs (v.map invC):=rfl;rw[iw] at jk;obtain⟨SR,pa⟩:∃s,bs (v.map invC)=s:=⟨_,rfl⟩;rw[pa] at jk;have zc:=h_ pa;clear ay jS uU eR dj iw pa;go_wp2;go_returns;exact⟨by rw[zc.o];rfl,hb.o⟩
theorem ZeP (v:List UInt8) (hv:v.length<=1099511627776) (w:World):
  Calls Tryz.prog 248 #[.string (bs v)] w λx w'=>x=.returned (.string (bs (if isV v=true then inv v else[])))/\Below w.heap.size w w':=by
 have Hi:=h_ (Z1J v hv w);have He:=h_ (λW=>ZeO v hv W);cases h:isV v with
 |false=>
  rw[h] at Hi;rw[Vad (by simp)];generalize bs v=S at*;go_enter Tryz.func248,Tryz.ntmps248;go_wp2_with fail;refine(Hi.o).mono ?_;rintro x w1 ⟨rfl,a7⟩;go_wp2;go_returns;exact⟨rfl,a7⟩
 |true=>
  rw[h] at Hi;rw[Vaf rfl,ZhT v h];generalize bs (v.map invC)=SR at*;generalize bs v=S at*;go_enter Tryz.func248,Tryz.ntmps248;go_wp2_with fail;refine(Hi.o).mono ?_;rintro x w1 ⟨rfl,a7⟩;go_wp2_with fail;refine(He.o _).mono ?_;rintro x w2 ⟨rfl,a8⟩;have hb:=a7.trans (a8.mono a7.size);go_wp2;go_returns;exact⟨rfl,hb⟩
theorem Zy (w:World) (o:Obj):Below w.heap.size w (w.alloc o):=(Vae w.heap.size w).alloc UZz o
theorem Z8I (w:World) (g n:Nat) (hn:n<=128):(Instr.sliceAt 333 (.pointer (some ⟨g,0,none⟩)) none (some (.int .i64 (n:Int))) none).run Tryz.prog w=.ok (.slice (some ⟨g,0,none⟩) n 128) w:=by
 have h1:Tryz.prog.arrayLen 333=128:=(by kernel_rfl);have h2:Tryz.prog.underlying 333=some (.array (Tryz.prog.arrayLen 333) (Tryz.prog.elem 333)):=(by kernel_rfl);have h3:∀w,(sizeOf (Tryz.prog.elem 333)).run Tryz.prog w=.ok 1 w:=λw=>(by kernel_rfl);rw[run_sliceAt_array_h w _ ⟨g,0,none⟩ h2 .i64 (n:Int) (by omega) (by rw[h1];omega),h3,h1];unfold slicedAt;simp[Result.andThen,Addr.add]
theorem cd2 {c:UInt8} (h:cd c<2):c.toNat=48+cd c:=by
 rcases Z19 c with ⟨rfl,h1⟩|⟨rfl,h1⟩|⟨_,h1⟩|⟨_,h1⟩|⟨_,_,_,_,h1⟩
 ·rfl
 ·rfl
 all_goals omega
theorem ZhU {a b:List UInt8} {k:Nat} (c:Nat) (ha:k<a.length) (hb:k<b.length):sm (a.drop k) (b.drop k) c=(UInt8.ofNat (48+(cd a[k]+cd b[k]+(sm (a.drop (k+1)) (b.drop (k+1)) c).2) % 2)::(sm (a.drop (k+1)) (b.drop (k+1)) c).1,(cd a[k]+cd b[k]+(sm (a.drop (k+1)) (b.drop (k+1)) c).2)/2):=by
 rw[Va4 ha,Va4 hb];rfl
theorem Z7w (c:Nat) (hc:c<=1):∀(a b:List UInt8),(∀x∈a,cd x<2)->(∀x∈b,cd x<2)->(sm a b c).2<=1
 |[],_,_,_=>by simpa [sm] using hc
 |_::_,[],_,_=>by simpa [sm] using hc
 |x::a,y::b,h1,h2=>by
  have h3:=Z7w c hc a b (λz hz=>h1 z (Var _ hz)) (λz hz=>h2 z (Var _ hz));have h4:=h1 x Vap;have h5:=h2 y Vap;show(cd x+cd y+(sm a b c).2)/2<=1;omega
def smA (n k:Nat) (ds:List UInt8):Array Value:=((List.replicate k 0++ds++List.replicate (128-n) 0).map bv).toArray
theorem Zbh (a b:List UInt8) (c:Nat) (hc:c<=1) (ha:knV a=true) (hb:knV b=true) (hl:a.length=b.length) (w:World):
  Calls Tryz.prog 246 #[.string (bs a),.string (bs b),.int .u8 (c:Int)] w λx w'=>x=.returned (.string (bs (sm a b c).1))/\Below w.heap.size w w':=by
 obtain⟨a1,a2,a3⟩:=Yp.1 ha;obtain⟨b1,b2,b3⟩:=Yp.1 hb;have dJ:(bs a).size=a.length:=Z0 a;have fH:(bs b).size=b.length:=Z0 b;have mN:Hid (∀(i:Nat) (h:i<a.length) (h2:i<(bs a).size),(bs a)[i]'h2=a[i]'h):=h_ (λi h h2=>Z09 a i h h2);have oO:Hid (∀(i:Nat) (h:i<b.length) (h2:i<(bs b).size),(bs b)[i]'h2=b[i]'h):=h_ (λi h h2=>Z09 b i h h2);obtain⟨n,hn⟩:∃n,a.length=n:=⟨_,rfl⟩;have rR:b.length=n:=(by omega);rw[hn] at dJ a3;rw[rR] at fH;have cj:=h_ (Bk.new w 333 (Array.replicate 128 (.int .u8 0)));have aB:=h_ (Zy w (.cells (Array.replicate 128 (.int .u8 0)) 333))
 have eF:Array.replicate 128 (.int .u8 0:Value)=smA n n (sm (a.drop n) (b.drop n) c).1:=by
  have e1:a.drop n=[]:=Vbf (by omega);rw[e1];show _=((List.replicate n (0:UInt8)++[]++List.replicate (128-n) (0:UInt8)).map bv).toArray;rw[Va3,List.replicate_append_replicate,show n+(128-n)=128 by omega,List.map_replicate];rfl
 have aT:=h_ eF
 have bO:(sm (a.drop n) (b.drop n) c).2=c:=by
  have e1:a.drop n=[]:=Vbf (by omega);rw[e1];rfl
 have iY:=h_ bO;have uV:=h_ (λk=>Z7w c hc (a.drop k) (b.drop k) (λx hx=>a1 x (List.mem_of_mem_drop hx)) (λx hx=>b1 x (List.mem_of_mem_drop hx)));have uW:=h_ (λk (h1:k<a.length) (h2:k<b.length)=>ZhU c h1 h2);have qX:=h_ a1;have ao:=h_ b1;have Hn:=h_ hn;have Fy:=h_ rR;have zd:(sm a b c).1.length=n:=(by rw[Z7g a b c hl,hn]);have ze:=h_ zd;obtain⟨SA,zf⟩:∃s,bs a=s:=⟨_,rfl⟩;obtain⟨SB,rS⟩:∃s,bs b=s:=⟨_,rfl⟩;rw[zf] at dJ mN⊢;rw[rS] at fH oO⊢;have xP:=h_ dJ;have Fz:=h_ fH;clear eF bO a1 b1 hn rR zf rS dJ fH ha hb hl a2 b2 b3 zd;have L8:SA.size<=128:=(by rw[xP.o];exact a3);go_enter Tryz.func246,Tryz.ntmps246;go_wp2;rw[xP.o];go_loopw [2,8] (λs2 s8 wr=>∃k:Nat,k<=n/\s8=.int .i64 ((k:Int)-1)/\s2=.int .u8 (((sm (a.drop k) (b.drop k) c).2:Nat):Int)/\Hid (Bk wr w.heap.size 333 (smA n k (sm (a.drop k) (b.drop k) c).1))/\Hid (Below w.heap.size w wr)) (λ_ s8 _=>(intOf s8+1).toNat);case atStart=>exact⟨n,UZz,rfl,by rw[iY.o],h_ (by rw[<-aT.o];exact cj.o),aB⟩
 case round=>
  clear cj aB aT iY;obtain⟨k,hk,rfl,rfl,aD,hb⟩:=hrel;cases k with
  |succ i=>
   have tG:i<a.length:=(by rw[Hn.o];omega);have qY:i<b.length:=(by rw[Fy.o];omega);have L9:i<SA.size:=(by rw[xP.o];omega);have La:i<SB.size:=(by rw[Fz.o];omega);have hs:=uW.o i tG qY;have tx:=uV.o (i+1);have rT:=qX.o a[i] (Vak _);have jh:=ao.o b[i] (Vak _);have nm:=mN.o i tG;have iV:=oO.o i qY;obtain⟨x,hx⟩:∃x,a[i]=x:=⟨_,rfl⟩;obtain⟨y,hy⟩:∃y,b[i]=y:=⟨_,rfl⟩;rw[hx,hy] at hs;rw[hx] at rT nm;rw[hy] at jh iV;obtain⟨⟨ds,cr⟩,hr⟩:∃r,sm (a.drop (i+1)) (b.drop (i+1)) c=r:=⟨_,rfl⟩;rw[hr] at hs tx aD;simp only at hs tx aD;have zg:∀h:i<SA.size,(SA[i]'h).toNat=48+cd x:=λh=>(by rw[nm h,cd2 rT]);have zh:∀h:i<SB.size,(SB[i]'h).toNat=48+cd y:=λh=>(by rw[iV h,cd2 jh]);obtain⟨p,hp⟩:∃p,cd x=p:=⟨_,rfl⟩;obtain⟨q,hq⟩:∃q,cd y=q:=⟨_,rfl⟩;rw[hp] at hs rT zg;rw[hq] at hs jh zh;have e1:((i+1:Nat):Int)-1=(i:Int):=(by omega);rw[e1,hr];have iZ:(0:Int)<=(i:Int):=(by omega);have aU:(i:Int)<(n:Int):=(by omega);have Lb:(i:Int)<128:=(by omega);have FA:i<128:=(by omega);have hcell:=aD.o.cell i;have fi:=aD.o.frozen i;have aj:=λu=>aD.o.put i u
   have dx:∀d:UInt8,(smA n (i+1) ds).setIfInBounds i (bv d)=smA n i (d::ds):=λd=>by
    unfold smA;rw[List.setIfInBounds_toArray,<-List.map_set];congr 2;rw[List.replicate_succ',Vay,Vay,Va8 _ _ (by rw[Vaw];exact UZz),Vaw,Va7];simp
   have dI:(smA n (i+1) ds)[i]? =some (.int .u8 0):=by
    unfold smA;rw[Vbe,Vbb,Vay,List.getElem?_append_left (by rw[Vaw];omega),List.getElem?_replicate,Vaf (by omega)];rfl
   rw[dI] at hcell;have aA:=h_ (λd:UInt8=>(by rw[<-dx d];exact aj (bv d):Bk (wr.setCell ⟨w.heap.size,i,none⟩ (bv d)) w.heap.size 333 (smA n i (d::ds))));have jQ:=h_ (λu:Value=>hb.o.setCell (p:=⟨w.heap.size,i,none⟩) UZz u);unfold bv at aA;obtain⟨mm,jL⟩:∃m,p+q+cr=m:=⟨_,rfl⟩;rw[jL] at hs;have xQ:((UInt8.ofNat (48+mm % 2)).toNat:Int)=((48+mm % 2:Nat):Int):=(by simp;omega)
   have tH:=h_ (show Bk (wr.setCell ⟨w.heap.size,i,none⟩ (.int .u8 ((48+mm % 2:Nat):Int))) w.heap.size 333 (smA n i (sm (a.drop i) (b.drop i) c).1) by
    have:=aA.o (UInt8.ofNat (48+mm % 2));rw[xQ] at this;rw[hs];exact this)
   have FB:=h_ (show(((sm (a.drop i) (b.drop i) c).2:Nat):Int)=((mm/2:Nat):Int) by rw[hs]);have b0:Go.bits .and .u8 0 1=0:=(by decide);have b1:Go.bits .and .u8 1 1=1:=(by decide);have b2:Go.bits .and .u8 2 1=0:=(by decide);have b3:Go.bits .and .u8 3 1=1:=(by decide);clear aA xQ;clear tG qY hs nm iV hx hy hr hp hq e1 aj dx dI aD hb uW uV qX ao mN oO;have PX:(p=0\/p=1)/\(q=0\/q=1)/\(cr=0\/cr=1):=(by omega);obtain⟨h1,h2,h3⟩:=PX;clear tx rT jh;rcases h1 with rfl|rfl<;>rcases h2 with rfl|rfl<;>rcases h3 with rfl|rfl
   all_goals
    go_wp2;go_quiet (fail);have pb:(wr.drewN nq).cell? ⟨w.heap.size,i,none⟩=some (.int .u8 0):=hcell;have FC:(wr.drewN nq).frozen? ⟨w.heap.size,i,none⟩=false:=fi;have zi:Hid (Bk ((wr.drewN nq).setCell ⟨w.heap.size,i,none⟩ (.int .u8 ((48+mm % 2:Nat):Int))) w.heap.size 333 (smA n i (sm (a.drop i) (b.drop i) c).1)):=h_ tH.o;have FD:Hid (∀u:Value,Below w.heap.size w ((wr.drewN nq).setCell ⟨w.heap.size,i,none⟩ u)):=h_ (λu=>bdN (jQ.o u) nq);clear hcell fi tH jQ;generalize wr.drewN nq=W at*;subst jL;go_wp2;refine⟨⟨i,by omega,by go_num,by rw[FB.o];rfl,h_ (by exact zi.o),h_ (FD.o _)⟩,?_⟩;simp[intOf]<;>omega
  |zero=>
   have e1:((0:Nat):Int)-1= -1:=rfl;rw[e1];simp only[Vco] at aD⊢;have hsl:=ze.o
   have hcs:∀j (hj:j<(sm a b c).1.length),wr.cell? ⟨w.heap.size,0+j,none⟩=some (.int .u8 (((sm a b c).1[j]).toNat:Int)):=λj hj=>by
    rw[Vbo,aD.o.cell j];unfold smA;rw[Vbe,Vbb,List.replicate_zero,Vbz,List.getElem?_append_left hj,Van hj];rfl
   have jk:=run_convert_bytes_back (P:=Tryz.prog) wr 115 9 5 ⟨w.heap.size,0,none⟩ 128 (sm a b c).1 Tryz.underlying115 Tryz.underlying5 Tryz.underlying9 (λj hj=>by
    rw[Go.WideShapes.add_plain];exact hcs j hj)
   rw[hsl] at jk;have iw:(⟨((sm a b c).1).toArray⟩:ByteArray)=bs (sm a b c).1:=rfl;rw[iw] at jk;obtain⟨SR,pa⟩:∃s,bs (sm a b c).1=s:=⟨_,rfl⟩;rw[pa] at jk;have zc:=h_ pa;have o8:(0:Int)<=(n:Int):=(by omega);have fR:(n:Int)<=128:=(by omega);generalize (sm a b c).2=c2 at*;clear hsl hcs iw pa aD uW uV qX ao mN oO ze e1;have PY:=Z8I wr w.heap.size n (by omega);have PZ:(SA.size:Int)=(n:Int):=(by rw[xP.o]);go_wp2;go_returns;exact⟨by rw[zc.o];rfl,hb.o⟩
theorem ZeQ (a b:List UInt8) (ha:a.length<=1099511627776) (hb:b.length<=1099511627776) (w:World):
  Calls Tryz.prog 207 #[.string (bs a),.string (bs b)] w λx w'=>x=.returned (.tuple #[.string (bs (addV a b).1),.bool (addV a b).2])/\Below w.heap.size w w':=by
 have Ha:=h_ (Z7v a ha w);have Hb:=h_ (λW=>Z7v b hb W);have dJ:(bs a).size=a.length:=Z0 a;have fH:(bs b).size=b.length:=Z0 b;have he:bs ([]:List UInt8)=⟨#[]⟩:=rfl;unfold addV;cases fb:knV a with
 |false=>
  rw[fb] at Ha;rw[Vad (by simp)];simp only[he];clear dJ fH he;generalize bs a=SA at*;generalize bs b=SB at*;go_enter Tryz.func207,Tryz.ntmps207;go_wp2_with fail;refine(Ha.o).mono ?_;rintro x w1 ⟨rfl,a7⟩;go_wp2;go_returns;exact⟨rfl,a7⟩
 |true=>
  cases da:knV b with
  |false=>
   rw[fb] at Ha;rw[da] at Hb;rw[Vad (by simp)];simp only[he];clear dJ fH he;generalize bs a=SA at*;generalize bs b=SB at*;go_enter Tryz.func207,Tryz.ntmps207;go_wp2_with fail;refine(Ha.o).mono ?_;rintro x w1 ⟨rfl,a7⟩;go_wp2_with fail;refine(Hb.o _).mono ?_;rintro x w2 ⟨rfl,a8⟩;have aS:=a7.trans (a8.mono a7.size);go_wp2;go_returns;exact⟨rfl,aS⟩
  |true=>
   rw[fb] at Ha;rw[da] at Hb;by_cases hl:a.length=b.length
   ·have Hs:=h_ (λW=>Zbh a b 0 (by omega) fb da hl W);rw[Vaf ⟨rfl,rfl,hl⟩];have az:(((bs a).size:Int) !=((bs b).size:Int))=false:=(by rw[dJ,fH,hl];exact Vb5 _);have R0:=Hs;simp only;generalize bs (sm a b 0).1=SR at*;clear dJ fH he fb da hl R0;generalize bs a=SA at*;generalize bs b=SB at*;go_enter Tryz.func207,Tryz.ntmps207;go_wp2_with fail;refine(Ha.o).mono ?_;rintro x w1 ⟨rfl,a7⟩;go_wp2_with fail;refine(Hb.o _).mono ?_;rintro x w2 ⟨rfl,a8⟩;have aS:=a7.trans (a8.mono a7.size);clear a7 a8;go_wp2_with fail;refine(Hs.o _).mono ?_;rintro x w3 ⟨rfl,af⟩;have oa:=aS.trans (af.mono aS.size);clear aS af;go_wp2;go_returns;exact⟨rfl,oa⟩
   ·rw[Vad (λh=>hl h.2.2)];have az:(((bs a).size:Int) !=((bs b).size:Int))=true:=(by rw[dJ,fH,Va0];omega);simp only[he];clear dJ fH he fb da hl;generalize bs a=SA at*;generalize bs b=SB at*;go_enter Tryz.func207,Tryz.ntmps207;go_wp2_with fail;refine(Ha.o).mono ?_;rintro x w1 ⟨rfl,a7⟩;go_wp2_with fail;refine(Hb.o _).mono ?_;rintro x w2 ⟨rfl,a8⟩;have aS:=a7.trans (a8.mono a7.size);go_wp2;go_returns;exact⟨rfl,aS⟩
theorem Zbi {v:List UInt8} (h:knV v=true):knV (inv v)=true/\(inv v).length=v.length:=by
 obtain⟨a1,a2,a3⟩:=Yp.1 h;have hl:(inv v).length=v.length:=(by unfold inv;rw[Vag]);refine⟨Yp.2 ⟨λc hc=> ?_,λe=> ?_,by omega⟩,hl⟩
 ·unfold inv at hc;obtain⟨d,hd,rfl⟩:=Va6.1 hc;have:=a1 d hd;rw[Vaf this,ZhC _ (by omega)];omega
 ·rw[e] at hl;exact a2 (Vaj hl.symm)
theorem ZeR (a b:List UInt8) (ha:a.length<=1099511627776) (hb:b.length<=1099511627776) (w:World):
  Calls Tryz.prog 210 #[.string (bs a),.string (bs b)] w λx w'=>x=.returned (.tuple #[.string (bs (difV a b).1),.bool (difV a b).2])/\Below w.heap.size w w':=by
 have Ha:=h_ (Z7v a ha w);have Hb:=h_ (λW=>Z7v b hb W);have dJ:(bs a).size=a.length:=Z0 a;have fH:(bs b).size=b.length:=Z0 b;have he:bs ([]:List UInt8)=⟨#[]⟩:=rfl;unfold difV;cases fb:knV a with
 |false=>
  rw[fb] at Ha;rw[Vad (by simp)];simp only[he];clear dJ fH he;generalize bs a=SA at*;generalize bs b=SB at*;go_enter Tryz.func210,Tryz.ntmps210;go_wp2_with fail;refine(Ha.o).mono ?_;rintro x w1 ⟨rfl,a7⟩;go_wp2;go_returns;exact⟨rfl,a7⟩
 |true=>
  cases da:knV b with
  |false=>
   rw[fb] at Ha;rw[da] at Hb;rw[Vad (by simp)];simp only[he];clear dJ fH he;generalize bs a=SA at*;generalize bs b=SB at*;go_enter Tryz.func210,Tryz.ntmps210;go_wp2_with fail;refine(Ha.o).mono ?_;rintro x w1 ⟨rfl,a7⟩;go_wp2_with fail;refine(Hb.o _).mono ?_;rintro x w2 ⟨rfl,a8⟩;have aS:=a7.trans (a8.mono a7.size);go_wp2;go_returns;exact⟨rfl,aS⟩
  |true=>
   rw[fb] at Ha;rw[da] at Hb;by_cases hl:a.length=b.length
   ·obtain⟨k1,k2⟩:=Zbi fb;have Hs:=h_ (λW=>Zbh b (inv a) 1 (by omega) da k1 (by omega) W);have Hi:=h_ (λW=>ZeP a ha W);rw[Vaf (Z3p fb)] at Hi;rw[Vaf ⟨rfl,rfl,hl⟩];have az:(((bs a).size:Int) !=((bs b).size:Int))=false:=(by rw[dJ,fH,hl];exact Vb5 _);simp only;generalize bs (sm b (inv a) 1).1=SR at*;generalize bs (inv a)=SI at*;clear dJ fH he fb da hl k1 k2;generalize bs a=SA at*;generalize bs b=SB at*;go_enter Tryz.func210,Tryz.ntmps210;go_wp2_with fail;refine(Ha.o).mono ?_;rintro x w1 ⟨rfl,a7⟩;go_wp2_with fail;refine(Hb.o _).mono ?_;rintro x w2 ⟨rfl,a8⟩;have aS:=a7.trans (a8.mono a7.size);clear a7 a8;go_wp2_with fail;refine(Hi.o _).mono ?_;rintro x w3 ⟨rfl,af⟩;have oa:=aS.trans (af.mono aS.size);clear aS af;go_wp2_with fail;refine(Hs.o _).mono ?_;rintro x w4 ⟨rfl,ax⟩;have uX:=oa.trans (ax.mono oa.size);clear oa ax;go_wp2;go_returns;exact⟨rfl,uX⟩
   ·rw[Vad (λh=>hl h.2.2)];have az:(((bs a).size:Int) !=((bs b).size:Int))=true:=(by rw[dJ,fH,Va0];omega);simp only[he];clear dJ fH he fb da hl;generalize bs a=SA at*;generalize bs b=SB at*;go_enter Tryz.func210,Tryz.ntmps210;go_wp2_with fail;refine(Ha.o).mono ?_;rintro x w1 ⟨rfl,a7⟩;go_wp2_with fail;refine(Hb.o _).mono ?_;rintro x w2 ⟨rfl,a8⟩;have aS:=a7.trans (a8.mono a7.size);go_wp2;go_returns;exact⟨rfl,aS⟩
theorem Z4I (a b:UInt8):((a.toNat:Int)==(b.toNat:Int))=decide (a=b):=by
 rw[Vbl,beq_iff_eq,Vas];exact⟨λh=>UInt8.toNat_inj.1 (by omega),λh=>by rw[h]⟩
theorem Z2F (v:List UInt8) (hv:v.length<=1099511627776) (w:World):
  Calls Tryz.prog 97 #[.string (bs v)] w λx w'=>x=.returned (.string (bs (shr v)))/\Below w.heap.size w w':=by
 have Hi:=h_ (Z1J v hv w);have he:bs ([]:List UInt8)=⟨#[]⟩:=rfl;unfold shr;cases h:isV v with
 |false=>
  rw[h] at Hi;rw[Vad (by simp),he];clear he;generalize bs v=S at*;go_enter Tryz.func97,Tryz.ntmps97;go_wp2_with fail;refine(Hi.o).mono ?_;rintro x w1 ⟨rfl,a7⟩;go_wp2;go_returns;exact⟨rfl,a7⟩
 |true=>
  rw[h] at Hi;rw[Vaf rfl];obtain⟨h1,h2,h3⟩:=Zv.1 h;have H2:=h_ h2;clear he h h1 h2;go_enter Tryz.func97,Tryz.ntmps97;go_wp2_with fail;refine(Hi.o).mono ?_;rintro x w1 ⟨rfl,a7⟩;have ao:=h_ a7;clear a7 Hi;go_wp2
  go_loopw [0] (λs0 wr=>∃u:List UInt8,s0=.string (bs u)/\Hid (shq u=shq v)/\Hid (u≠[])/\u.length<=128/\Hid (Below w.heap.size w wr)) (λs0 _=>match s0 with
   |.string s=>s.size
   |_=>0)
  case atStart=>exact⟨v,rfl,h_ rfl,H2,h3,ao⟩
  case round=>
   clear ao H2;obtain⟨u,rfl,hq,az,hl,hb⟩:=hrel;have ad:(bs u).size=u.length:=Z0 u;have hex:=Qn (bs u) 1;rw[Ze] at hex;go_upto_region 3 with fail;go_cut [30] (λR1 wx=>∃q:Bool,R1=.bool q/\Hid ((q=true/\∃a b r,u=a::b::r/\a=fr b)\/(q=false/\shq u=u))/\∃k,wx=wr.drewN k)
   case first=>
    clear hex hq hb;match u,az.o with
    |[c],_=>
     have h0:decide ((1:Int)<((bs [c]).size:Int))=false:=(by rw[ad];rfl);have h1:¬(1:Int)<((bs [c]).size:Int):=(by rw[ad];simp);generalize bs [c]=S at*;clear ad;go_quiet (fail);go_wp2;go_meet;case rel=>exact⟨false,rfl,h_ (.inr ⟨rfl,rfl⟩),_,rfl⟩
    |a::b::r,_=>
     have hlen:(bs (a::b::r)).size=r.length+2:=(by rw[ad];rfl);have g0:∀hh:0<(bs (a::b::r)).size,((bs (a::b::r))[0]'hh).toNat=a.toNat:=λhh=>(by rw[Z09 _ 0 (by simp)];rfl);have g1:∀hh:1<(bs (a::b::r)).size,((bs (a::b::r))[1]'hh).toNat=b.toNat:=λhh=>(by rw[Z09 _ 1 (by simp)];rfl);have aM:(1:Int)<((bs (a::b::r)).size:Int):=(by rw[hlen];omega);have cV:decide ((1:Int)<((bs (a::b::r)).size:Int))=true:=Vao aM;have zj:0<(bs (a::b::r)).size:=(by omega);have FE:1<(bs (a::b::r)).size:=(by omega);have x1:=Z4I a b;have x2:=Z4I a 49;have x3:=Z4I a 48;have x4:=Z4I b 49;have y2:(((49:UInt8).toNat:Nat):Int)=49:=rfl;have y3:(((48:UInt8).toNat:Nat):Int)=48:=rfl;rw[y2] at x2 x4;rw[y3] at x3;have z2:((a.toNat:Int) !=49)= !decide (a=49):=(by rw[bne,x2]);have fa:fr b=if b=49 then 48 else b:=rfl
     have tI:=Z1C a b r;have HF:=h_ fa;have pc:=h_ tI;obtain⟨A,hA⟩:∃A,a.toNat=A:=⟨_,rfl⟩;obtain⟨B,hB⟩:∃B,b.toNat=B:=⟨_,rfl⟩;rw[hA] at g0 x1 x2 x3 z2;rw[hB] at g1 x1 x4;generalize bs (a::b::r)=S at*;clear ad hlen y2 y3 fa tI hA hB hl;by_cases c1:a=b
     ·rw[Vao c1] at x1;by_cases c2:a=49
      ·rw[Vao c2] at x2 z2;have c3:¬a=48:=(by rw[c2];decide);rw[Vai c3] at x3
       have dw:Hid (shq (a::b::r)=a::b::r):=h_ (by
        rw[pc.o,Vad];rw[HF.o,<-c1,Vaf c2,c2];decide)
       clear c1 c2 c3 HF pc x2 x4;go_quiet (fail);go_wp2;go_meet;case rel=>exact⟨false,by simp[x1,z2,x3],h_ (.inr ⟨rfl,dw.o⟩),_,rfl⟩
      ·rw[Vai c2] at x2 z2;have dK:Hid (a=fr b):=h_ (by rw[HF.o,<-c1,Vad c2]);clear c1 c2 HF pc x2 x4 x3;go_quiet (fail);go_wp2;go_meet;case rel=>exact⟨true,by simp[x1,z2],h_ (.inl ⟨rfl,a,b,r,rfl,dK.o⟩),_,rfl⟩
     ·rw[Vai c1] at x1;by_cases c2:a=48
      ·rw[Vao c2] at x3;by_cases c3:b=49
       ·rw[Vao c3] at x4;have dK:Hid (a=fr b):=h_ (by rw[HF.o,Vaf c3,c2]);clear c1 c2 c3 HF pc x2 z2;go_quiet (fail);go_wp2;go_meet;case rel=>exact⟨true,by simp[x1,x3,x4],h_ (.inl ⟨rfl,a,b,r,rfl,dK.o⟩),_,rfl⟩
       ·rw[Vai c3] at x4
        have dw:Hid (shq (a::b::r)=a::b::r):=h_ (by
         rw[pc.o,Vad];rw[HF.o,Vad c3];exact c1)
        clear c1 c2 c3 HF pc x2 z2;go_quiet (fail);go_wp2;go_meet;case rel=>exact⟨false,by simp[x1,x3,x4],h_ (.inr ⟨rfl,dw.o⟩),_,rfl⟩
      ·rw[Vai c2] at x3
       have dw:Hid (shq (a::b::r)=a::b::r):=h_ (by
        rw[pc.o,Vad];rw[HF.o];by_cases c3:b=49
        ·rw[Vaf c3];exact c2
        ·rw[Vad c3];exact c1)
       clear c1 c2 HF pc x2 z2 x4;go_quiet (fail);go_wp2;go_meet;case rel=>exact⟨false,by simp[x1,x3],h_ (.inr ⟨rfl,dw.o⟩),_,rfl⟩
   case rest=>
    obtain⟨q,rfl,FF,k,rfl⟩:=hcut;have kE:=h_ (bdN hb.o k);rcases FF.o with ⟨rfl,a,b,r,hu,ha⟩|⟨rfl,dw⟩
    ·have tJ:Hid (shq (b::r)=shq v):=h_ (by rw[<-hq.o,hu,Z1C,Vaf ha]);have jS:u.drop 1=b::r:=(by rw[hu];rfl);rw[jS] at hex;have aM:(1:Int)<=((bs u).size:Int):=(by rw[ad,hu];simp;omega);have R2:1<=(bs u).size:=(by omega);have fI:(b::r).length<=128:=(by rw[hu] at hl;simp at hl⊢;omega);have ga:(bs (b::r)).size<u.length:=(by rw[Z0,hu];simp);have tK:=h_ ga;clear ga;have R3:Hid (b::r≠[]):=h_ (by simp);clear FF hu ha jS hq az hb ad hl;generalize bs u=S at*;go_wp2;refine⟨⟨b::r,rfl,tJ,R3,fI,kE⟩,?_⟩;show(bs (b::r)).size<(bs u).size;rw[Z0 u];exact tK.o
    ·have fp:Hid (bs u=bs (shq v)):=h_ (by rw[<-hq.o,dw]);clear FF dw hex ad;go_wp2;go_returns;exact⟨by rw[<-fp.o];rfl,kE.o⟩
theorem Zbj (c:UInt8):∀n,Lib.repeatL [c] n=List.replicate n c
 |0=>rfl
 |n+1=>by rw[Lib.repeatL,Zbj c n,Vbg];rfl
theorem Zbk (c:UInt8) (n:Nat) (hn:n<=1099511627776) (W:World):
  Calls Tryz.prog 146 #[.string ⟨#[c]⟩,.int .i64 (n:Int)] W λe w'=>e=.returned (.string (bs (List.replicate n c)))/\Below W.heap.size W w':=by
 have h:=Tryz.strings_Repeat ⟨#[c]⟩ n W (by omega) (by rw[show(⟨#[c]⟩:ByteArray).size=1 from rfl];omega);refine h.mono ?_;rintro x w1 ⟨rfl,h2⟩;refine⟨?_,h2⟩;rw[<-Zbj];rfl
theorem Zbl (n:Int) (c:UInt8) (w:World):
  Calls Tryz.prog 95 #[.int .i64 n,.int .u8 (c.toNat:Int)] w λx w'=>x=.returned (.string (bs (allV n c)))/\Below w.heap.size w w':=by
 have Hv:=h_ (λW=>Z8H c W);have he:bs ([]:List UInt8)=⟨#[]⟩:=rfl;unfold allV;by_cases h1:n<1
 ·rw[Vaf (.inl h1),he];clear he Hv;go_enter Tryz.func95,Tryz.ntmps95;go_wp2;go_returns;exact⟨rfl,Vae _ _⟩
 ·by_cases h2:128<n
  ·rw[Vaf (.inr (.inl h2)),he];clear he Hv;go_enter Tryz.func95,Tryz.ntmps95;go_wp2;go_returns;exact⟨rfl,Vae _ _⟩
  ·cases h3:isC c with
   |false=>
    rw[Vaf (.inr (.inr rfl)),he];rw[h3] at Hv;clear he h3;generalize (c.toNat:Int)=C at*;go_enter Tryz.func95,Tryz.ntmps95;go_wp2_with fail;refine(Hv.o _).mono ?_;rintro x w1 ⟨rfl,rfl⟩;go_wp2;go_returns;exact⟨rfl,Vae _ _⟩
   |true=>
    rw[Vad (by simp[h1,h2])];rw[h3] at Hv;have eD:=Z74 (P:=Tryz.prog) 115 9 5 Tryz.underlying115 Tryz.underlying5 Tryz.underlying9 w (c.toNat:Int);have e1:UInt8.ofNat (c.toNat:Int).toNat=c:=(by simp);rw[e1] at eD;obtain⟨m,rfl⟩:∃m:Nat,n=m:=⟨n.toNat,by omega⟩;rw[Vav];have Hr:=h_ (λW=>Zbk c m (by omega) W);have aB:=Zy w (.cells #[.int .u8 (c.toNat:Int)] 5);have aL:=h_ aB;clear he h3 e1 aB;generalize (c.toNat:Int)=C at*;generalize bs (List.replicate m c)=SR at*;go_enter Tryz.func95,Tryz.ntmps95;go_wp2_with fail;refine(Hv.o _).mono ?_;rintro x w1 ⟨rfl,rfl⟩;go_wp2_with fail;refine(Hr.o _).mono ?_;rintro x w1 ⟨rfl,hb⟩;have aS:=aL.o.trans (hb.mono aL.o.size);clear hb aL Hv Hr eD;go_wp2;go_returns;exact⟨rfl,aS⟩
theorem ZhV (n:Int) (v:List UInt8) (hv:v.length<=1099511627776) (w:World):
  Calls Tryz.prog 148 #[.int .i64 n,.string (bs v)] w λx w'=>x=.returned (.tuple #[.string (bs (ext n v).1),.int .i64 ((ext n v).2:Int)])/\Below w.heap.size w w':=by
 have he:bs ([]:List UInt8)=⟨#[]⟩:=rfl;have ad:(bs v).size=v.length:=Z0 v;have Hc:=h_ (Z1I v hv w);unfold ext;by_cases h1:n<1
 ·rw[Vaf (.inl h1)];simp only[he];clear he ad Hc;generalize bs v=S at*;go_enter Tryz.func148,Tryz.ntmps148;go_wp2;go_returns;exact⟨rfl,Vae _ _⟩
 ·by_cases h2:128<n
  ·rw[Vaf (.inr h2)];simp only[he];clear he ad Hc;generalize bs v=S at*;go_enter Tryz.func148,Tryz.ntmps148;go_wp2;go_returns;exact⟨rfl,Vae _ _⟩
  ·rw[Vad (by omega)];obtain⟨m,rfl⟩:∃m:Nat,n=m:=⟨n.toNat,by omega⟩;match v,hv with
   |[],_=>
    have cB:=Xl [];rw[Vao rfl] at cB;simp only[he] at*;unfold cnA at Hc;generalize (cn 0 []:Int)=n0 at*;generalize (cn 1 []:Int)=n1 at*;generalize (cn 2 []:Int)=n2 at*;generalize (cn 3 []:Int)=n3 at*;clear ad;go_enter Tryz.func148,Tryz.ntmps148;go_wp2_with fail;refine(Hc.o).mono ?_;rintro x w1 ⟨rfl,a7⟩;have Hb:=h_ (a7.alloc a7.size (.cells #[.int .i64 n0,.int .i64 n1,.int .i64 n2,.int .i64 n3] 209));clear a7;go_wp2;go_returns;exact⟨rfl,Hb.o⟩
   |c::t,hv=>
    have cB:=Xl (c::t);rw[Vai (by simp)] at cB;obtain⟨s1,s2,s3,s4⟩:=Zbg (c::t)
    have nn:decide ((cn 0 (c::t):Int)+(cn 1 (c::t):Int)+(cn 2 (c::t):Int)+(cn 3 (c::t):Int)=((bs (c::t)).size:Int))=(c::t).all isC:=by
     rw[Vbl,Vas,Vbv,ad];constructor
     ·intro h x hx;have:=s2.1 (by omega) x hx;unfold isC;rw[Vas];exact this
     ·intro h;have:=s2.2 (λx hx=>by have:=h x hx;unfold isC at this;simpa using this);omega
    have hlen:cn 0 (c::t)<=1099511627776/\cn 1 (c::t)<=1099511627776/\cn 2 (c::t)<=1099511627776/\cn 3 (c::t)<=1099511627776:=by omega
    have tL:((cn 0 (c::t):Int)+(cn 1 (c::t):Int)+(cn 2 (c::t):Int)+(cn 3 (c::t):Int) !=((bs (c::t)).size:Int))= !((c::t).all isC):=by
     rw[<-nn,bne,Bool.not_eq_eq_eq_not,Bool.not_not,Vbl,beq_iff_eq,Vas]
    obtain⟨l0,l1,l2,l3⟩:=hlen;unfold cnA at Hc;generalize cn 0 (c::t)=n0 at*;generalize cn 1 (c::t)=n1 at*;generalize cn 2 (c::t)=n2 at*;generalize cn 3 (c::t)=n3 at*;clear s1 s2 s3 s4 nn;simp only;cases ha:(c::t).all isC with
    |false=>
     rw[Vaf rfl];rw[ha] at tL;simp only[he];clear ad;generalize bs (c::t)=S at*;go_enter Tryz.func148,Tryz.ntmps148;go_wp2_with fail;refine(Hc.o).mono ?_;rintro x w1 ⟨rfl,a7⟩;have Hb:=h_ (a7.alloc a7.size (.cells #[.int .i64 (n0:Int),.int .i64 (n1:Int),.int .i64 (n2:Int),.int .i64 (n3:Int)] 209));clear a7;go_wp2;go_returns;exact⟨rfl,Hb.o⟩
    |true=>
     rw[Vad (by simp)];rw[ha] at tL;by_cases ab:(m:Int)<((c::t).length:Int)
     ·rw[Vaf ab];rw[<-ad] at ab;simp only[he];clear ad;generalize bs (c::t)=S at*;go_enter Tryz.func148,Tryz.ntmps148;go_wp2_with fail;refine(Hc.o).mono ?_;rintro x w1 ⟨rfl,a7⟩;have Hb:=h_ (a7.alloc a7.size (.cells #[.int .i64 (n0:Int),.int .i64 (n1:Int),.int .i64 (n2:Int),.int .i64 (n3:Int)] 209));clear a7;go_wp2;go_returns;exact⟨rfl,Hb.o⟩
     ·rw[Vad ab];have gd:(m:Int)-((bs (c::t)).size:Int)=((m-(c::t).length:Nat):Int):=(by rw[ad];omega);have bQ:¬(m:Int)<((bs (c::t)).size:Int):=(by rw[ad];exact ab);have bU:0<(bs (c::t)).size:=(by rw[ad];simp);have bm:∀h:0<(bs (c::t)).size,((bs (c::t))[0]'h).toNat=c.toNat:=λh=>(by rw[Z09 _ 0 (by simp)];rfl);have p7:bs (List.replicate (m-(c::t).length) (fr c))++bs (c::t)=bs (List.replicate (m-(c::t).length) (fr c)++(c::t)):=Zg _ _;have uY:=h_ p7;obtain⟨d,hd⟩:∃d,m-(c::t).length=d:=⟨_,rfl⟩;have oc:d<=128:=(by omega);have eG:(m:Int)<=128:=(by omega);simp only[Vav];rw[hd] at gd uY⊢;have Hr:=h_ (λW=>Zbk (fr c) d (by omega) W);have pd:Hid ((bs (List.replicate d (fr c))).size+(bs (c::t)).size<=128):=h_ (by rw[Z0,Z0,Vaw];omega);have e1:UInt8.ofNat ((fr c).toNat:Int).toNat=fr c:=(by simp);have eD:=λW=>Z74 (P:=Tryz.prog) 115 9 5 Tryz.underlying115 Tryz.underlying5 Tryz.underlying9 W ((fr c).toNat:Int);rw[e1] at eD
      have hf:((fr c).toNat:Int)=if c=49 then 48 else(c.toNat:Int):=by
       unfold fr;by_cases h:c=49
       ·rw[Vaf h,Vaf h];rfl
       ·rw[Vad h,Vad h]
      have hq:=Z4I c 49;rw[show(((49:UInt8).toNat:Nat):Int)=49 from rfl] at hq;rw[<-uY.o];obtain⟨A,hA⟩:∃A,c.toNat=A:=⟨_,rfl⟩;rw[hA] at bm hf hq;obtain⟨F,hF⟩:∃F,((fr c).toNat:Int)=F:=⟨_,rfl⟩;rw[hF] at hf eD;generalize bs (List.replicate d (fr c))=SR at*;generalize fr c=f at*;clear uY hd ad he p7 ha e1 hA hF ab;generalize bs (c::t)=S at*;have FG:SR.size+S.size<=128:=pd.o;by_cases rU:c=49
      ·rw[Vaf rU] at hf;rw[Vao rU] at hq;subst hf;clear rU;go_enter Tryz.func148,Tryz.ntmps148;go_wp2_with fail;refine(Hc.o).mono ?_;rintro x w1 ⟨rfl,a7⟩;have Hb:=h_ (a7.alloc a7.size (.cells #[.int .i64 (n0:Int),.int .i64 (n1:Int),.int .i64 (n2:Int),.int .i64 (n3:Int)] 209));have an:=h_ (Hb.o.alloc Hb.o.size (.cells #[.int .u8 48] 5));have xR:=eD (w1.alloc (.cells #[.int .i64 (n0:Int),.int .i64 (n1:Int),.int .i64 (n2:Int),.int .i64 (n3:Int)] 209));rw[World.size_alloc] at xR;clear a7 eD Hb;go_wp2_with fail;refine(Hr.o _).mono ?_;rintro x w2 ⟨rfl,a8⟩;have aS:=an.o.trans (a8.mono an.o.size);clear a8 an Hr xR Hc;go_wp2;go_returns;exact⟨rfl,aS⟩
      ·rw[Vad rU] at hf;rw[Vai rU] at hq;subst hf;clear rU;go_enter Tryz.func148,Tryz.ntmps148;go_wp2_with fail;refine(Hc.o).mono ?_;rintro x w1 ⟨rfl,a7⟩;have Hb:=h_ (a7.alloc a7.size (.cells #[.int .i64 (n0:Int),.int .i64 (n1:Int),.int .i64 (n2:Int),.int .i64 (n3:Int)] 209));have an:=h_ (Hb.o.alloc Hb.o.size (.cells #[.int .u8 (A:Int)] 5));have xR:=eD (w1.alloc (.cells #[.int .i64 (n0:Int),.int .i64 (n1:Int),.int .i64 (n2:Int),.int .i64 (n3:Int)] 209));rw[World.size_alloc] at xR;clear a7 eD Hb;go_wp2_with fail;refine(Hr.o _).mono ?_;rintro x w2 ⟨rfl,a8⟩;have aS:=an.o.trans (a8.mono an.o.size);clear a8 an Hr xR Hc;go_wp2;go_returns;exact⟨rfl,aS⟩
theorem ZeS {p q:Nat} (hp:p<4) (hq:q<4):Go.bits .xor .i64 (p:Int) (q:Int)=((p ^^^ q:Nat):Int):=by
 rcases(show p=0\/p=1\/p=2\/p=3 by omega) with rfl|rfl|rfl|rfl<;>rcases(show q=0\/q=1\/q=2\/q=3 by omega) with rfl|rfl|rfl|rfl<;>decide
theorem Zbm {c:UInt8} (h:cd c<4):cdI c=(cd c:Int):=by unfold cdI;rw[Vaf h]
def mxA (a b:List UInt8) (i:Nat):List UInt8:=List.zipWith mx (a.take i) (b.take i)++List.replicate (a.length-i) 0
theorem ZhW (a b:List UInt8) (hl:a.length=b.length) (i:Nat) (hi:i<=a.length):(mxA a b i).length=a.length:=by
 unfold mxA;rw[Vab,Vb9,Vau,Vau,Vaw];omega
theorem ZhX (a b:List UInt8) (hl:a.length=b.length) (i:Nat) (ha:i<a.length) (hb:i<b.length):(mxA a b i).set i (mx a[i] b[i])=mxA a b (i+1):=by
 have hz:(List.zipWith mx (a.take i) (b.take i)).length=i:=by
  rw[Vb9,Vau,Vau];omega
 unfold mxA
 rw[Va8 _ _ (by omega),hz,Va7,Vac ha,Vac hb,
  List.zipWith_append (by rw[Vau,Vau];omega),show a.length-i=(a.length-(i+1))+1 by omega,Vbg,List.set_cons_zero]
 simp
theorem ZeT (a b:List UInt8) (kG:a.length<=1099511627776) (cD:b.length<=1099511627776) (w:World):
  Calls Tryz.prog 170 #[.string (bs a),.string (bs b)] w λx w'=>x=.returned (.tuple #[.string (bs (mixV a b).1),.int .i64 ((mixV a b).2:Int)])/\Below w.heap.size w w':=by
 have Ha:=h_ (Z1J a kG w);have Hb:=h_ (λW=>Z1J b cD W);have dJ:(bs a).size=a.length:=Z0 a;have fH:(bs b).size=b.length:=Z0 b;have he:bs ([]:List UInt8)=⟨#[]⟩:=rfl;unfold mixV;cases fb:isV a with
 |false=>
  rw[fb] at Ha;rw[Vaf (.inl rfl)];simp only[he];clear dJ fH he;generalize bs a=SA at*;generalize bs b=SB at*;go_enter Tryz.func170,Tryz.ntmps170;go_wp2_with fail;refine(Ha.o).mono ?_;rintro x w1 ⟨rfl,a7⟩;go_wp2;go_returns;exact⟨rfl,a7⟩
 |true=>
  cases da:isV b with
  |false=>
   rw[fb] at Ha;rw[da] at Hb;rw[Vaf (.inr rfl)];simp only[he];clear dJ fH he;generalize bs a=SA at*;generalize bs b=SB at*;go_enter Tryz.func170,Tryz.ntmps170;go_wp2_with fail;refine(Ha.o).mono ?_;rintro x w1 ⟨rfl,a7⟩;go_wp2_with fail;refine(Hb.o _).mono ?_;rintro x w2 ⟨rfl,a8⟩;have aS:=a7.trans (a8.mono a7.size);go_wp2;go_returns;exact⟨rfl,aS⟩
  |true=>
   rw[fb] at Ha;rw[da] at Hb;rw[Vad (by simp)];by_cases hl:a.length=b.length
   ·rw[Vad (by simp[hl])];simp only;have az:(((bs a).size:Int) !=((bs b).size:Int))=false:=(by rw[dJ,fH,hl];exact Vb5 _);obtain⟨a1,a2,a3⟩:=Zv.1 fb;obtain⟨b1,b2,b3⟩:=Zv.1 da;have mN:Hid (∀(i:Nat) (h:i<a.length) (h2:i<(bs a).size),(bs a)[i]'h2=a[i]'h):=h_ (λi h h2=>Z09 a i h h2);have oO:Hid (∀(i:Nat) (h:i<b.length) (h2:i<(bs b).size),(bs b)[i]'h2=b[i]'h):=h_ (λi h h2=>Z09 b i h h2);obtain⟨n,hn⟩:∃n,a.length=n:=⟨_,rfl⟩;have rR:b.length=n:=(by omega);have bG:=λW=>Yg (P:=Tryz.prog) 115 5 (.int .u8 0) 1 Tryz.underlying115 (by kernel_rfl) rfl ((bs a).size:Int) n (by rw[dJ,hn]) (by omega) (by omega) W
    have aQ:(Array.replicate n (.int .u8 0:Value))=((mxA a b 0).map bv).toArray:=by
     unfold mxA;rw[Vbw,List.zipWith_nil_left,Vbz,Nat.sub_zero,List.map_replicate,hn];rfl
    have aT:=h_ aQ;have av:=h_ (λi (hi:i<=n)=>(show(mxA a b i).length=n by rw[ZhW a b hl i (by omega),hn]));have aW:=h_ (λi (h1:i<a.length) (h2:i<b.length)=>ZhX a b hl i h1 h2)
    have dT:Hid (mxA a b n=List.zipWith mx a b):=h_ (by
     unfold mxA;rw[Vah (by omega),Vah (by omega),hn,Va7,List.replicate_zero,Va3])
    have qX:=h_ a1;have ao:=h_ b1;have Hn:=h_ hn;have Fy:=h_ rR;rw[hn] at dJ;rw[rR] at fH;obtain⟨SA,zf⟩:∃s,bs a=s:=⟨_,rfl⟩;obtain⟨SB,rS⟩:∃s,bs b=s:=⟨_,rfl⟩;rw[zf] at dJ az bG mN Ha⊢;rw[rS] at fH az oO Hb⊢;rw[hn] at a3;have xP:=h_ dJ;have Fz:=h_ fH;clear aQ a1 b1 hn rR zf rS dJ fH kG cD a2 b2 b3 he fb da hl;go_enter Tryz.func170,Tryz.ntmps170;go_wp2_with fail;refine(Ha.o).mono ?_;rintro x w1 ⟨rfl,a7⟩;go_wp2_with fail;refine(Hb.o _).mono ?_;rintro x w2 ⟨rfl,a8⟩;have aS:=a7.trans (a8.mono a7.size);have oZ:=bG w2;have cj:=Bk.new w2 5 (Array.replicate n (.int .u8 0));rw[aT.o] at cj;have dy:=h_ cj;have aB:=h_ (aS.alloc aS.size (.cells (Array.replicate n (.int .u8 0)) 5));have hG:=aS.size;obtain⟨G,Lc⟩:∃G,w2.heap.size=G:=⟨_,rfl⟩;rw[Lc] at oZ hG dy;rw[<-aT.o] at dy;generalize w2.alloc (.cells (Array.replicate n (.int .u8 0)) 5)=W0 at*;clear bG Ha Hb a7 a8 aS cj Lc;rw[aT.o] at dy;go_wp2;go_loopw [26] (λuZ wr=>∃i:Nat,i<=n/\uZ=.int .i64 (i:Int)/\Hid (Bk wr G 5 ((mxA a b i).map bv).toArray)/\Hid (Below w.heap.size w wr)) (λuZ _=>(n-intOf uZ).toNat);case atStart=>exact⟨0,Vat _,rfl,dy,aB⟩
    case round=>
     clear dy aB oZ aT;obtain⟨i,hi,rfl,aD,hb⟩:=hrel;by_cases ab:i<n
     ·have tG:i<a.length:=(by rw[Hn.o];exact ab);have qY:i<b.length:=(by rw[Fy.o];exact ab);have nm:=mN.o i tG;have iV:=oO.o i qY;have rT:=qX.o a[i] (Vak _);have jh:=ao.o b[i] (Vak _);have hs:=aW.o i tG qY;have fJ:=av.o i hi;have aj:=aD.o.put i (bv (mx a[i] b[i]));rw[List.setIfInBounds_toArray,<-List.map_set,hs] at aj;have hcell:=aD.o.cell i;rw[Vbe,Vbb,Van (by omega)] at hcell;have fi:=aD.o.frozen i;obtain⟨old,hold⟩:∃o,(Option.map bv (some (mxA a b i)[i]))=some o:=⟨_,rfl⟩;rw[hold] at hcell;have FH:=h_ (λW=>Qr a[i] W);have xS:=h_ (λW=>Qr b[i] W);have zk:=h_ (λW=>Z7u (cd a[i] ^^^ cd b[i]) (Zaw _ rT _ jh).1 W);rw[Zbm rT] at FH;rw[Zbm jh] at xS;have R4:=ZeS rT jh;have zl:mx a[i] b[i]=ch (cd a[i] ^^^ cd b[i]):=rfl;rw[zl] at aj;have aA:=h_ aj;have jQ:=h_ (hb.o.setCell (p:=⟨G,i,none⟩) hG (bv (ch (cd a[i] ^^^ cd b[i]))));unfold bv at aA jQ;have zm:∀h:i<SA.size,((SA[i]'h).toNat:Int)=(a[i].toNat:Int):=λh=>(by rw[nm h]);have zn:∀h:i<SB.size,((SB[i]'h).toNat:Int)=(b[i].toNat:Int):=λh=>(by rw[iV h]);have L9:i<SA.size:=(by rw[xP.o];omega);have La:i<SB.size:=(by rw[Fz.o];omega);obtain⟨Z,hZ⟩:∃z,((ch (cd a[i] ^^^ cd b[i])).toNat:Int)=z:=⟨_,rfl⟩;rw[hZ] at aA jQ zk;clear aj hs fJ hold zl nm iV rT jh hZ aD hb;generalize (cd a[i] ^^^ cd b[i])=M at*;generalize cd a[i]=P at*;generalize cd b[i]=Q at*;have R5:=zm L9;have Vz:=zn La;generalize (a[i].toNat:Int)=A at*;generalize (b[i].toNat:Int)=B at*;have iZ:(0:Int)<=(i:Int):=(by omega);have dp:(i:Int)<(n:Int):=(by omega);clear zm zn tG qY aW av dT mN oO qX ao;have VA:(i:Int)<(SA.size:Int):=(by omega);have FJ:(i:Int)<(SB.size:Int):=(by omega);go_wp2
      go_region_with (first
       |(go_at_call 205;with_reducible refine(zk.o _).mono ?_;rintro r w9 ⟨rfl,rfl⟩)
       |(go_at_call 165;with_reducible refine(FH.o _).mono ?_;rintro r w9 ⟨rfl,rfl⟩)
       |(go_at_call 165;with_reducible refine(xS.o _).mono ?_;rintro r w9 ⟨rfl,rfl⟩))
      all_goals
       clear hcell fi FH xS zk;go_wp2;go_roundw;case rel=>first|exact⟨i+1,ab,by go_num,h_ (aA.o.drew),h_ (jQ.o.drew)⟩|((repeat apply Exists.intro);exact⟨⟨i+1,ab,by go_num,h_ (aA.o.drew),h_ (jQ.o.drew)⟩,rfl⟩)
       case measure=>simp[intOf]<;>omega
     ·have aU:i=n:=(by omega);subst aU;have dF:=aD.o;rw[dT.o] at dF;have fJ:(List.zipWith mx a b).length=i:=(by rw[<-dT.o];exact av.o i UZz)
      have jk:=run_convert_bytes_back (P:=Tryz.prog) wr 115 9 5 ⟨G,0,none⟩ i (List.zipWith mx a b) Tryz.underlying115 Tryz.underlying5 Tryz.underlying9 (λj hj=>by
       rw[Go.WideShapes.add_plain,Vbo,dF.cell j,Vbe,Vbb,Van hj];rfl)
      rw[fJ] at jk;have iw:(⟨(List.zipWith mx a b).toArray⟩:ByteArray)=bs (List.zipWith mx a b):=rfl;rw[iw] at jk;obtain⟨SR,pa⟩:∃s,bs (List.zipWith mx a b)=s:=⟨_,rfl⟩;rw[pa] at jk;have zc:=h_ pa;clear dF fJ iw pa aD aW av dT mN oO qX ao;go_wp2;go_returns;exact⟨by rw[zc.o];rfl,hb.o⟩
   ·rw[Vaf hl];have az:(((bs a).size:Int) !=((bs b).size:Int))=true:=(by rw[dJ,fH,Va0];omega);simp only[he];clear dJ fH he fb da hl;generalize bs a=SA at*;generalize bs b=SB at*;go_enter Tryz.func170,Tryz.ntmps170;go_wp2_with fail;refine(Ha.o).mono ?_;rintro x w1 ⟨rfl,a7⟩;go_wp2_with fail;refine(Hb.o _).mono ?_;rintro x w2 ⟨rfl,a8⟩;have aS:=a7.trans (a8.mono a7.size);go_wp2;go_returns;exact⟨rfl,aS⟩
end Go.Proofs.YtchokmkfobandaaGreatDoor
