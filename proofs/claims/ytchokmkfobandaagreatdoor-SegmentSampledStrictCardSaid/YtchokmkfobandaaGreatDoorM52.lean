import Derived.Test.YtchokmkfobandaaGreatDoorM50
import Derived.Test.YtchokmkfobandaaGreatDoorM48
set_option linter.unusedVariables false
set_option linter.unusedSimpArgs false
set_option maxRecDepth 100000
set_option maxHeartbeats 8000000
namespace Wv.Sg
open Wv.Vi Wv.Ru Wv.Bc Wv.Fm Wv.Lz Wv.Sn Wv.Tm Wv.Dc
open Go.Proofs.YtchokmkfobandaaGreatDoor
theorem Ze1 {s:Int×Int} {f t k:Int} {l:List Chg} (h:ssV s f t k l=true):∀x∈l,x.2.size<=1099511627776:=by
 intro x hx;unfold ssV at h;rw[Va0,Vbp] at h;have:=Z8h (h.2 x hx);rw[Z1] at this;omega
theorem ZgB {f t k:Int} {l:List Chg} (h:l.map (·.1)=ms f t k) (i:Nat) (hi:i<l.length):l[i].1=fstM f k+i*k/\1<=k/\f<l[i].1/\l[i].1<=t/\l[i].1 % k=0:=by
 have hl:i<(ms f t k).length:=by rw[<-h,Vag];exact hi
 have e:l[i].1=(ms f t k)[i]:=by
  have:(l.map (·.1))[i]'(by rw[Vag];exact hi)=(ms f t k)[i]:=(by simp only[h]);rw[<-this,Vcf]
 rw[e];exact⟨Z5D f t k i hl,Zj7 (Vaj hl)⟩
end Wv.Sg
namespace Go.Proofs.YtchokmkfobandaaGreatDoor
open Go.RowKit Go.Proofs Wv Wv.Vi Wv.Ru Wv.Bc Wv.Sn Wv.Sg Wv.Dc
theorem ZgC {w:World} (a c f t k:Int) (hk:I64 k) (hv:VaC a c w) (d:List UInt8) (hd:d.length<=1000000000) {l:List (Int×ByteArray)} {e:Nat} (h:ssD (a,c) f t k d=(l,e)):
  Calls Tryz.prog 26 #[.agg #[.int .i64 a,.int .i64 c],.int .i64 f,.int .i64 t,.int .i64 k,.string (bs d)] w λx w'=>∃A cap,x=.returned (.tuple #[.slice A l.length cap,.int .i64 (e:Int)])/\At w' A (cv l)/\Below w.heap.size w w':=
 (Ze0 a c f t k hk hv d hd).mono λx w' hx=>by
  rw[h] at hx;obtain⟨v,h1,⟨A,cap,h2,h3⟩,h4⟩:=hx;exact⟨A,cap,by rw[h1,h2],h3,h4⟩
theorem ZgD {w:World} {A:Option Addr} {l:List (Int×ByteArray)} (ha:At w A (cv l)) (a c f t k:Int) (hk:I64 k) (hv:VaC a c w) (ad:∀x∈l,x.2.size<=1099511627776) (n cap:Nat) (hn:n=l.length) (bf:n<=9223372036854775807) {d:List UInt8} {e:Nat} (h:ssE (a,c) f t k l=(d,e)):
  Calls Tryz.prog 22 #[.agg #[.int .i64 a,.int .i64 c],.int .i64 f,.int .i64 t,.int .i64 k,.slice A n cap] w λx w'=>x=.returned (.tuple #[.string (bs d),.int .i64 (e:Int)])/\Below w.heap.size w w':=by
 have:=ZdY ha a c f t k hk hv ad n cap hn bf;unfold ERes at this;rw[h] at this;exact this
theorem Z5M (a c:Int) (KD:I64 a/\I64 c) (f:Int) (hf:I64 f) (t:Int) (ht:I64 t) (k:Int) (hk:I64 k) (data:ByteArray) (hd:data.size<=9223372036854775807) {w:World} (lQ:Tab w):
  Calls Tryz.prog 9 #[.agg #[.int .i64 a,.int .i64 c],.int .i64 f,.int .i64 t,.int .i64 k,.string data] w λx w'=>x=.returned (.bool true)/\Below w.heap.size w w':=by
 have HK:=h_ (λW h=>Y5 (w:=w) (W:=W) (a:=a) (c:=c) h);have rG:=h_ (λW=>Z3i W);have mN:=h_ (λW (h:Below w.heap.size w W)=>ZdZ a c (lQ.below h));clear KD hf;by_cases g1:(600:Int)<(data.size:Int)
 ·clear hd lQ mN hk ht;go_enter Tryz.func9,Tryz.ntmps9;go_wp2_with fail;refine(rG.o _).mono ?_;rintro x w1 ⟨rfl,a7⟩;obtain⟨z0,z1,a8,_⟩:=HK.o _ a7;have ak:=h_ a8;clear a7 a8;go_wp2;go_returns;exact⟨rfl,ak.o⟩
 ·have KE:(toL data).length<=1000000000:=(by rw[Z1];omega);obtain⟨⟨l,e⟩,hD⟩:∃y,ssD (a,c) f t k (toL data)=y:=⟨_,rfl⟩;have HD:=h_ (λW (h:Below w.heap.size w W)=>ZgC a c f t k hk (mN.o W h) (toL data) KE hD);rw[Za] at HD;by_cases he:e=0
  ·subst he;obtain⟨hE,Dk⟩:=ZkP hD;have hV:=(Zlp hE).2;have ph:=Ze1 hV
   have el:l.length<=4096:=by
    have:=Z4f f t k;rw[<-Dk,Vag] at this;exact this
   have HE:=h_ (λW A cap (h:Below w.heap.size w W) (ha:At W A (cv l))=>ZgD ha a c f t k hk (mN.o W h) ph l.length cap rfl (by omega) hE);rw[Za] at HE;have HT:=h_ (λi h=>ZgB Dk i h);have heq:(data.toList==data.toList)=true:=Vcr _
   have dB:0<l.length->-1<=f/\t<=1099511627776:=λh=>by
    have aO:=Zj7 (f:=f) (t:=t) (k:=k) (x:=l[0].1) (by rw[<-Dk];exact List.mem_map_of_mem (Vaj h));by_cases hit:itv f t=true
    ·obtain⟨i1,_,i3⟩:=XT.1 hit;exact⟨i1,i3⟩
    ·exfalso
     have:(ms f t k).length=0:=by
      rw[Z3d];unfold nM;rw[Vaf (.inl (by simpa using hit))];rfl
     rw[<-Dk,Vag] at this;omega
   have tN:=h_ dB;have cK:=hk.2;clear hd lQ mN KE hD hE hV ph hk Dk ht dB;go_enter Tryz.func9,Tryz.ntmps9;go_wp2_with fail;refine(rG.o _).mono ?_;rintro x w1 ⟨rfl,a7⟩;obtain⟨z0,z1,a8,_⟩:=HK.o _ a7;have al:=h_ a7;have tU:=h_ (HD.o _ a8);clear a7 a8;go_wp2_with fail;refine(tU.o).mono ?_;rintro x w2 ⟨A2,aE,rfl,an,af⟩;have aA:=h_ (al.o.trans (af.mono al.o.size));have bJ:=h_ an;clear af an tU;go_wp2;go_loopw [50] (λKF wr=>∃i:Nat,i<=l.length/\KF=.int .i64 (i:Int)/\Hid (Below w2.heap.size w2 wr)) (λKF _=>(l.length-intOf KF).toNat);case atStart=>exact⟨0,Var _,rfl,h_ (Vae _ _)⟩
   case round=>
    obtain⟨i,hi,rfl,hb⟩:=hrel;by_cases ab:i<l.length
    ·obtain⟨bA,oA,rfl,lV,c0,c1⟩:=ZP (bJ.o.below hb.o) i ab;obtain⟨t1,t2,t3,t4,t5⟩:=HT.o i ab;obtain⟨f1,f2⟩:=tN.o (by omega)
     have iy:=λ(j:Nat) (e:i=j+1)=>(show ∃Y,wr.cell? ⟨bA,oA+j*2,none⟩=some (.int .i64 Y)/\Y+k=l[i].1/\f<Y by
      obtain⟨bB,oB,KG,_,e0,_⟩:=ZP (bJ.o.below hb.o) j (by omega);injection KG with KG;injection KG with q1 q2;subst q1;subst q2;obtain⟨p1,_,p3,_,_⟩:=HT.o j (by omega);refine⟨_,e0,?_,p3⟩;rw[t1,p1,e,Vch,Vct];omega)
     obtain⟨⟨X,V⟩,hs⟩:∃y,l[i]=y:=⟨_,rfl⟩;rw[hs] at c0 c1 t1 t3 t4 t5 iy;simp only at c0 c1 t1 t3 t4 t5 iy;have fq:=h_ ((hb.o.alloc hb.o.size (.cells #[.int .i64 X,.string V] 33)));have By:bA<wr.heap.size:=lV;have d1:decide (k<1)=false:=Vah (by omega);have d2:decide (X<=f)=false:=Vah (by omega);have d3:decide (t<X)=false:=Vah (by omega);have ES:¬k=0:=(by omega);have hd:X.tmod k=0:=(by rw[Vb8 (by omega)];exact t5);have iS:(0:Int)<=(i:Int):=(by omega);have nI:(i:Int)<(l.length:Int):=(by omega);have WE:X<=1099511627776:=(by omega);have WH:f<X:=t3;have aC: -1<=f:=f1;have n1:¬k<1:=(by omega);have n2:¬X<=f:=(by omega);have n3:¬t<X:=(by omega);clear hs t1 t2 t3 t4 t5 hb lV f1 f2;cases i with
     |zero=>
      clear iy;simp at c0 c1;go_wp2;go_quiet (fail);go_wp2
      all_goals first
       |(refine⟨⟨1,ab,by go_num,h_ ⟨fq.o.1,fq.o.2,fq.o.3,fq.o.4,fq.o.5⟩⟩,?_⟩;simp[intOf]<;>omega)
     |succ j=>
      obtain⟨Y,y0,y1,y2⟩:=iy j rfl;clear iy;have jj:IntKind.i64.wrap (Y+k)=X:=(by rw[IntWalk.i64_in _ (by omega)];exact y1);have gx:(0:Int)<=(j:Int):=(by omega);have HH:(j:Int)<(l.length:Int):=(by omega);have d4:decide ((0:Int)<(j:Int)+1)=true:=Vam (by omega);have ay:(X !=X)=false:=Vca _;go_wp2;go_quiet (fail);go_wp2
      all_goals first
       |(refine⟨⟨j+2,ab,by go_num,h_ ⟨fq.o.1,fq.o.2,fq.o.3,fq.o.4,fq.o.5⟩⟩,?_⟩;simp[intOf]<;>omega)
    ·have aO:i=l.length:=(by omega);subst aO;have lW:=h_ (aA.o.trans (hb.o.mono aA.o.size));obtain⟨z0,z1,au,_⟩:=HK.o _ lW.o;have ss:=h_ (HE.o _ A2 aE au (bJ.o.below hb.o));have aU:=h_ au;clear au;go_wp2_with fail;refine(ss.o).mono ?_;rintro x w3 ⟨rfl,aB⟩;have bj:=h_ (aU.o.trans (aB.mono aU.o.size));clear aB;go_wp2;go_returns;exact⟨rfl,bj.o⟩
  ·obtain⟨e2,h,rJ⟩:=Zjf (s:=(a,c)) (f:=f) (t:=t) (k:=k) (d:=toL data) (by rw[hD];exact he);rw[hD] at h;injection h with h1 h2;subst h1;subst h2;simp only[Vb6] at HD;rcases rJ with rfl|rfl|rfl
   all_goals
    clear hd lQ mN KE hD he hk ht;go_enter Tryz.func9,Tryz.ntmps9;go_wp2_with fail;refine(rG.o _).mono ?_;rintro x w1 ⟨rfl,a7⟩;obtain⟨z0,z1,a8,_⟩:=HK.o _ a7;have al:=h_ a8;have tU:=h_ (HD.o _ a8);clear a7 a8;go_wp2_with fail;refine(tU.o).mono ?_;rintro x w2 ⟨A2,aE,rfl,an,af⟩;have aA:=h_ (al.o.trans (af.mono al.o.size));clear af an tU;go_wp2;go_returns;exact⟨rfl,aA.o⟩
end Go.Proofs.YtchokmkfobandaaGreatDoor
