import Derived.Test.YtchokmkfobandaaGreatDoorJ52
set_option linter.unusedVariables false
set_option linter.unusedSimpArgs false
set_option maxRecDepth 100000
set_option maxHeartbeats 8000000
namespace Wv.Sg
theorem pt_n {a b k:Int} (hk:1<=k) (h:itv a b=true) (hb:b-a<=4096):nM a b k=upM b k-upM a k/\0<=nM a b k:=by
 obtain⟨i1,i2,i3⟩:=Z1d.1 h;have hm:=Z4o hk i2
 have h4:upM b k-upM a k<=4096:=by
  rcases ZaN hk h with ⟨_,h1⟩|⟨h1,h2⟩
  ·omega
  ·have hf:=ZaM hk i1;have h8:=Int.emod_lt_of_pos (a+1) (show 0<k by omega);have h3:(b-fstM a k)/k<=b-fstM a k:=Int.ediv_le_self k (by omega);rcases hf with ⟨_,h⟩|⟨_,h⟩<;>omega
 unfold nM;rw[if_neg (by simp[h];omega),if_neg (by omega)];omega
theorem Zoq {a b k x:Int} {v:ByteArray} {l:List (Int×ByteArray)} (hk:1<=k) (h:itv a b=true) (hb:b-a<=4096) (h1:a<x) (h2:x<=b) (h3:x % k=0) {i:Nat} (hi:(i:Int)=upM (x-1) k-upM a k):
  ∃h:i<(smp a b k v l).length,(smp a b k v l)[i]=(x,atV v l x)/\((i+1:Nat):Int)=upM x k-upM a k:=by
 obtain⟨i1,i2,i3⟩:=Z1d.1 h;obtain⟨n1,n2⟩:=pt_n hk h hb;have hs:=Zc8 hk (show 0<=x by omega);rcases hs with ⟨_,s1,s2⟩|⟨s1,_⟩
 ·have m1:=Z4o hk h2;have hl:i<(smp a b k v l).length:=(by rw[Z6a];omega);refine⟨hl,?_,by omega⟩;have hm:i<(ms a b k).length:=(by unfold smp at hl;rwa [List.length_map] at hl)
  have e:(ms a b k)[i]=x:=by
   rw[Z70,hi];unfold fstM;rw[<-Int.add_mul,show upM a k+(upM (x-1) k-upM a k)=upM (x-1) k by omega];exact s1.symm
  simp only[smp,List.getElem_map];rw[e]
 ·exact absurd h3 s1
theorem Zn8 {a k x:Int} (hk:1<=k) (h0: -1<=a) (h1:a<x) (h3:¬x % k=0):upM x k=upM (x-1) k:=by
 rcases Zc8 hk (show 0<=x by omega) with ⟨h,_⟩|⟨_,h⟩
 ·exact absurd h h3
 ·exact h
end Wv.Sg
namespace Go.Proofs.YtchokmkfobandaaGreatDoor
open Go.RowKit Go.Proofs Wv Wv.Vi Wv.Ru Wv.Bc Wv.Sn Wv.Sg Wv.Dc
theorem ZdH (p:Int) (p0:0<=p) (p1:p<256) (q:Int) (q0:0<=q) (q1:q<256) (r:Int) (r0:0<=r) (r1:r<256) (b:ByteArray) (hb:b.size<=9223372036854775807) {w:World} {A:Option Addr} {l:List (Int×ByteArray)} (ha:At w A (cv l)) (hl:∀c∈l,I64 c.1/\c.2.size<=9223372036854775807) (n cap:Nat) (hn:n=l.length) (bu:n<=9223372036854775807):
  Calls Tryz.prog 7 #[.int .u8 p,.int .u8 q,.int .u8 r,.string b,.slice A n cap] w λx w'=>x=.returned (.bool true)/\Below w.heap.size w w':=by
 have lA:=h_ (λW=>Z3z W);clear hl hb;by_cases g1:(40:Int)<(n:Int)
 ·clear ha hn bu;go_enter Tryz.func7,Tryz.ntmps7;go_wp2_with fail;refine(lA.o _).mono ?_;rintro x w1 ⟨rfl,a7⟩;go_wp2;go_returns;exact⟨rfl,a7⟩
 ·by_cases g2:(150:Int)<(b.size:Int)
  ·clear ha hn bu;go_enter Tryz.func7,Tryz.ntmps7;go_wp2_with fail;refine(lA.o _).mono ?_;rintro x w1 ⟨rfl,a7⟩;go_wp2;go_returns;exact⟨rfl,a7⟩
  ·have TI:n<=40:=(by omega);have d1:q.tmod 200=q % 200:=Int.tmod_eq_emod_of_nonneg q0;have d2:r.tmod 20=r % 20:=Int.tmod_eq_emod_of_nonneg r0;have e1:=Int.emod_nonneg q (show(200:Int)≠0 by decide);have e2:=Int.emod_lt_of_pos q (show(0:Int)<200 by decide);have e3:=Int.emod_nonneg r (show(20:Int)≠0 by decide);have e4:=Int.emod_lt_of_pos r (show(0:Int)<20 by decide);obtain⟨Q,hQ⟩:∃Q,q % 200=Q:=⟨_,rfl⟩;obtain⟨S,hS⟩:∃S,r % 20=S:=⟨_,rfl⟩;rw[hQ] at d1 e1 e2;rw[hS] at d2 e3 e4;clear hS;have j1:IntKind.i64.wrap (p-1)=p-1:=(by rw[IntWalk.i64_in _ (by omega)]);have j2:IntKind.i64.wrap (p-1+Q)=p-1+Q:=(by rw[IntWalk.i64_in _ (by omega)]);have j3:IntKind.i64.wrap (1+S)=1+S:=(by rw[IntWalk.i64_in _ (by omega)]);have hit:itv (p-1) (p-1+Q)=true:=Z1d.2 ⟨by omega,by omega,by omega⟩;obtain⟨K,hK⟩:∃K,1+S=K:=⟨_,rfl⟩;obtain⟨a,hA⟩:∃a,p-1=a:=⟨_,rfl⟩;rw[hK] at j3;rw[hA] at j1 j2 hit;have HS:=h_ (λW (h:Below w.heap.size w W)=>ZaZ (b:=b) (ha.below h) n cap hn (by omega) a (a+Q) K (by unfold I64;omega) (by unfold I64;omega) (by unfold I64;omega) rfl);have aP:1<=K:=(by omega);have I8:=pt_n aP hit (by omega);have hsl:=Z6a a (a+Q) K b l;have HH:=h_ (λx (h1:a<x) (h2:x<=a+Q) (h3:x % K=0) (i:Nat) (hi:(i:Int)=upM (x-1) K-upM a K)=>Zoq (v:=b) (l:=l) aP hit (by omega) h1 h2 h3 hi);have HM:=h_ (λx (h1:a<x) (h3:¬x % K=0)=>Zn8 (a:=a) (x:=x) aP (by omega) h1 h3);have P5:((smp a (a+Q) K b l).length:Int)=upM (a+Q) K-upM a K:=(by rw[hsl];omega);have Vl:Hid (∀x,x<=a+Q->upM x K<=upM (a+Q) K):=h_ (λx h=>Z4o aP h);have TJ:=Zci a (a+Q) K b l;generalize smp a (a+Q) K b l=R at*;have Ha:=h_ ha;have Hn:=h_ hn;have Ek:Hid (-1<=a/\a+Q<=1000/\0<=Q/\K<=20):=h_ ⟨by omega,by omega,by omega,by omega⟩;have Ee:=h_ P5;clear ha hn bu hit I8 hsl P5;have j4:IntKind.i64.wrap (a+1)=a+1:=(by rw[IntWalk.i64_in _ (by have:=Ek.o;omega)]);have TK:¬K=0:=(by omega);go_enter Tryz.func7,Tryz.ntmps7;go_wp2_with fail;refine(lA.o _).mono ?_;rintro x w1 ⟨rfl,a7⟩;have an:=h_ a7;clear a7;go_wp2_with fail;refine(HS.o _ an.o).mono ?_;rintro x w3 ⟨A3,ld,rfl,bH,ae⟩;have jT:=h_ bH;have aF:=h_ (an.o.trans (ae.mono an.o.size));clear ae bH;go_wp2;go_loopw [15,16] (λnv iz wr=>∃(i:Nat) (x:Int),nv=.int .i64 (i:Int)/\iz=.int .i64 x/\a+1<=x/\x<=a+Q+1/\Hid ((i:Int)=upM (x-1) K-upM a K)/\Hid (Below w3.heap.size w3 wr)) (λ_ iz _=>(a+Q+1-intOf iz).toNat);case atStart=>exact⟨0,a+1,rfl,rfl,by omega,by omega,h_ (by rw[show a+1-1=a by omega];omega),h_ (Below.refl _ _)⟩
   case round=>
    obtain⟨i,x,rfl,rfl,gS,dN,hi,hb⟩:=hrel;have tV:=h_ (aF.o.trans (hb.o.mono aF.o.size));by_cases hx:x<=a+Q
    ·have hd:x.tmod K=x % K:=Int.tmod_eq_emod_of_nonneg (by have:=Ek.o;omega);have gh:=Int.emod_nonneg x TK;have dh:=Int.emod_lt_of_pos x (show(0:Int)<K by omega);have j5:IntKind.i64.wrap (x+1)=x+1:=(by rw[IntWalk.i64_in _ (by have:=Ek.o;omega)]);by_cases hM:x % K=0
     ·obtain⟨qY,P6,Ai⟩:=HH.o x (by omega) hx hM i hi.o;rw[hM] at hd;have yj:IntKind.i64.wrap 0=0:=(by decide);have TM:i<4096:=(by omega);have nG:Hid (((i+1:Nat):Int)=upM (x+1-1) K-upM a K):=h_ (by rw[show x+1-1=x by omega];exact Ai);have TN:=h_ P6;have TO:(i:Int)<(R.length:Int):=(by omega);have P7:¬(R.length:Int)<=(i:Int):=(by omega);clear gh dh hM hi Ai P6;go_wp2;go_loopw [17,64] (λAU Kf jB=>∃j:Nat,j<=n/\Kf=.int .i64 (j:Int)/\AU=.string (atV b (l.take j) x)/\Hid (Below w3.heap.size w3 jB)) (λ_ Kf _=>(n-intOf Kf).toNat);case atStart=>exact⟨0,Nat.zero_le _,rfl,rfl,hb⟩
      case round=>
       clear hb tV;obtain⟨j,hj,rfl,rfl,hb⟩:=hrel;have tV:=h_ (aF.o.trans (hb.o.mono aF.o.size));by_cases ab:j<n
       ·have cK:j<l.length:=(by rw[<-Hn.o];exact ab);obtain⟨bA,oA,rfl,wC,c0,c1⟩:=Z1a (Ha.o.below tV.o) j cK;have ax:l.take (j+1)=l.take j++[l[j]]:=List.take_succ_eq_append_getElem cK;have ak:=Z5h x (l.take j) b l[j];rw[<-ax] at ak;obtain⟨⟨X,V⟩,hs⟩:∃y,l[j]=y:=⟨_,rfl⟩;rw[hs] at c0 c1 ak;simp only at c0 c1 ak;have qv:=h_ (hb.o.alloc hb.o.size (.cells #[.int .i64 X,.string V] 33));have hU:(0:Int)<=(j:Int):=(by omega);have Mj:(j:Int)<(n:Int):=(by omega);generalize atV b (l.take j) x=U at*;have bd:=h_ ak;clear ak ax hs cK;by_cases hg:X<=x
        ·have Hx:Hid (atV b (l.take (j+1)) x=V):=h_ (by rw[bd.o,if_pos hg]);clear bd;go_wp2;refine⟨⟨j+1,ab,by go_num,by rw[Hx.o],qv⟩,?_⟩;simp[intOf]<;>omega
        ·have Hx:Hid (atV b (l.take (j+1)) x=U):=h_ (by rw[bd.o,if_neg hg]);clear bd;go_wp2;refine⟨⟨j+1,ab,by go_num,by rw[Hx.o],qv⟩,?_⟩;simp[intOf]<;>omega
       ·have im:j=n:=(by omega);subst im;rw[show l.take j=l from List.take_of_length_le (by rw[Hn.o];exact Nat.le_refl _)];obtain⟨b3,o3,rfl,R6,d0,d1⟩:=Z1a (jT.o.below hb.o) i qY;rw[TN.o] at d0 d1;simp only at d0 d1;generalize atV b l x=V at*;have Eh:=λW=>ZaX x x V V W;rw[decide_eq_true (show(x,V)=(x,V) from rfl)] at Eh;have JL:=λop a b xs ys W=>Z4p op a b xs ys W;have ji:(0:Int)<=(i:Int):=(by omega);go_wp2;refine⟨⟨i+1,x+1,by go_num,rfl,by omega,by omega,nG,hb⟩,?_⟩;simp[intOf]<;>omega
     ·have pP:Hid ((i:Int)=upM (x+1-1) K-upM a K):=h_ (by rw[show x+1-1=x by omega,HM.o x (by omega) hM];exact hi.o);obtain⟨M,P8⟩:∃M,x % K=M:=⟨_,rfl⟩;rw[P8] at hd gh dh hM;have Vm:(M !=0)=true:=(by rw[bne_iff_ne];exact hM);have jM:IntKind.i64.wrap M=M:=(by rw[IntWalk.i64_in _ (by have:=Ek.o;omega)]);clear P8 hM hi;go_wp2;refine⟨⟨i,x+1,rfl,rfl,by omega,by omega,pP,hb⟩,?_⟩;simp[intOf]<;>omega
    ·have kJ:x=a+Q+1:=by omega
     have qY:(i:Int)=(R.length:Int):=by
      have h:=hi.o;rw[kJ,show a+Q+1-1=a+Q by omega] at h;rw[h,Ee.o]
     have CF:((i:Int)==(R.length:Int))=true:=(by rw[beq_iff_eq];exact qY);clear hi qY kJ;go_wp2;go_returns;exact⟨by first|rfl|(rw[CF]),tV.o⟩
end Go.Proofs.YtchokmkfobandaaGreatDoor
