import Derived.Test.YtchokmkfobandaaGreatDoorJ53
set_option linter.unusedVariables false
set_option linter.unusedSimpArgs false
set_option maxRecDepth 100000
set_option maxHeartbeats 8000000
namespace Go.Proofs.YtchokmkfobandaaGreatDoor
open Go.RowKit Go.Proofs Wv Wv.Vi Wv.Ru Wv.Bc Wv.Sn Wv.Sg Wv.Dc
theorem Z8d (a c:Int) (Kc:I64 a/\I64 c) (f:Int) (hf:I64 f) (t:Int) (ht:I64 t) (b:ByteArray) (hb:b.size<=9223372036854775807) {w:World} {A:Option Addr} {l:List (Int×ByteArray)} (ha:At w A (cv l)) (hl:∀c∈l,I64 c.1/\c.2.size<=9223372036854775807) (n cap:Nat) (hn:n=l.length) (bu:n<=9223372036854775807) (kz:Tab w):
  Calls Tryz.prog 4 #[.agg #[.int .i64 a,.int .i64 c],.int .i64 f,.int .i64 t,.string b,.slice A n cap] w λx w'=>x=.returned (.bool true)/\Below w.heap.size w w':=by
 have HK:=h_ (λW h=>Z2m (w:=w) (W:=W) (a:=a) (c:=c) h);have lA:=h_ (λW=>Z3z W);have nI:=h_ (λW (h:Below w.heap.size w W)=>ZhH a c (kz.below h));clear Kc hf ht hl kz;by_cases g1:(60:Int)<(n:Int)
 ·clear hb ha hn bu nI;go_enter Tryz.func4,Tryz.ntmps4;go_wp2_with fail;refine(lA.o _).mono ?_;rintro x w1 ⟨rfl,a7⟩;obtain⟨z0,z1,a8,_⟩:=HK.o _ a7;have al:=h_ a8;clear a7 a8;go_wp2;go_returns;exact⟨rfl,al.o⟩
 ·by_cases g2:(150:Int)<(b.size:Int)
  ·clear hb ha hn bu nI;go_enter Tryz.func4,Tryz.ntmps4;go_wp2_with fail;refine(lA.o _).mono ?_;rintro x w1 ⟨rfl,a7⟩;obtain⟨z0,z1,a8,_⟩:=HK.o _ a7;have al:=h_ a8;clear a7 a8;go_wp2;go_returns;exact⟨rfl,al.o⟩
  ·have lz:Hid (b.size<=1099511627776):=h_ (by omega);have TG:n<=60:=(by omega);have Ha:=h_ ha;have Hn:=h_ hn;clear hb ha hn bu;go_enter Tryz.func4,Tryz.ntmps4;go_wp2_with fail;refine(lA.o _).mono ?_;rintro x w1 ⟨rfl,a7⟩;have an:=h_ a7;clear a7;go_wp2;go_loopw [30] (λyz wr=>∃k:Nat,k<=n/\yz=.int .i64 (k:Int)/\Hid (∀i (h:i<l.length),i<k->l[i].2.size<=150)/\Hid (Below (w.alloc (.cells #[.int .i64 a,.int .i64 c] 23)).heap.size (w.alloc (.cells #[.int .i64 a,.int .i64 c] 23)) wr)) (λyz _=>(n-intOf yz).toNat);case atStart=>exact⟨0,Nat.zero_le _,rfl,h_ (λi h h2=>absurd h2 (Nat.not_lt_zero _)),an⟩
   case round=>
    clear an;obtain⟨k,hk,rfl,ar,hb⟩:=hrel;obtain⟨z0,z1,dA,dL⟩:=HK.o _ hb.o;by_cases ab:k<n
    ·have bD:k<l.length:=(by rw[<-Hn.o];exact ab);obtain⟨bA,oA,rfl,wC,c0,c1⟩:=Z1a (Ha.o.below dA) k bD
     have au:=λ(h:l[k].2.size<=150) i (hi:i<l.length) (h2:i<k+1)=>(show l[i].2.size<=150 by
      by_cases e:i=k
      ·subst e;exact h
      ·exact ar.o i hi (by omega))
     obtain⟨⟨x,v⟩,hs⟩:∃y,l[k]=y:=⟨_,rfl⟩;rw[hs] at c0 c1 au;simp only at c0 c1 au;have ec:=hb.o.alloc hb.o.size (.cells #[.int .i64 x,.string v] 33);have qv:=h_ ec;have Hq:=h_ (HK.o _ ec).2.2.1;have bU:(0:Int)<=(k:Int):=(by omega);have gL:(k:Int)<(n:Int):=(by omega);by_cases g3:(150:Int)<(v.size:Int)
     ·clear au hs bD ec hb ar dA;go_wp2;go_returns;exact⟨rfl,Hq.o⟩
     ·have fU:=h_ (au (by omega));clear au hs bD ec hb ar dA;go_wp2;refine⟨⟨k+1,ab,by go_num,fU,qv⟩,?_⟩;simp[intOf]<;>omega
    ·have ef:k=n:=(by omega);subst ef
     have lJ:∀x∈l,x.2.size<=1099511627776:=λx hx=>by
      obtain⟨i,hi,rfl⟩:=List.getElem_of_mem hx;have:=ar.o i hi (by rw[Hn.o];exact hi);omega
     obtain⟨⟨d,e⟩,hE⟩:∃y,sgE (a,c) f t b l=y:=⟨_,rfl⟩;have HE:=h_ (Zcj (Ha.o.below dA) a c f t (nI.o _ dA) lz.o lJ k cap Hn.o (by omega) hE);by_cases he:e=0
     ·subst he;have hD:=Zoh hE
      have tW:d.length<=4096/\(d=[]↔l=[]):=by
       rcases(Zhk hE).2 with ⟨h1,h2⟩|⟨h1,h2,h3⟩
       ·subst h1;subst h2;exact⟨by decide,by simp⟩
       ·exact⟨h3,λh=>absurd h (Z88 h2),λh=>absurd h h1⟩
      have HD:=h_ (λW (h:Below w.heap.size w W)=>Z8c (b:=b) a c f t (nI.o W h) lz.o d (by have:=tW.1;omega) hD);rw[<-Hn.o] at HD;have cJ:=Z2i d;have hg:¬(4096:Int)<((bs d).size:Int):=(by rw[Z00];have:=tW.1;omega)
      have mo:((k:Int)==0)=decide (d=[]):=by
       have gk:l.length=0↔l=[]:=List.length_eq_zero_iff;have:=Hn.o;rw[Bool.eq_iff_iff,beq_iff_eq,decide_eq_true_iff,tW.2,<-gk];omega
      obtain⟨Z,hZ⟩:∃Z,decide (d=[])=Z:=⟨_,rfl⟩;rw[hZ] at cJ mo;generalize bs d=S at*;clear hE hD tW hZ ar;cases Z
      all_goals
       go_wp2_with fail;refine(HE.o).mono ?_;rintro x w2 ⟨rfl,ae⟩;have aF:=h_ (hb.o.trans (ae.mono hb.o.size));obtain⟨z0,z1,aw,_⟩:=HK.o _ aF.o;have px:=h_ (HD.o _ aw);have bo:=h_ aw;clear ae aw;go_wp2_with fail;refine(px.o).mono ?_;rintro x w3 ⟨A3,ld,rfl,bH,aM⟩;have jT:=h_ bH;have bO:=h_ (bo.o.trans (aM.mono bo.o.size));have TH:=h_ (Ha.o.below bO.o);clear aM bH px HE;go_wp2;go_loopw [93] (λKe wr=>∃i q:Nat,i<=k/\Ke=.int .i64 (i:Int)/\wr=w3.drewN q) (λKe _=>(k-intOf Ke).toNat);case atStart=>exact⟨0,0,Nat.zero_le _,rfl,rfl⟩
       case round=>
        obtain⟨i,q,hi,rfl,rfl⟩:=hrel;by_cases bK:i<k
        ·have bz:i<l.length:=(by rw[<-Hn.o];exact bK);obtain⟨b5,o5,rfl,_,e0,e1⟩:=Z1a TH.o i bz;obtain⟨b3,o3,rfl,_,d0,d1⟩:=Z1a jT.o i bz;obtain⟨⟨X,V⟩,hs⟩:∃y,l[i]=y:=⟨_,rfl⟩;rw[hs] at d0 d1 e0 e1;simp only at d0 d1 e0 e1;have Eh:=λW=>ZaX X X V V W;rw[decide_eq_true (show(X,V)=(X,V) from rfl)] at Eh;have JL:=λop a b xs ys W=>Z4p op a b xs ys W;have ji:(0:Int)<=(i:Int):=(by omega);have ti:(i:Int)<(k:Int):=(by omega);clear hs bz;go_wp2;go_quiet (fail);go_wp2
         all_goals first
          |(refine⟨⟨i+1,_,bK,by go_num,rfl⟩,?_⟩;simp[intOf]<;>omega)
        ·have aX:i=k:=(by omega);subst aX;go_wp2;go_returns;exact⟨rfl,bO.o.1,bO.o.2,bO.o.3,bO.o.4,bO.o.5⟩
     ·rcases ZmH (s:=(a,c)) (f:=f) (t:=t) (b:=b) (l:=l) (by rw[hE];exact he) with ⟨_,h⟩|⟨_,_,h⟩
      all_goals
       rw[hE] at h;injection h with h1 h2;subst h1;subst h2;rw[show bs ([]:List UInt8)=⟨#[]⟩ from rfl] at HE;clear hE he lJ ar;go_wp2_with fail;refine(HE.o).mono ?_;rintro x w2 ⟨rfl,ae⟩;have aF:=h_ (dA.trans (ae.mono dA.size));clear ae;go_wp2;go_returns;exact⟨rfl,aF.o⟩
end Go.Proofs.YtchokmkfobandaaGreatDoor
