import Derived.Test.YtchokmkfobandaaGreatDoorChecked
import Derived.Test.YtchokmkfobandaaGreatDoorJ01
import Derived.Test.YtchokmkfobandaaGreatDoorJ02
import Derived.WalkKit
import Derived.WalkSpells
import Derived.WalkLawsBesides
import Derived.Deep.QuietTactic
import Derived.BigQuiet
import Derived.Outline
set_option linter.unusedVariables false
set_option linter.unusedSimpArgs false
set_option maxRecDepth 100000
set_option maxHeartbeats 8000000
namespace Go.Proofs.YtchokmkfobandaaGreatDoor
open Go.RowKit Go.Proofs Wv Wv.Vi
theorem Zw {k:IntKind} {a b:Int} (h:a=b):Ending.returned (.int k a)=.returned (.int k b):=by rw[h]
theorem Z4 {a b:Bool} (h:a=b):Ending.returned (.bool a)=.returned (.bool b):=by rw[h]
theorem Z0w {a b:ByteArray} (h:a=b):Ending.returned (.string a)=.returned (.string b):=by rw[h]
theorem Z1z (k:Int) (h0:0<=k) (h8:k<=8) (w:World):
  Calls Tryz.prog 71 #[.int .i64 k] w λe w'=>e=.returned (.int .i64 (bnd k.toNat:Nat))/\w=w':=by
 obtain⟨k,rfl⟩:=Int.eq_ofNat_of_zero_le h0;rw[Vav];have hv:=h_ QU;go_enter Tryz.func71,Tryz.ntmps71;go_wp2;go_loop [3,4] (λb i=>∃j:Nat,j<=k/\i=.int .i64 ((j:Int)+1)/\b=.int .i64 (bnd j:Nat)) (λ_ i=>k+1-(intOf i).toNat);case atStart=>exact⟨0,Vat _,rfl,rfl⟩
 case round=>
  obtain⟨j,hj,rfl,rfl⟩:=hrel;by_cases ab:j<k
  ·have hb:=ZgC j (by omega);have hz:j=0\/j=1\/j=2\/j=3\/j=4\/j=5\/j=6\/j=7:=(by omega);rcases hz with rfl|rfl|rfl|rfl|rfl|rfl|rfl|rfl
   all_goals
    go_wp2;go_round;case rel=>exact⟨_,ab,by rfl,by rfl⟩
    case measure=>simp[intOf];omega
  ·go_wp2;go_ret;exact⟨Zw (by rw[show k=j from by omega]),rfl⟩
theorem Zeb (n:Int) (h0:0<=n) (e9:n<=9223372036854775807) (w:World):
  Calls Tryz.prog 70 #[.int .i64 n] w λe w'=>e=.returned (.int .i64 ((kof n.toNat:Int)+1))/\w=w':=by
 obtain⟨n,rfl⟩:=Int.eq_ofNat_of_zero_le h0;rw[Vav];have lX:=Y5 n;have H:=h_ Z1z;go_enter Tryz.func70,Tryz.ntmps70;go_wp2;go_loop [3] (λk=>∃j:Nat,j<=kof n/\k=.int .i64 j) (λk=>9-(intOf k).toNat);case atStart=>exact⟨0,Vat _,rfl⟩
 case round=>
  obtain⟨j,hj,rfl⟩:=hrel;by_cases h8:j<8
  ·have hs:=Ze0 n j h8 hj;have hb:=H.o ((j:Int)+1) (by omega) (by omega) w;rw[show(((j:Int)+1).toNat)=j+1 from by omega] at hb;have Hb:=h_ hb;by_cases ab:j<kof n
   ·have hle:bnd (j+1)<=n:=hs.2 ab;clear hs hb;go_wp2_with (go_at_call 71;refine(Hb.o).mono ?_;rintro e w' ⟨rfl,rfl⟩);go_round;case rel=>exact⟨j+1,by omega,by go_num⟩
    case measure=>simp[intOf];omega
   ·have hle:¬bnd (j+1)<=n:=λh=>ab (hs.1 h);clear hs hb;go_wp2_with (go_at_call 71;refine(Hb.o).mono ?_;rintro e w' ⟨rfl,rfl⟩);go_ret;exact⟨Zw (by omega),rfl⟩
  ·go_wp2;go_ret;exact⟨Zw (by omega),rfl⟩
theorem ZjK:(Tryz.prog.info? 5).map (λi=>(i.zero,i.size,i.bytes))=some (some (.int .u8 0),1,1):=by kernel_rfl
theorem Zab:∀k:Nat,k<9->∀r:Nat,r<128->(k<=7->r<2 ^ (7-k))->(k=8->r=0)->bits .or .u8 (((65280/2 ^ k % 256:Nat):Int)) (r:Int)=((256-2 ^ (8-k)+r:Nat):Int):=by decide+kernel
theorem Zhw (k:Nat):(65280:Int)/2 ^ k % 256=((65280/2 ^ k % 256:Nat):Int):=by
 rw[Int.natCast_emod,Int.natCast_ediv,Int.natCast_pow];rfl
theorem ZjL (k j r:Nat) (hj:0<j) (qT:j<=k):(List.replicate (j+1) (0:UInt8)++be (k-j) r).set j (UInt8.ofNat (r/256 ^ (k-j) % 256))=List.replicate (j-1+1) 0++be (k-(j-1)) r:=by
 have h1:k-(j-1)=k-j+1:=by omega
 have h2:UInt8.ofNat (r/256 ^ (k-j) % 256)=UInt8.ofNat (r/256 ^ (k-j)):=by
  apply UInt8.toNat_inj.1;simp
 rw[h1,h2];have h3:List.replicate (j+1) (0:UInt8)++be (k-j) r=List.replicate j 0++(0::be (k-j) r):=(by rw[List.replicate_succ'];simp);rw[h3,Va8 _ _ (by simp),show j-1+1=j from by omega];simp[be]
theorem Zec (r m:Nat):r/256 ^ m/256=r/256 ^ (m+1):=by rw[Nat.div_div_eq_div_mul,Vbr]
theorem Zh (n:Int) (h0:0<=n) (e9:n<=9223372036854775807) (w:World):
  Calls Tryz.prog 49 #[.int .i64 n] w λe w'=>e=.returned (.string (bs (num n.toNat)))/\Below w.heap.size w w':=by
 obtain⟨n,rfl⟩:=Int.eq_ofNat_of_zero_le h0;rw[Vav];obtain⟨k,hk⟩:∃k,kof n=k:=⟨_,rfl⟩;have lX:=Y5 n;have da:=Z9Q n;have dc:=Z9R n (by omega);have H1:=h_ (Zeb (n:Int) (by omega) e9);have H2:=h_ (Z1z (k:Int) (by omega) (by omega));rw[Vav,hk] at H1;rw[Vav] at H2;rw[hk] at lX da dc;obtain⟨b,hb⟩:∃b,bnd k=b:=⟨_,rfl⟩;rw[hb] at H2 da dc;obtain⟨r,hr⟩:∃r,n-b=r:=⟨_,rfl⟩;rw[hr] at dc;have dH:Hid (num n=UInt8.ofNat (256-2 ^ (8-k)+r/256 ^ k)::be k r):=h_ (by unfold num;rw[hk,hb,hr]);have i1:(n:Int)-(b:Int)=(r:Int):=(by omega);have PH:=h_ dc;have PI:r<=9223372036854775807:=(by omega);have bG:=Yg (P:=Tryz.prog) 115 5 _ _ Tryz.underlying115 ZjK rfl ((k:Int)+1) (k+1) rfl (by omega) (by omega);rw[Z4e] at bG;clear hk hb hr dc da;go_enter Tryz.func49,Tryz.ntmps49;go_wp2_with fail;refine(H1.o _).mono ?_;rintro e w1 ⟨rfl,rfl⟩;go_wp2_with fail;refine(H2.o _).mono ?_;rintro e w1 ⟨rfl,rfl⟩;go_wp2;go_loopw [4,6] (λx i wr=>∃j:Nat,j<=k/\i=.int .i64 j/\x=.int .i64 ((r/256 ^ (k-j):Nat):Int)/\Bk wr w.heap.size 5 (bc (List.replicate (j+1) 0++be (k-j) r))/\Below w.heap.size w wr) (λ_ i _=>(intOf i).toNat);case atStart=>exact⟨k,UZz,rfl,by simp,by rw[Va7];simpa [be] using Bk.new w 5 (bc (List.replicate (k+1) 0)),(Vae _ _).alloc UZz _⟩
 case round=>
  obtain⟨j,hj,rfl,rfl,aD,hf⟩:=hrel;have hlen:(List.replicate (j+1) (0:UInt8)++be (k-j) r).length=k+1:=(by rw[Vab,Vaw,Y6];omega);have dR:r/256 ^ (k-j)<=r:=Nat.div_le_self _ _;by_cases ab:0<j
  ·obtain⟨x,hx⟩:∃x,r/256 ^ (k-j)=x:=⟨_,rfl⟩;have aW:=h_ (ZjL k j r ab hj);have yM:=h_ (Zec r (k-j));obtain⟨y0,tw⟩:∃y:Int,wr.cell? ⟨w.heap.size,j,none⟩=some (.int .u8 y):=⟨_,by rw[aD.cell,Z9O _ _ (by omega)]⟩;have mL:=aD.frozen j;have qT:(j:Int)<(k:Int)+1:=(by omega);have PJ:x<=9223372036854775807:=(by omega);rw[hx] at aW yM⊢;have kE:=h_ aD;clear hx aD dR hlen bG;go_wp2;go_roundw
   case rel=>
    refine⟨j-1,by omega,by congr 1;omega,?_,?_,hf.setCell (p:=⟨w.heap.size,j,none⟩) UZz _⟩
    ·rw[show k-(j-1)=k-j+1 from by omega,<-yM.o];congr 1
    ·have:=kE.o.put j (.int .u8 ((x:Int) % 256));rw[ZgA _ _ _ (by omega) (by omega)] at this;rw[<-aW.o];have e:((x:Int) % 256).toNat=x % 256:=(by omega);rw[e] at this;exact this
   case measure=>simp[intOf];omega
  ·have gI:j=0:=(by omega);subst gI;rw[Nat.sub_zero] at aD⊢hlen;obtain⟨x,hx⟩:∃x,r/256 ^ k=x:=⟨_,rfl⟩;have dc:=PH.o;rw[hx] at dc;have yN:x<128:=Va5 dc.1 (Vby (by omega) (show 7-k<=7 by omega));have jM:=Zab k (by omega) x yN (λ_=>dc.1) dc.2;have e1:=Zhw k;have e2:(x:Int) % 256=(x:Int):=(by omega);rw[<-e1] at jM;have fD:256-2 ^ (8-k)+x<256:=(Z2v k x (by omega) dc.1 dc.2).1;rw[hx] at dH⊢;obtain⟨y,hy⟩:∃y,256-2 ^ (8-k)+x=y:=⟨_,rfl⟩;rw[hy] at dH jM fD;obtain⟨y0,tw⟩:∃y:Int,wr.cell? ⟨w.heap.size,0,none⟩=some (.int .u8 y):=⟨_,by rw[aD.cell,Z9O _ _ (by omega)]⟩;have mL:=aD.frozen 0;have aj:=aD.put 0 (.int .u8 (y:Int));rw[ZgA _ _ _ (by omega) (by omega),Vav] at aj;have eD:=ZdZ (P:=Tryz.prog) 115 9 5 Tryz.underlying115 Tryz.underlying5 Tryz.underlying9 _ w.heap.size (k+1) (k+1) (num n) [] (by rw[Va3,dH.o];exact aj) (by rw[dH.o];simp[Y6]);have qT:(0:Int)<(k:Int)+1:=(by omega);clear hx aD dR hlen bG aj hy dc e1;go_wp2;go_ret;exact⟨rfl,hf.setCell (p:=⟨w.heap.size,0,none⟩) UZz _⟩
open Wv.Ru
theorem kof9 (n:Nat):(num n).length<=9:=by rw[Z7];have:=Y5 n;omega
theorem XJ (s:ByteArray) (hs:s.size<=1099511627776) (w:World):
  Calls Tryz.prog 54 #[.string s] w λe w'=>e=.returned (.string (bs (text s)))/\Below w.heap.size w w':=by
 have H:=Zh (s.size:Int) (by omega) (by omega) w;rw[Vav] at H;have hl:=kof9 s.size;have hr:=h_ (show bs (num s.size)++s=bs (text s) from by rw[<-Zc s,Zg];rfl);rw[<-Z0] at hl;generalize bs (num s.size)=t at*;have H:=h_ H;go_enter Tryz.func54,Tryz.ntmps54;go_wp2_with fail;refine(H.o).mono ?_;rintro e w1 ⟨rfl,hb⟩;go_wp2;go_ret;exact⟨Z0w hr.o,hb⟩
def RV (w:World) (b:Nat) (s:ByteArray) (e:Nat):Prop:=Bk w b 189 #[.string s,.int .i64 (e:Int)]
theorem RV.c0 {w:World} {b e:Nat} {s:ByteArray} (h:RV w b s e):w.cell? ⟨b,0,none⟩=some (.string s):=Bk.cell h 0
theorem RV.c1 {w:World} {b e:Nat} {s:ByteArray} (h:RV w b s e):w.cell? ⟨b,1,none⟩=some (.int .i64 (e:Int)):=Bk.cell h 1
theorem RV.f0 {w:World} {b e:Nat} {s:ByteArray} (h:RV w b s e):w.frozen? ⟨b,0,none⟩=false:=Bk.frozen h 0
theorem RV.f1 {w:World} {b e:Nat} {s:ByteArray} (h:RV w b s e):w.frozen? ⟨b,1,none⟩=false:=Bk.frozen h 1
theorem ZN (s:ByteArray) (w:World):
  Calls Tryz.prog 85 #[.string s] w λe w'=>e=.returned (.pointer (some ⟨w.heap.size,0,none⟩))/\RV w' w.heap.size s 0/\Below w.heap.size w w':=by
 go_enter Tryz.func85,Tryz.ntmps85;go_wp2;go_ret;exact⟨rfl,Bk.new _ _ _,(Vae _ _).alloc UZz _⟩
theorem Q8 {w:World} {b e:Nat} {s:ByteArray} (h:RV w b s e) (n:Nat):
  Calls Tryz.prog 143 #[.pointer (some ⟨b,0,none⟩),.int .i64 (n:Int)] w λe w'=>e=.returned (.tuple #[])/\RV w' b s n/\Fr (only b) w w':=by
 have h1:=h.c1;have f1:=h.f1;go_enter Tryz.func143,Tryz.ntmps143;go_wp2;go_end0;exact⟨rfl,by simpa [RV] using Bk.put h 1 (.int .i64 (n:Int)),(Fr.refl (only b) _).setCell (p:=⟨b,1,none⟩) (.inl rfl) _⟩
theorem Za {w:World} {b e:Nat} {s:ByteArray} (h:RV w b s e):
  Calls Tryz.prog 87 #[.pointer (some ⟨b,0,none⟩)] w λx w'=>x=.returned (.int .i64 (e:Int))/\w=w':=by
 have h1:=h.c1;go_enter Tryz.func87,Tryz.ntmps87;go_wp2;go_ret;exact⟨rfl,rfl⟩
theorem Zt {w:World} {b e:Nat} {s:ByteArray} (h:RV w b s e) (hs:s.size<=9223372036854775807):
  Calls Tryz.prog 90 #[.pointer (some ⟨b,0,none⟩)] w λx w'=>x=.returned (.int .i64 (s.size:Int))/\w=w':=by
 have h1:=h.c0;go_enter Tryz.func90,Tryz.ntmps90;go_wp2;go_ret;exact⟨rfl,rfl⟩
theorem Zed:∀c:Nat,c<256->∀j:Nat,j<8->j<=lead c->(bits .and .u8 (c:Int) (((128/2 ^ j:Nat):Int)) !=0)=decide (j<lead c):=by decide+kernel
theorem Zac:∀c:Nat,c<256->bits .and .u8 (c:Int) (((127/2 ^ lead c:Nat):Int))=((c-(256-2 ^ (8-lead c)):Nat):Int):=by decide+kernel
theorem ZjM (k:Nat):(128:Int)/2 ^ k=((128/2 ^ k:Nat):Int):=by
 rw[Int.natCast_ediv,Int.natCast_pow];rfl
theorem ZkY (k:Nat):(127:Int)/2 ^ k=((127/2 ^ k:Nat):Int):=by
 rw[Int.natCast_ediv,Int.natCast_pow];rfl
theorem Zhx (n b:Nat) (hn:n<72057594037927936) (hb:b<256):bits .or .u64 ((n:Int)*256) (b:Int)=((256*n+b:Nat):Int):=by
 rw[show(n:Int)*256=((256*n:Nat):Int) from by rw[Vb1,Int.mul_comm];rfl,u64_or_nat _ _ (by omega) (by omega),nat_join 8 _ _ (by omega) (by omega)]
theorem ZkZ (l:List UInt8):∀a,vl a l<(a+1)*256 ^ l.length:=by
 induction l with
 |nil=>intro a;simp[vl]
 |cons b t ih=>
  intro a;have h:=ih (256*a+b.toNat);have hb:=Vbi b;rw[Vaz,Vbr];refine Va5 h ?_;have h1:256*a+b.toNat+1<=(a+1)*256:=(by omega);have:=Vb2 (256 ^ t.length) h1;rw[Vbt (256 ^ t.length) 256,<-Vb4];exact this
theorem Zee (c:Nat) (hc:c<256):(c-(256-2 ^ (8-lead c))+1)*256 ^ lead c<=18446744073709551616/\(c-(256-2 ^ (8-lead c))+1)*256 ^ (lead c-1)<=72057594037927936:=by
 have h:=Z1m c;have h8:=Z5K c;rcases nine (lead c) h8 with e|e|e|e|e|e|e|e|e<;>rw[e] at h⊢<;>simp only[Nat.reducePow,Nat.reduceSub]<;>omega
theorem emp1 {s:ByteArray} (h:s.size=0):s.toList.isEmpty=true:=by
 rw[ByteArray.toList_eq];have:s.data.toList.length=0:=h;rw[Vaj this];rfl
theorem emp0 {s:ByteArray} (h:0<s.size):s.toList.isEmpty=false:=by
 rw[ByteArray.toList_eq];have:s.data.toList.length=s.size:=rfl;match hl:s.data.toList with
 |[]=>rw[hl] at this;simp at this;omega
 |_::_=>rfl
theorem Zef {w:World} {b e:Nat} {s:ByteArray} (h:RV w b s e) (hs:s.size=0):
  Calls Tryz.prog 183 #[.pointer (some ⟨b,0,none⟩)] w λx w'=>x=.returned (.tuple #[.int .i64 0,.int .i64 0,.bool false])/\w=w':=by
 have h1:=h.c0;have cO:=emp1 hs;go_enter Tryz.func183,Tryz.ntmps183;go_wp2;go_ret3;exact⟨rfl,rfl⟩
structure Fst (s:ByteArray) (c k:Nat):Prop where
 pos:0<s.size
 get:∀h:0<s.size,(s[0]'h).toNat=c
 lt:c<256
 lead:lead c=k
theorem ZjN {s:ByteArray} (h:0<s.size):∃c,Fst s c (lead c)/\c=(s[0]).toNat/\toL s=UInt8.ofNat c::(toL s).drop 1:=by
 refine⟨(s[0]).toNat,⟨h,λ_=>rfl,Vbi _,rfl⟩,rfl,?_⟩;have h1:0<(toL s).length:=h;have h2:toL s=(toL s)[0]::(toL s).drop 1:=(by rw[<-Va4 h1,Vco]);have h3:(toL s)[0]=s[0]:=(by simp[toL];rfl);rw[h3] at h2;rw[UInt8.ofNat_toNat];exact h2
theorem Z4q (a m:Nat) (s:ByteArray) (h1:1<=m) (h:m<s.size):vl a (((toL s).drop 1).take m)=256*vl a (((toL s).drop 1).take (m-1))+(s[m]).toNat:=by
 have hl:m<(toL s).length:=h;obtain⟨j,rfl⟩:∃j,m=j+1:=⟨m-1,by omega⟩;have h2:j<((toL s).drop 1).length:=(by rw[Va2];omega);rw[Vac h2,Vb7]
 have h3:((toL s).drop 1)[j]=s[j+1]:=by
  rw[Vcx];simp only[toL,Vdf 1 j];rw[Array.getElem_toList];rfl
 rw[h3];simp only[vl,Vbq,List.foldl_cons,List.foldl_nil];rfl
def pk (s:ByteArray):Value:=match rd (toL s) with
 |none=>.tuple #[.int .i64 0,.int .i64 0,.bool false]
 |some x=>.tuple #[.int .i64 (x.1:Int),.int .i64 (x.2:Int),.bool true]
theorem Z3j {s:ByteArray} (h:rd (toL s)=none):pk s=.tuple #[.int .i64 0,.int .i64 0,.bool false]:=by unfold pk;rw[h]
theorem Zad {s:ByteArray} {n z:Nat} (h:rd (toL s)=some (n,z)):pk s=.tuple #[.int .i64 (n:Int),.int .i64 (z:Int),.bool true]:=by unfold pk;rw[h]
theorem Z4r {a b:Value} (h:a=b):Ending.returned a=.returned b:=by rw[h]
theorem Zae {w:World} {b e:Nat} {s:ByteArray} (h:RV w b s e) (hp:0<s.size) (hm:s.size<=1099511627776):
  Calls Tryz.prog 183 #[.pointer (some ⟨b,0,none⟩)] w λx w'=>x=.returned (pk s)/\w=w':=by
 obtain⟨c,hf,bO,hs⟩:=ZjN hp;have h1:=h.c0;have uM:=emp0 hp;have hg:=hf.get hp;have hc:=hf.lt;have lX:=Z5K c;have oL:=Zac c hc;have rJ:=Zee c hc;have cG:=Z5J (UInt8.ofNat c) ((toL s).drop 1);rw[<-hs,show(UInt8.ofNat c).toNat=c from by simp;omega,show((toL s).drop 1).length=s.size-1 from by rw[Va2];rfl] at cG;have Fe:=h_ (Zed c hc);have oN:=h_ (Z1z (lead c:Int) (by omega) (by omega));rw[Vav] at oN;have lN:=ZgC (lead c) lX;obtain⟨k,hk⟩:∃k,lead c=k:=⟨_,rfl⟩;rw[hk] at Fe oL rJ cG oN lX lN;obtain⟨a,ha⟩:∃a,c-(256-2 ^ (8-k))=a:=⟨_,rfl⟩;rw[ha] at oL rJ cG;obtain⟨B,hB⟩:∃B,bnd k=B:=⟨_,rfl⟩;rw[hB] at oN cG lN;rw[<-ZkY] at oL;have lO:=h_ cG;have yO:=h_ rJ;have KP:a<256:=(by omega);clear hs bO hf hk ha hB cG rJ;go_enter Tryz.func183,Tryz.ntmps183;go_wp2;go_loop [6] (λi=>∃j:Nat,j<=k/\i=.int .i64 j) (λi=>(9-intOf i).toNat);case atStart=>exact⟨0,by omega,rfl⟩
 case round=>
  obtain⟨j,hj,rfl⟩:=hrel;by_cases qT:j<k
  ·have hb:=Fe.o j (by omega) hj;rw[<-ZjM,Vao qT] at hb;go_wp2;go_round;case rel=>exact⟨j+1,by omega,by go_num⟩
   case measure=>simp[intOf];omega
  ·have Fg:j=k:=(by omega);subst Fg
   have bz:(j<8/\(bits .and .u8 (c:Int) (128/2 ^ j) !=0)=false)\/8<=j:=by
    by_cases h8:j<8
    ·have:=Fe.o j h8 UZz;rw[<-ZjM,Vai qT] at this;exact .inl ⟨h8,this⟩
    ·exact .inr (by omega)
   rcases bz with ⟨h8,hb⟩|h8
   all_goals
    by_cases ad:s.size<j+1
    ·have eZ:=h_ (Z3j (by rw[lO.o,Vaf (by omega)]));go_wp2;go_ret3;exact⟨Z4r eZ.o.symm,rfl⟩
    ·go_wp2;go_loop [7,8] (λn i=>∃m:Nat,1<=m/\m<=j+1/\i=.int .i64 m/\n=.int .u64 ((vl a (((toL s).drop 1).take (m-1)):Nat):Int)) (λ_ i=>(j+2-intOf i).toNat);case atStart=>exact⟨1,by omega,by omega,rfl,by simp[vl]⟩
     case round=>
      obtain⟨m,dC,Vr,rfl,rfl⟩:=hrel;have bq:=ZkZ (((toL s).drop 1).take (m-1)) a;by_cases bG:m<=j
      ·have ga:m<s.size:=(by omega);have aT:=h_ (Z4q a m s dC ga)
       have hlen:(((toL s).drop 1).take (m-1)).length=m-1:=by
        rw[Vau,Va2,Z1];omega
       rw[hlen] at bq
       have yP:vl a (((toL s).drop 1).take (m-1))<72057594037927936:=by
        refine Va5 bq (Vaq ?_ yO.o.2);exact Vct _ (Vby (by omega) (by omega))
       obtain⟨y,hy⟩:∃y,(s[m]).toNat=y:=⟨_,rfl⟩;have Dk:y<256:=(by rw[<-hy];exact Vbi _);rw[hy] at aT;obtain⟨v,hv⟩:∃v,vl a (((toL s).drop 1).take (m-1))=v:=⟨_,rfl⟩;rw[hv] at aT yP⊢;have Fh:=h_ (Zhx v y yP Dk);clear bq hlen hv;go_wp2;go_round;case rel=>exact⟨m+1,by omega,by omega,by go_num,by rw[Fh.o,Vb7,aT.o]⟩
       case measure=>simp[intOf];omega
      ·have Fi:m=j+1:=(by omega);subst Fi;rw[Vb7] at bq⊢
       have hlen:(((toL s).drop 1).take j).length=j:=by
        rw[Vau,Va2,Z1];omega
       rw[hlen] at bq;have Fj:=Va5 bq yO.o.1;obtain⟨v,hv⟩:∃v,vl a (((toL s).drop 1).take j)=v:=⟨_,rfl⟩;rw[hv] at Fj⊢;have fO:=lO.o;rw[hv,Vad (by omega)] at fO;clear bq hlen hv;by_cases dE:9223372036854775807<v+B
       ·rw[Vaf dE] at fO;have eZ:=h_ (Z3j fO);have i2:(9223372036854775807:Int)-(B:Int)<(v:Int):=(by omega);clear fO dE;go_wp2_with (go_at_call 71;refine(oN.o _).mono ?_;rintro e w' ⟨rfl,rfl⟩);go_ret3;exact⟨Z4r eZ.o.symm,rfl⟩
       ·rw[Vad dE] at fO;have eZ:=h_ (Zad fO);have i2:¬(9223372036854775807:Int)-(B:Int)<(v:Int):=(by omega);clear fO dE;go_wp2_with (go_at_call 71;refine(oN.o _).mono ?_;rintro e w' ⟨rfl,rfl⟩);go_ret3;exact⟨Z4r (by rw[eZ.o];push_cast;rfl),rfl⟩
end Go.Proofs.YtchokmkfobandaaGreatDoor
