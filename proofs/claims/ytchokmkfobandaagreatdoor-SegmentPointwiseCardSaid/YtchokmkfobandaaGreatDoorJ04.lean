import Derived.Test.YtchokmkfobandaaGreatDoorChecked
import Derived.Test.YtchokmkfobandaaGreatDoorJ01
import Derived.Test.YtchokmkfobandaaGreatDoorJ02
import Derived.WalkKit
import Derived.WalkSpells
import Derived.WalkLawsBesides
import Derived.Deep.QuietTactic
import Derived.BigQuiet
import Derived.Outline
set_option linter.unusedVariables false
set_option linter.unusedSimpArgs false
set_option maxRecDepth 100000
set_option maxHeartbeats 8000000
namespace Go.Proofs.YtchokmkfobandaaGreatDoor
open Go.RowKit Go.Proofs Wv Wv.Vi
theorem Z0w {k:IntKind} {a b:Int} (h:a=b):Ending.returned (.int k a)=.returned (.int k b):=by rw[h]
theorem Z03 {a b:Bool} (h:a=b):Ending.returned (.bool a)=.returned (.bool b):=by rw[h]
theorem Z4w {a b:ByteArray} (h:a=b):Ending.returned (.string a)=.returned (.string b):=by rw[h]
theorem Z5w (k:Int) (h0:0<=k) (h8:k<=8) (w:World):
  Calls Tryz.prog 71 #[.int .i64 k] w λe w'=>e=.returned (.int .i64 (bnd k.toNat:Nat))/\w=w':=by
 obtain⟨k,rfl⟩:=Int.eq_ofNat_of_zero_le h0;rw[Int.toNat_natCast];have hv:=h_ Z3T;go_enter Tryz.func71,Tryz.ntmps71;go_wp2;go_loop [3,4] (λb i=>∃j:Nat,j<=k/\i=.int .i64 ((j:Int)+1)/\b=.int .i64 (bnd j:Nat)) (λ_ i=>k+1-(intOf i).toNat);case atStart=>exact⟨0,Nat.zero_le _,rfl,rfl⟩
 case round=>
  obtain⟨j,hj,rfl,rfl⟩:=hrel;by_cases ab:j<k
  ·have hb:=Zkc j (by omega);have hz:j=0\/j=1\/j=2\/j=3\/j=4\/j=5\/j=6\/j=7:=(by omega);rcases hz with rfl|rfl|rfl|rfl|rfl|rfl|rfl|rfl
   all_goals
    go_wp2;go_round;case rel=>exact⟨_,ab,by rfl,by rfl⟩
    case measure=>simp[intOf];omega
  ·go_wp2;go_ret;exact⟨Z0w (by rw[show k=j from by omega]),rfl⟩
theorem ZhU (n:Int) (h0:0<=n) (dT:n<=9223372036854775807) (w:World):
  Calls Tryz.prog 70 #[.int .i64 n] w λe w'=>e=.returned (.int .i64 ((kof n.toNat:Int)+1))/\w=w':=by
 obtain⟨n,rfl⟩:=Int.eq_ofNat_of_zero_le h0;rw[Int.toNat_natCast];have lD:=Z15 n;have H:=h_ Z5w;go_enter Tryz.func70,Tryz.ntmps70;go_wp2;go_loop [3] (λk=>∃j:Nat,j<=kof n/\k=.int .i64 j) (λk=>9-(intOf k).toNat);case atStart=>exact⟨0,Nat.zero_le _,rfl⟩
 case round=>
  obtain⟨j,hj,rfl⟩:=hrel;by_cases h8:j<8
  ·have hs:=ZhJ n j h8 hj;have hb:=H.o ((j:Int)+1) (by omega) (by omega) w;rw[show(((j:Int)+1).toNat)=j+1 from by omega] at hb;have Hb:=h_ hb;by_cases ab:j<kof n
   ·have hle:bnd (j+1)<=n:=hs.2 ab;clear hs hb;go_wp2_with (go_at_call 71;refine(Hb.o).mono ?_;rintro e w' ⟨rfl,rfl⟩);go_round;case rel=>exact⟨j+1,by omega,by go_num⟩
    case measure=>simp[intOf];omega
   ·have hle:¬bnd (j+1)<=n:=λh=>ab (hs.1 h);clear hs hb;go_wp2_with (go_at_call 71;refine(Hb.o).mono ?_;rintro e w' ⟨rfl,rfl⟩);go_ret;exact⟨Z0w (by omega),rfl⟩
  ·go_wp2;go_ret;exact⟨Z0w (by omega),rfl⟩
theorem Zng:(Tryz.prog.info? 5).map (λi=>(i.zero,i.size,i.bytes))=some (some (.int .u8 0),1,1):=by kernel_rfl
theorem Ze5:∀k:Nat,k<9->∀r:Nat,r<128->(k<=7->r<2 ^ (7-k))->(k=8->r=0)->bits .or .u8 (((65280/2 ^ k % 256:Nat):Int)) (r:Int)=((256-2 ^ (8-k)+r:Nat):Int):=by decide+kernel
theorem Zl6 (k:Nat):(65280:Int)/2 ^ k % 256=((65280/2 ^ k % 256:Nat):Int):=by
 rw[Int.natCast_emod,Int.natCast_ediv,Int.natCast_pow];rfl
theorem Znh (k j r:Nat) (hj:0<j) (qz:j<=k):(List.replicate (j+1) (0:UInt8)++be (k-j) r).set j (UInt8.ofNat (r/256 ^ (k-j) % 256))=List.replicate (j-1+1) 0++be (k-(j-1)) r:=by
 have h1:k-(j-1)=k-j+1:=by omega
 have h2:UInt8.ofNat (r/256 ^ (k-j) % 256)=UInt8.ofNat (r/256 ^ (k-j)):=by
  apply UInt8.toNat_inj.1;simp
 rw[h1,h2];have h3:List.replicate (j+1) (0:UInt8)++be (k-j) r=List.replicate j 0++(0::be (k-j) r):=(by rw[List.replicate_succ'];simp);rw[h3,List.set_append_right _ _ (by simp),show j-1+1=j from by omega];simp[be]
theorem ZhV (r m:Nat):r/256 ^ m/256=r/256 ^ (m+1):=by rw[Nat.div_div_eq_div_mul,Nat.pow_succ]
theorem Z0g (n:Int) (h0:0<=n) (dT:n<=9223372036854775807) (w:World):
  Calls Tryz.prog 49 #[.int .i64 n] w λe w'=>e=.returned (.string (bs (num n.toNat)))/\Below w.heap.size w w':=by
 obtain⟨n,rfl⟩:=Int.eq_ofNat_of_zero_le h0;rw[Int.toNat_natCast];obtain⟨k,hk⟩:∃k,kof n=k:=⟨_,rfl⟩;have lD:=Z15 n;have cS:=ZdK n;have cT:=ZdL n (by omega);have H1:=h_ (ZhU (n:Int) (by omega) dT);have H2:=h_ (Z5w (k:Int) (by omega) (by omega));rw[Int.toNat_natCast,hk] at H1;rw[Int.toNat_natCast] at H2;rw[hk] at lD cS cT;obtain⟨b,hb⟩:∃b,bnd k=b:=⟨_,rfl⟩;rw[hb] at H2 cS cT;obtain⟨r,hr⟩:∃r,n-b=r:=⟨_,rfl⟩;rw[hr] at cT;have dE:Hid (num n=UInt8.ofNat (256-2 ^ (8-k)+r/256 ^ k)::be k r):=h_ (by unfold num;rw[hk,hb,hr]);have i1:(n:Int)-(b:Int)=(r:Int):=(by omega);have Pb:=h_ cT;have Pd:r<=9223372036854775807:=(by omega);have bE:=Z1g (P:=Tryz.prog) 115 5 _ _ Tryz.underlying115 Zng rfl ((k:Int)+1) (k+1) rfl (by omega) (by omega);rw[Z8e] at bE;clear hk hb hr cT cS;go_enter Tryz.func49,Tryz.ntmps49;go_wp2_with fail;refine(H1.o _).mono ?_;rintro e w1 ⟨rfl,rfl⟩;go_wp2_with fail;refine(H2.o _).mono ?_;rintro e w1 ⟨rfl,rfl⟩;go_wp2;go_loopw [4,6] (λx i wr=>∃j:Nat,j<=k/\i=.int .i64 j/\x=.int .i64 ((r/256 ^ (k-j):Nat):Int)/\Bk wr w.heap.size 5 (bc (List.replicate (j+1) 0++be (k-j) r))/\Below w.heap.size w wr) (λ_ i _=>(intOf i).toNat);case atStart=>exact⟨k,Nat.le_refl _,rfl,by simp,by rw[Nat.sub_self];simpa [be] using Bk.new w 5 (bc (List.replicate (k+1) 0)),(Below.refl _ _).alloc (Nat.le_refl _) _⟩
 case round=>
  obtain⟨j,hj,rfl,rfl,aC,hf⟩:=hrel;have hlen:(List.replicate (j+1) (0:UInt8)++be (k-j) r).length=k+1:=(by rw[List.length_append,List.length_replicate,Z16];omega);have dM:r/256 ^ (k-j)<=r:=Nat.div_le_self _ _;by_cases ab:0<j
  ·obtain⟨x,hx⟩:∃x,r/256 ^ (k-j)=x:=⟨_,rfl⟩;have aT:=h_ (Znh k j r ab hj);have y8:=h_ (ZhV r (k-j));obtain⟨y0,sH⟩:∃y:Int,wr.cell? ⟨w.heap.size,j,none⟩=some (.int .u8 y):=⟨_,by rw[aC.cell,ZdI _ _ (by omega)]⟩;have mi:=aC.frozen j;have qz:(j:Int)<(k:Int)+1:=(by omega);have Pe:x<=9223372036854775807:=(by omega);rw[hx] at aT y8⊢;have jV:=h_ aC;clear hx aC dM hlen bE;go_wp2;go_roundw
   case rel=>
    refine⟨j-1,by omega,by congr 1;omega,?_,?_,hf.setCell (p:=⟨w.heap.size,j,none⟩) (Nat.le_refl _) _⟩
    ·rw[show k-(j-1)=k-j+1 from by omega,<-y8.o];congr 1
    ·have:=jV.o.put j (.int .u8 ((x:Int) % 256));rw[Zka _ _ _ (by omega) (by omega)] at this;rw[<-aT.o];have e:((x:Int) % 256).toNat=x % 256:=(by omega);rw[e] at this;exact this
   case measure=>simp[intOf];omega
  ·have hU:j=0:=(by omega);subst hU;rw[Nat.sub_zero] at aC⊢hlen;obtain⟨x,hx⟩:∃x,r/256 ^ k=x:=⟨_,rfl⟩;have cT:=Pb.o;rw[hx] at cT;have y9:x<128:=Nat.lt_of_lt_of_le cT.1 (Nat.pow_le_pow_right (by omega) (show 7-k<=7 by omega));have jx:=Ze5 k (by omega) x y9 (λ_=>cT.1) cT.2;have e1:=Zl6 k;have e2:(x:Int) % 256=(x:Int):=(by omega);rw[<-e1] at jx;have fk:256-2 ^ (8-k)+x<256:=(Z6q k x (by omega) cT.1 cT.2).1;rw[hx] at dE⊢;obtain⟨y,hy⟩:∃y,256-2 ^ (8-k)+x=y:=⟨_,rfl⟩;rw[hy] at dE jx fk;obtain⟨y0,sH⟩:∃y:Int,wr.cell? ⟨w.heap.size,0,none⟩=some (.int .u8 y):=⟨_,by rw[aC.cell,ZdI _ _ (by omega)]⟩;have mi:=aC.frozen 0;have aj:=aC.put 0 (.int .u8 (y:Int));rw[Zka _ _ _ (by omega) (by omega),Int.toNat_natCast] at aj;have ew:=ZhI (P:=Tryz.prog) 115 9 5 Tryz.underlying115 Tryz.underlying5 Tryz.underlying9 _ w.heap.size (k+1) (k+1) (num n) [] (by rw[List.append_nil,dE.o];exact aj) (by rw[dE.o];simp[Z16]);have qz:(0:Int)<(k:Int)+1:=(by omega);clear hx aC dM hlen bE aj hy cT e1;go_wp2;go_ret;exact⟨rfl,hf.setCell (p:=⟨w.heap.size,0,none⟩) (Nat.le_refl _) _⟩
open Wv.Ru
theorem kof9 (n:Nat):(num n).length<=9:=by rw[Z07];have:=Z15 n;omega
theorem Z2K (s:ByteArray) (hs:s.size<=1099511627776) (w:World):
  Calls Tryz.prog 54 #[.string s] w λe w'=>e=.returned (.string (bs (text s)))/\Below w.heap.size w w':=by
 have H:=Z0g (s.size:Int) (by omega) (by omega) w;rw[Int.toNat_natCast] at H;have hl:=kof9 s.size;have hr:=h_ (show bs (num s.size)++s=bs (text s) from by rw[<-Z09 s,Z0f];rfl);rw[<-Z00] at hl;generalize bs (num s.size)=t at*;have H:=h_ H;go_enter Tryz.func54,Tryz.ntmps54;go_wp2_with fail;refine(H.o).mono ?_;rintro e w1 ⟨rfl,hb⟩;go_wp2;go_ret;exact⟨Z4w hr.o,hb⟩
def RV (w:World) (b:Nat) (s:ByteArray) (e:Nat):Prop:=Bk w b 189 #[.string s,.int .i64 (e:Int)]
theorem RV.c0 {w:World} {b e:Nat} {s:ByteArray} (h:RV w b s e):w.cell? ⟨b,0,none⟩=some (.string s):=Bk.cell h 0
theorem RV.c1 {w:World} {b e:Nat} {s:ByteArray} (h:RV w b s e):w.cell? ⟨b,1,none⟩=some (.int .i64 (e:Int)):=Bk.cell h 1
theorem RV.f0 {w:World} {b e:Nat} {s:ByteArray} (h:RV w b s e):w.frozen? ⟨b,0,none⟩=false:=Bk.frozen h 0
theorem RV.f1 {w:World} {b e:Nat} {s:ByteArray} (h:RV w b s e):w.frozen? ⟨b,1,none⟩=false:=Bk.frozen h 1
theorem Z0M (s:ByteArray) (w:World):
  Calls Tryz.prog 85 #[.string s] w λe w'=>e=.returned (.pointer (some ⟨w.heap.size,0,none⟩))/\RV w' w.heap.size s 0/\Below w.heap.size w w':=by
 go_enter Tryz.func85,Tryz.ntmps85;go_wp2;go_ret;exact⟨rfl,Bk.new _ _ _,(Below.refl _ _).alloc (Nat.le_refl _) _⟩
theorem Z37 {w:World} {b e:Nat} {s:ByteArray} (h:RV w b s e) (n:Nat):
  Calls Tryz.prog 143 #[.pointer (some ⟨b,0,none⟩),.int .i64 (n:Int)] w λe w'=>e=.returned (.tuple #[])/\RV w' b s n/\Fr (only b) w w':=by
 have h1:=h.c1;have f1:=h.f1;go_enter Tryz.func143,Tryz.ntmps143;go_wp2;go_end0;exact⟨rfl,by simpa [RV] using Bk.put h 1 (.int .i64 (n:Int)),(Fr.refl (only b) _).setCell (p:=⟨b,1,none⟩) (.inl rfl) _⟩
theorem Z0a {w:World} {b e:Nat} {s:ByteArray} (h:RV w b s e):
  Calls Tryz.prog 87 #[.pointer (some ⟨b,0,none⟩)] w λx w'=>x=.returned (.int .i64 (e:Int))/\w=w':=by
 have h1:=h.c1;go_enter Tryz.func87,Tryz.ntmps87;go_wp2;go_ret;exact⟨rfl,rfl⟩
theorem Z0r {w:World} {b e:Nat} {s:ByteArray} (h:RV w b s e) (hs:s.size<=9223372036854775807):
  Calls Tryz.prog 90 #[.pointer (some ⟨b,0,none⟩)] w λx w'=>x=.returned (.int .i64 (s.size:Int))/\w=w':=by
 have h1:=h.c0;go_enter Tryz.func90,Tryz.ntmps90;go_wp2;go_ret;exact⟨rfl,rfl⟩
theorem ZhW:∀c:Nat,c<256->∀j:Nat,j<8->j<=lead c->(bits .and .u8 (c:Int) (((128/2 ^ j:Nat):Int)) !=0)=decide (j<lead c):=by decide+kernel
theorem Ze6:∀c:Nat,c<256->bits .and .u8 (c:Int) (((127/2 ^ lead c:Nat):Int))=((c-(256-2 ^ (8-lead c)):Nat):Int):=by decide+kernel
theorem Zni (k:Nat):(128:Int)/2 ^ k=((128/2 ^ k:Nat):Int):=by
 rw[Int.natCast_ediv,Int.natCast_pow];rfl
theorem Zoy (k:Nat):(127:Int)/2 ^ k=((127/2 ^ k:Nat):Int):=by
 rw[Int.natCast_ediv,Int.natCast_pow];rfl
theorem Zl7 (n b:Nat) (hn:n<72057594037927936) (hb:b<256):bits .or .u64 ((n:Int)*256) (b:Int)=((256*n+b:Nat):Int):=by
 rw[show(n:Int)*256=((256*n:Nat):Int) from by rw[Int.natCast_mul,Int.mul_comm];rfl,u64_or_nat _ _ (by omega) (by omega),nat_join 8 _ _ (by omega) (by omega)]
theorem Zoz (l:List UInt8):∀a,vl a l<(a+1)*256 ^ l.length:=by
 induction l with
 |nil=>intro a;simp[vl]
 |cons b t ih=>
  intro a;have h:=ih (256*a+b.toNat);have hb:=UInt8.toNat_lt b;rw[List.length_cons,Nat.pow_succ];refine Nat.lt_of_lt_of_le h ?_;have h1:256*a+b.toNat+1<=(a+1)*256:=(by omega);have:=Nat.mul_le_mul_right (256 ^ t.length) h1;rw[Nat.mul_comm (256 ^ t.length) 256,<-Nat.mul_assoc];exact this
theorem ZhX (c:Nat) (hc:c<256):(c-(256-2 ^ (8-lead c))+1)*256 ^ lead c<=18446744073709551616/\(c-(256-2 ^ (8-lead c))+1)*256 ^ (lead c-1)<=72057594037927936:=by
 have h:=Z5j c;have h8:=Z9G c;rcases nine (lead c) h8 with e|e|e|e|e|e|e|e|e<;>rw[e] at h⊢<;>simp only[Nat.reducePow,Nat.reduceSub]<;>omega
theorem emp1 {s:ByteArray} (h:s.size=0):s.toList.isEmpty=true:=by
 rw[ByteArray.toList_eq];have:s.data.toList.length=0:=h;rw[List.eq_nil_of_length_eq_zero this];rfl
theorem emp0 {s:ByteArray} (h:0<s.size):s.toList.isEmpty=false:=by
 rw[ByteArray.toList_eq];have:s.data.toList.length=s.size:=rfl;match hl:s.data.toList with
 |[]=>rw[hl] at this;simp at this;omega
 |_::_=>rfl
theorem ZhY {w:World} {b e:Nat} {s:ByteArray} (h:RV w b s e) (hs:s.size=0):
  Calls Tryz.prog 183 #[.pointer (some ⟨b,0,none⟩)] w λx w'=>x=.returned (.tuple #[.int .i64 0,.int .i64 0,.bool false])/\w=w':=by
 have h1:=h.c0;have cF:=emp1 hs;go_enter Tryz.func183,Tryz.ntmps183;go_wp2;go_ret3;exact⟨rfl,rfl⟩
structure Fst (s:ByteArray) (c k:Nat):Prop where
 pos:0<s.size
 get:∀h:0<s.size,(s[0]'h).toNat=c
 lt:c<256
 lead:lead c=k
theorem Znj {s:ByteArray} (h:0<s.size):∃c,Fst s c (lead c)/\c=(s[0]).toNat/\toL s=UInt8.ofNat c::(toL s).drop 1:=by
 refine⟨(s[0]).toNat,⟨h,λ_=>rfl,UInt8.toNat_lt _,rfl⟩,rfl,?_⟩;have h1:0<(toL s).length:=h;have h2:toL s=(toL s)[0]::(toL s).drop 1:=(by rw[<-List.drop_eq_getElem_cons h1,List.drop_zero]);have h3:(toL s)[0]=s[0]:=(by simp[toL];rfl);rw[h3] at h2;rw[UInt8.ofNat_toNat];exact h2
theorem Z8q (a m:Nat) (s:ByteArray) (h1:1<=m) (h:m<s.size):vl a (((toL s).drop 1).take m)=256*vl a (((toL s).drop 1).take (m-1))+(s[m]).toNat:=by
 have hl:m<(toL s).length:=h;obtain⟨j,rfl⟩:∃j,m=j+1:=⟨m-1,by omega⟩;have h2:j<((toL s).drop 1).length:=(by rw[List.length_drop];omega);rw[List.take_succ_eq_append_getElem h2,Nat.add_sub_cancel]
 have h3:((toL s).drop 1)[j]=s[j+1]:=by
  rw[List.getElem_drop];simp only[toL,Nat.add_comm 1 j];rw[Array.getElem_toList];rfl
 rw[h3];simp only[vl,List.foldl_append,List.foldl_cons,List.foldl_nil];rfl
def pk (s:ByteArray):Value:=match rd (toL s) with
 |none=>.tuple #[.int .i64 0,.int .i64 0,.bool false]
 |some x=>.tuple #[.int .i64 (x.1:Int),.int .i64 (x.2:Int),.bool true]
theorem Z7h {s:ByteArray} (h:rd (toL s)=none):pk s=.tuple #[.int .i64 0,.int .i64 0,.bool false]:=by unfold pk;rw[h]
theorem Ze7 {s:ByteArray} {n z:Nat} (h:rd (toL s)=some (n,z)):pk s=.tuple #[.int .i64 (n:Int),.int .i64 (z:Int),.bool true]:=by unfold pk;rw[h]
theorem Z8r {a b:Value} (h:a=b):Ending.returned a=.returned b:=by rw[h]
theorem Ze8 {w:World} {b e:Nat} {s:ByteArray} (h:RV w b s e) (hp:0<s.size) (hm:s.size<=1099511627776):
  Calls Tryz.prog 183 #[.pointer (some ⟨b,0,none⟩)] w λx w'=>x=.returned (pk s)/\w=w':=by
 obtain⟨c,hf,bN,hs⟩:=Znj hp;have h1:=h.c0;have u9:=emp0 hp;have hg:=hf.get hp;have hc:=hf.lt;have lD:=Z9G c;have oi:=Ze6 c hc;have r8:=ZhX c hc;have cB:=Z9F (UInt8.ofNat c) ((toL s).drop 1);rw[<-hs,show(UInt8.ofNat c).toNat=c from by simp;omega,show((toL s).drop 1).length=s.size-1 from by rw[List.length_drop];rfl] at cB;have Ep:=h_ (ZhW c hc);have oj:=h_ (Z5w (lead c:Int) (by omega) (by omega));rw[Int.toNat_natCast] at oj;have mM:=Zkc (lead c) lD;obtain⟨k,hk⟩:∃k,lead c=k:=⟨_,rfl⟩;rw[hk] at Ep oi r8 cB oj lD mM;obtain⟨a,ha⟩:∃a,c-(256-2 ^ (8-k))=a:=⟨_,rfl⟩;rw[ha] at oi r8 cB;obtain⟨B,hB⟩:∃B,bnd k=B:=⟨_,rfl⟩;rw[hB] at oj cB mM;rw[<-Zoy] at oi;have ll:=h_ cB;have ya:=h_ r8;have Ku:a<256:=(by omega);clear hs bN hf hk ha hB cB r8;go_enter Tryz.func183,Tryz.ntmps183;go_wp2;go_loop [6] (λi=>∃j:Nat,j<=k/\i=.int .i64 j) (λi=>(9-intOf i).toNat);case atStart=>exact⟨0,by omega,rfl⟩
 case round=>
  obtain⟨j,hj,rfl⟩:=hrel;by_cases qz:j<k
  ·have hb:=Ep.o j (by omega) hj;rw[<-Zni,decide_eq_true qz] at hb;go_wp2;go_round;case rel=>exact⟨j+1,by omega,by go_num⟩
   case measure=>simp[intOf];omega
  ·have Er:j=k:=(by omega);subst Er
   have bx:(j<8/\(bits .and .u8 (c:Int) (128/2 ^ j) !=0)=false)\/8<=j:=by
    by_cases h8:j<8
    ·have:=Ep.o j h8 (Nat.le_refl _);rw[<-Zni,decide_eq_false qz] at this;exact .inl ⟨h8,this⟩
    ·exact .inr (by omega)
   rcases bx with ⟨h8,hb⟩|h8
   all_goals
    by_cases ad:s.size<j+1
    ·have eM:=h_ (Z7h (by rw[ll.o,if_pos (by omega)]));go_wp2;go_ret3;exact⟨Z8r eM.o.symm,rfl⟩
    ·go_wp2;go_loop [7,8] (λn i=>∃m:Nat,1<=m/\m<=j+1/\i=.int .i64 m/\n=.int .u64 ((vl a (((toL s).drop 1).take (m-1)):Nat):Int)) (λ_ i=>(j+2-intOf i).toNat);case atStart=>exact⟨1,by omega,by omega,rfl,by simp[vl]⟩
     case round=>
      obtain⟨m,dh,TP,rfl,rfl⟩:=hrel;have bm:=Zoz (((toL s).drop 1).take (m-1)) a;by_cases bE:m<=j
      ·have fO:m<s.size:=(by omega);have aR:=h_ (Z8q a m s dh fO)
       have hlen:(((toL s).drop 1).take (m-1)).length=m-1:=by
        rw[List.length_take,List.length_drop,Z01];omega
       rw[hlen] at bm
       have yb:vl a (((toL s).drop 1).take (m-1))<72057594037927936:=by
        refine Nat.lt_of_lt_of_le bm (Nat.le_trans ?_ ya.o.2);exact Nat.mul_le_mul_left _ (Nat.pow_le_pow_right (by omega) (by omega))
       obtain⟨y,hy⟩:∃y,(s[m]).toNat=y:=⟨_,rfl⟩;have Cy:y<256:=(by rw[<-hy];exact UInt8.toNat_lt _);rw[hy] at aR;obtain⟨v,hv⟩:∃v,vl a (((toL s).drop 1).take (m-1))=v:=⟨_,rfl⟩;rw[hv] at aR yb⊢;have Es:=h_ (Zl7 v y yb Cy);clear bm hlen hv;go_wp2;go_round;case rel=>exact⟨m+1,by omega,by omega,by go_num,by rw[Es.o,Nat.add_sub_cancel,aR.o]⟩
       case measure=>simp[intOf];omega
      ·have Et:m=j+1:=(by omega);subst Et;rw[Nat.add_sub_cancel] at bm⊢
       have hlen:(((toL s).drop 1).take j).length=j:=by
        rw[List.length_take,List.length_drop,Z01];omega
       rw[hlen] at bm;have Eu:=Nat.lt_of_lt_of_le bm ya.o.1;obtain⟨v,hv⟩:∃v,vl a (((toL s).drop 1).take j)=v:=⟨_,rfl⟩;rw[hv] at Eu⊢;have fC:=ll.o;rw[hv,if_neg (by omega)] at fC;clear bm hlen hv;by_cases dB:9223372036854775807<v+B
       ·rw[if_pos dB] at fC;have eM:=h_ (Z7h fC);have i2:(9223372036854775807:Int)-(B:Int)<(v:Int):=(by omega);clear fC dB;go_wp2_with (go_at_call 71;refine(oj.o _).mono ?_;rintro e w' ⟨rfl,rfl⟩);go_ret3;exact⟨Z8r eM.o.symm,rfl⟩
       ·rw[if_neg dB] at fC;have eM:=h_ (Ze7 fC);have i2:¬(9223372036854775807:Int)-(B:Int)<(v:Int):=(by omega);clear fC dB;go_wp2_with (go_at_call 71;refine(oj.o _).mono ?_;rintro e w' ⟨rfl,rfl⟩);go_ret3;exact⟨Z8r (by rw[eM.o];push_cast;rfl),rfl⟩
end Go.Proofs.YtchokmkfobandaaGreatDoor
