import Derived.Test.YtchokmkfobandaaGreatDoorJ06
import Derived.Test.YtchokmkfobandaaGreatDoorJ07
import Derived.Deep.RegionWith
set_option linter.unusedVariables false
set_option linter.unusedSimpArgs false
set_option maxRecDepth 100000
set_option maxHeartbeats 8000000
namespace Go.Proofs.YtchokmkfobandaaGreatDoor
open Go.RowKit Go.Proofs Wv Wv.Vi Wv.Rc
theorem be4 (x:Nat):be 4 x=[UInt8.ofNat (x/16777216),UInt8.ofNat (x/65536),UInt8.ofNat (x/256),UInt8.ofNat x]:=by simp[be]
theorem Z1A {w:World} {b:Nat} {dv:Value} {e:En} (h:EnAt w b dv e) (ej:e.low<4294967296) (hl:e.out.length<=1000000):
  Calls Tryz.prog 114 #[.pointer (some ⟨b,0,none⟩)] w λx w'=>x=.returned (.string (bs (efin e)))/\Below w.heap.size w w':=by
 have c0:=h.1.cell 0;have c1:=h.1.cell 1;simp at c0 c1;have cD:=h.1.lt;obtain⟨a1,h1⟩:∃a,e.low/16777216=a:=⟨_,rfl⟩;obtain⟨a2,h2⟩:∃a,e.low/65536 % 256=a:=⟨_,rfl⟩;obtain⟨a3,h3⟩:∃a,e.low/256 % 256=a:=⟨_,rfl⟩;obtain⟨a4,h4⟩:∃a,e.low % 256=a:=⟨_,rfl⟩;have i1:(e.low:Int)/16777216=(a1:Int):=(by omega);have i2:(e.low:Int)/65536 % 256=(a2:Int):=(by omega);have i3:(e.low:Int)/256 % 256=(a3:Int):=(by omega);have i4:(e.low:Int) % 256=(a4:Int):=(by omega);have l1:a1<256:=(by omega);have l2:a2<256:=(by omega);have l3:a3<256:=(by omega);have l4:a4<256:=(by omega);have H1:=h_ h1;have H2:=h_ h2;have H3:=h_ h3;have H4:=h_ h4;clear h1 h2 h3 h4;have H:=h_ h;clear h;go_enter Tryz.func114,Tryz.ntmps114;go_wp2;go_region;have hE:EnAt (w.alloc (.cells #[.int .u8 (a1:Int),.int .u8 (a2:Int),.int .u8 (a3:Int),.int .u8 (a4:Int)] 207)).drew b dv e:=(H.o.below ((Vae _ _).alloc UZz _)).drew;have hB:Below w.heap.size w (w.alloc (.cells #[.int .u8 (a1:Int),.int .u8 (a2:Int),.int .u8 (a3:Int),.int .u8 (a4:Int)] 207)).drew:=((Vae _ _).alloc UZz _).drew;have hK:Bk (w.alloc (.cells #[.int .u8 (a1:Int),.int .u8 (a2:Int),.int .u8 (a3:Int),.int .u8 (a4:Int)] 207)).drew w.heap.size 207 #[.int .u8 (a1:Int),.int .u8 (a2:Int),.int .u8 (a3:Int),.int .u8 (a4:Int)]:=Bk.new _ _ _;generalize (w.alloc (.cells #[.int .u8 (a1:Int),.int .u8 (a2:Int),.int .u8 (a3:Int),.int .u8 (a4:Int)] 207)).drew=W at*;have d0:=hE.1.cell 0;simp at d0;have Ft:∀n,(convert 115 9 dv).run Tryz.prog (W.drewN n)=.ok (.string (bs e.out)) (W.drewN n):=λn=>Z7d 115 9 5 Tryz.underlying115 Tryz.underlying5 Tryz.underlying9 (hE.drewN n).2
 have Fu:∀n,(convert 115 9 (.slice (some ⟨w.heap.size,0,none⟩) 4 4)).run Tryz.prog (W.drewN n)=.ok (.string (bs [UInt8.ofNat a1,UInt8.ofNat a2,UInt8.ofNat a3,UInt8.ofNat a4])) (W.drewN n):=λn=>by
  refine run_convert_bytes_back (W.drewN n) 115 9 5 ⟨w.heap.size,0,none⟩ 4 [UInt8.ofNat a1,UInt8.ofNat a2,UInt8.ofNat a3,UInt8.ofNat a4] Tryz.underlying115 Tryz.underlying5 Tryz.underlying9 (λj hj=> ?_);have PQ:j<4:=hj;rw[Go.WideShapes.add_plain,Vbo,(hK.drewN n).cell];have:j=0\/j=1\/j=2\/j=3:=(by omega);rcases this with rfl|rfl|rfl|rfl<;>simp[Nat.mod_eq_of_lt, *]
 have ad:(bs e.out).size<=1000000:=(by rw[Z0];exact hl);have gb:(bs [UInt8.ofNat a1,UInt8.ofNat a2,UInt8.ofNat a3,UInt8.ofNat a4]).size=4:=rfl
 have Hr:=h_ (show bs e.out++bs [UInt8.ofNat a1,UInt8.ofNat a2,UInt8.ofNat a3,UInt8.ofNat a4]=bs (efin e) from by
  rw[Zg,efin,be4,<-H1.o,<-H2.o,<-H3.o,<-H4.o];have q:∀x:Nat,UInt8.ofNat (x % 256)=UInt8.ofNat x:=λx=>(by apply UInt8.toNat_inj.1;simp);rw[q,q,q])
 generalize bs e.out=s1 at*;generalize bs [UInt8.ofNat a1,UInt8.ofNat a2,UInt8.ofNat a3,UInt8.ofNat a4]=s2 at*;clear hE hK c0 c1 i1 i2 i3 i4;go_wp2;go_quiet (fail);go_wp2;go_ret;exact⟨Z0w Hr.o,bdN hB _⟩
def dpk:Nat->List UInt8->De
 |0,s=>⟨s,0,4294967295,false,false⟩
 |k+1,s=>X9 (dpk k s)
theorem Zem (k:Nat) (s:List UInt8):dpk (k+1) s=X9 (dpk k s):=rfl
theorem Z7f (s:List UInt8) (w:World):
  Calls Tryz.prog 184 #[.string (bs s)] w λx w'=>x=.returned (.pointer (some ⟨w.heap.size,0,none⟩))/\DAt w' w.heap.size (d0 s)/\Below w.heap.size w w':=by
 go_enter Tryz.func184,Tryz.ntmps184;go_wp2;go_loopw [7] (λi wr=>∃k:Nat,k<=4/\i=.int .i64 k/\DAt wr w.heap.size (dpk k s)/\Below w.heap.size w wr) (λi _=>(4-intOf i).toNat);case atStart=>exact⟨0,by omega,rfl,Bk.new _ _ _,(Vae _ _).alloc UZz _⟩
 case round=>
  obtain⟨k,hk,rfl,hd,hf⟩:=hrel;by_cases ab:k<4
  ·have Hd:=h_ (Z4t hd);have hz:=h_ (Zem k s);clear hd;go_wp2_with fail;refine(Hd.o).mono ?_;rintro y w1 ⟨rfl,iX,aC⟩;go_wp2;go_roundw;case rel=>exact⟨k+1,by omega,by go_num,by rw[hz.o];exact iX,hf.trans (aC.toBelow' hf.size (λj hj e=>by have:j=w.heap.size:=e;omega))⟩
   case measure=>simp[intOf]<;>omega
  ·have KY:k=4:=(by omega);subst KY;have fD:=h_ (show d0 s= { dpk 4 s with full:=decide ((dpk 4 s).code=(dpk 4 s).size) } from rfl);obtain⟨D,hD⟩:∃D,dpk 4 s=D:=⟨_,rfl⟩;have Hd:=h_ hd;rw[hD] at fD Hd hd;clear hD;have q1:=Bk.cell hd 1;have q2:=Bk.cell hd 2;have q4:=Bk.cell hd 4;have t4:=Bk.frozen hd 4;simp at q1 q2 q4
   have el:((D.code:Int)==(D.size:Int))=decide (D.code=D.size):=by
    rw[Vbl,beq_iff_eq,Vas];omega
   clear hd;go_wp2;go_region;go_wp2;go_ret;rw[fD.o];exact⟨rfl,by have h9:=Hd.o.put4 (decide (D.code=D.size));exact h9.drew,(hf.setCell (p:=⟨w.heap.size,4,none⟩) UZz _).drew⟩
def endV (d:De):Int:=if dend d=true then 0 else 12
theorem Zap {d:De} (h:dend d=true):endV d=0:=by unfold endV;rw[Vaf h]
theorem Z2A {d:De} (h:dend d=false):endV d=12:=by unfold endV;rw[h];rfl
theorem Zen {w:World} {b:Nat} {d:De} (h:DAt w b d):
  Calls Tryz.prog 185 #[.pointer (some ⟨b,0,none⟩)] w λx w'=>x=.returned (.int .i64 (endV d))/\w=w':=by
 have c0:=Bk.cell h 0;have c1:=Bk.cell h 1;have c3:=Bk.cell h 3;have c4:=Bk.cell h 4;simp at c0 c1 c3 c4;have hd:dend d=(!d.miss&& !d.full&&d.rest.isEmpty&&d.code==0):=rfl
 have hz:∀s:List UInt8,(bs s).toList.isEmpty=s.isEmpty:=λs=>by
  cases s with
  |nil=>exact emp1 rfl
  |cons a t=>exact emp0 (by rw[Z0];simp)
 have cB:=hz d.rest;generalize rO:d.rest.isEmpty=re at*;generalize ga:d.miss=ms at*;generalize tB:d.full=fs at*;generalize bs d.rest=s at*;have Hd:=h_ hd;clear h hz rO ga tB hd;cases ms
 ·cases fs
  ·cases re
   ·go_enter Tryz.func185,Tryz.ntmps185;go_wp2;go_ret;exact⟨Zw (Z2A (by rw[Hd.o];rfl)).symm,rfl⟩
   ·by_cases hc:d.code=0
    ·have dI:((d.code:Int) !=0)=false:=(by rw[hc];rfl);have Hc:=h_ hc;clear hc;go_enter Tryz.func185,Tryz.ntmps185;go_wp2;go_ret;exact⟨Zw (Zap (by rw[Hd.o,Hc.o];rfl)).symm,rfl⟩
    ·have dI:((d.code:Int) !=0)=true:=(by rw[Va0];omega);have fE:(d.code==0)=false:=(by rw[Vam];exact hc);have Hc:=h_ fE;clear hc fE;go_enter Tryz.func185,Tryz.ntmps185;go_wp2;go_ret;exact⟨Zw (Z2A (by rw[Hd.o,Hc.o];rfl)).symm,rfl⟩
  ·go_enter Tryz.func185,Tryz.ntmps185;go_wp2;go_ret;exact⟨Zw (Z2A (by rw[Hd.o];rfl)).symm,rfl⟩
 ·go_enter Tryz.func185,Tryz.ntmps185;go_wp2;go_ret;exact⟨Zw (Z2A (by rw[Hd.o];rfl)).symm,rfl⟩
theorem Zaq (a b:Nat) (ha:a<9223372036854775808) (hb:b<9223372036854775808):bits .or .i64 (a:Int) (b:Int)=((a|||b:Nat):Int):=by
 have h1:(BitVec.ofInt 64 (a:Int)).toNat=a:=ofInt_u64 a (by omega);have h2:(BitVec.ofInt 64 (b:Int)).toNat=b:=ofInt_u64 b (by omega);show IntKind.i64.wrap ((BitVec.ofInt 64 (a:Int)|||BitVec.ofInt 64 (b:Int)).toNat:Nat)=_;rw[BitVec.toNat_or,h1,h2];have:=Nat.or_lt_two_pow (x:=a) (y:=b) (n:=63) (by omega) (by omega);rw[IntWalk.i64_in _ (by omega)]
theorem Zar (m:Nat):∀(a:Nat) (d:De),(ddir (m+1) a d)=(2*(ddir m a d).1+dbt 1024 (ddir m a d).2,dbit 1024 (ddir m a d).2):=by
 induction m with
 |zero=>intro a d;rfl
 |succ m ih=>intro a d;rw[ddir,ih];rfl
theorem Z1B (p:Nat) (d:De):dbt p d<=1:=by unfold dbt;split<;>omega
theorem Zas (m:Nat):∀(a:Nat) (d:De),DV 0 d->DV 0 (ddir m a d).2/\(ddir m a d).1<(a+1)*2 ^ m:=by
 induction m with
 |zero=>intro a d h;exact⟨h,by simp[ddir]⟩
 |succ m ih=>
  intro a d h;obtain⟨h1,h2⟩:=ih (2*a+dbt 1024 d) (dbit 1024 d) (Z4u h (by omega) (by omega));rw[ddir];refine⟨h1,Va5 h2 ?_⟩;have:=Z1B 1024 d;rw[Vbr,Vbt _ 2,<-Vb4];exact Vb2 _ (by omega)
theorem or1 (v y:Nat) (hv:v<4611686018427387904) (hy:y<2):bits .or .i64 ((v:Int)*2) (y:Int)=((2*v+y:Nat):Int):=by
 rw[show(v:Int)*2=((2*v:Nat):Int) from by omega];rw[Zaq _ _ (by omega) (by omega),nat_join 1 _ _ (by omega) (by omega)]
theorem Z5U {w:World} {b:Nat} {d:De} (h:DAt w b d) (hv:DV 0 d) (n:Nat) (hn:n<=62):
  Calls Tryz.prog 253 #[.pointer (some ⟨b,0,none⟩),.int .i64 (n:Int)] w λx w'=>x=.returned (.int .i64 ((ddir n 0 d).1:Nat))/\DAt w' b (ddir n 0 d).2/\Fr (only b) w w':=by
 go_enter Tryz.func253,Tryz.ntmps253;go_wp2;go_loopw [5,13] (λv i wr=>∃k:Nat,k<=n/\i=.int .i64 k/\v=.int .i64 ((ddir k 0 d).1:Nat)/\DAt wr b (ddir k 0 d).2/\Fr (only b) w wr) (λ_ i _=>(n-intOf i).toNat);case atStart=>exact⟨0,by omega,rfl,rfl,h,Fr.refl _ _⟩
 case round=>
  obtain⟨k,hk,rfl,rfl,hd,hf⟩:=hrel;by_cases ab:k<n
  ·have hs:=Zar k 0 d;obtain⟨lZ,bq⟩:=Zas k 0 d hv
   have hp:(0+1)*2 ^ k<=2305843009213693952:=by
    rw[Vbo,Nat.one_mul];exact Vby (n:=2) (by omega) (show k<=61 by omega)
   generalize ddir k 0 d=D at*;obtain⟨v,D⟩:=D;simp only at hs lZ bq hd⊢;have Hb:=h_ (Z3n hd lZ 1024 (by omega) (by omega));have hy:=Z1B 1024 D;obtain⟨y,Dp⟩:∃y,dbt 1024 D=y:=⟨_,rfl⟩;rw[Dp] at Hb hs hy;have PR:v<2305843009213693952:=(by omega);have rN:=h_ (or1 v y (by omega) (by omega));have Hs:=h_ hs;clear hs lZ bq hp hd Dp;go_wp2_with fail;refine(Hb.o).mono ?_;rintro z w1 ⟨rfl,iX,aC⟩;go_wp2;go_roundw;case rel=>exact⟨k+1,by omega,by go_num,by rw[rN.o,Hs.o],by rw[Hs.o];exact iX,hf.trans aC⟩
   case measure=>simp[intOf]<;>omega
  ·have:k=n:=(by omega);subst this;go_wp2;go_ret;exact⟨rfl,hd,hf⟩
open Wv.Mo
theorem Z8y (p:Int) (h1:1<=p) (h2:p<=2047) (w:World):
  Calls Tryz.prog 218 #[.int .i64 p] w λx w'=>x=.returned (.int .i64 p)/\w=w':=by
 go_enter Tryz.func218,Tryz.ntmps218;go_wp2;go_ret;exact⟨rfl,rfl⟩
theorem Z02 (z b:Nat) (h1:1<=z) (h2:z<=2047) (hb:b<2) (w:World):
  Calls Tryz.prog 177 #[.int .i64 (z:Int),.int .i64 (b:Int)] w λx w'=>x=.returned (.int .i64 (Y3 z b:Nat))/\w=w':=by
 have Hc:=h_ (Z8y (z:Int) (by omega) (by omega));have hz:b=0\/b=1:=(by omega);rcases hz with rfl|rfl
 ·have ha:=h_ (show Y3 z 0=z+(2048-z)/32 by unfold Y3;rw[Vaf rfl]);go_enter Tryz.func177,Tryz.ntmps177;go_wp2_with fail;refine(Hc.o _).mono ?_;rintro x w1 ⟨rfl,rfl⟩;go_wp2;go_ret;exact⟨Zw (by rw[ha.o];omega),rfl⟩
 ·have ha:=h_ (show Y3 z 1=z-z/32 by unfold Y3;rw[Vad (by omega)]);have az:(((1:Nat):Int)==0)=false:=rfl;go_enter Tryz.func177,Tryz.ntmps177;go_wp2_with fail;refine(Hc.o _).mono ?_;rintro x w1 ⟨rfl,rfl⟩;go_wp2;go_ret;exact⟨Zw (by rw[ha.o];omega),rfl⟩
def nc (t:List Nat):Array Value:=(t.map λn:Nat=>(Value.int .i64 (n:Int))).toArray
theorem X0 (t:List Nat) (i:Nat) (h:i<t.length):(nc t)[i]? =some (.int .i64 (t.getD i 0:Nat)):=by
 have:t.getD i 0=t[i]:=(by simp[List.getD,h]);rw[this];simp[nc,Van h]
theorem QD (t:List Nat) (i z:Nat):(nc t).setIfInBounds i (.int .i64 (z:Int))=nc (t.set i z):=by
 apply Vbj.1;simp[nc,List.map_set]
def NAt (w:World) (b g:Nat) (t:List Nat):Prop:=Bk w b 161 #[.int .i64 6,.slice (some ⟨g,0,none⟩) 64 64]/\Bk w g 3 (nc t)
theorem NAt.drewN {w:World} {b g:Nat} {t:List Nat} (h:NAt w b g t) (n:Nat):NAt (w.drewN n) b g t:=h
theorem NAt.drew {w:World} {b g:Nat} {t:List Nat} (h:NAt w b g t):NAt w.drew b g t:=h
theorem NAt.fr {S:Nat->Prop} {w w':World} {b g:Nat} {t:List Nat} (h:NAt w b g t) (hf:Fr S w w') (h1:¬S b) (h2:¬S g):NAt w' b g t:=⟨h.1.fr hf h1,h.2.fr hf h2⟩
theorem NAt.below {w w':World} {b g:Nat} {t:List Nat} (h:NAt w b g t) (hb:Below w.heap.size w w'):NAt w' b g t:=⟨h.1.below hb h.1.lt,h.2.below hb h.2.lt⟩
theorem NAt.put {w:World} {b g:Nat} {t:List Nat} (h:NAt w b g t) (m z:Nat):NAt (w.setCell ⟨g,m,none⟩ (.int .i64 (z:Int))) b g (t.set m z):=by
 have az:b≠g:=Bk.apart h.1 h.2 (by decide);refine⟨h.1.off (p:=⟨g,m,none⟩) az _,?_⟩;have:=h.2.put m (.int .i64 (z:Int))
 rwa [QD] at this
theorem NAt.foot {w:World} {b g eb:Nat} {dv:Value} {t:List Nat} {e:En} (h:NAt w b g t) (he:EnAt w eb dv e):¬foot eb dv b/\¬foot eb dv g:=by
 refine⟨λhs=> ?_,λhs=> ?_⟩
 ·rcases hs with hs|hs
  ·exact Bk.apart h.1 he.1 (by decide) hs
  ·exact Z2 he.2 h.1 (by decide) hs
 ·rcases hs with hs|hs
  ·exact Bk.apart h.2 he.1 (by decide) hs
  ·exact Z2 he.2 h.2 (by decide) hs
theorem NAt.onl {w:World} {b g eb:Nat} {t:List Nat} {d:De} (h:NAt w b g t) (he:DAt w eb d):¬only eb b/\¬only eb g:=
 ⟨λhs=>Bk.apart h.1 he (by decide) hs,λhs=>Bk.apart h.2 he (by decide) hs⟩
def Z13 (g eb:Nat) (dv:Value):Nat->Prop:=λk=>k=g\/foot eb dv k
def Z2m (g eb:Nat):Nat->Prop:=λk=>k=g\/k=eb
theorem Z3o {w w1 w2:World} {g eb:Nat} {dv dr:Value} (h:Fr (Z13 g eb dv) w w1) (k:Fr (foot eb dr) w1 w2) (ho:Zo w dv dr):Fr (Z13 g eb dv) w w2:=
 h.trans' k (λi hi hs=>by
  rcases hs with hs|hs
  ·exact .inr (.inl hs)
  ·rcases ho with ho|ho
   ·exact .inr (.inr (ho▸hs))
   ·have:=ho i hs;omega)
theorem Zat {w w1:World} {g eb m:Nat} {dv x:Value} (h:Fr (Z13 g eb dv) w w1):Fr (Z13 g eb dv) w (w1.setCell ⟨g,m,none⟩ x):=h.setCell (p:=⟨g,m,none⟩) (.inl (.inl rfl)) x
theorem EnAt.off {w:World} {b g eb m:Nat} {dv x:Value} {t:List Nat} {e:En} (he:EnAt w eb dv e) (h:NAt w b g t):EnAt (w.setCell ⟨g,m,none⟩ x) eb dv e:=
 he.fr (S:=only g) ((Fr.refl (only g) w).setCell (p:=⟨g,m,none⟩) (.inl rfl) x) (λe=>(h.foot he).2 (.inl e.symm)) (λk hk e=>(h.foot he).2 (.inr (by rw[hk];exact congrArg some e)))
theorem DAt.off {w:World} {b g eb m:Nat} {x:Value} {t:List Nat} {d:De} (he:DAt w eb d) (h:NAt w b g t):DAt (w.setCell ⟨g,m,none⟩ x) eb d:=
 he.fr (S:=only g) ((Fr.refl (only g) w).setCell (p:=⟨g,m,none⟩) (.inl rfl) x) (λe=>(h.onl he).2 e.symm)
end Go.Proofs.YtchokmkfobandaaGreatDoor
