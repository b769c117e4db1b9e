import Derived.Test.YtchokmkfobandaaGreatDoorJ05
import Derived.Deep.DeepCutAuto
set_option linter.unusedVariables false
set_option linter.unusedSimpArgs false
set_option maxRecDepth 100000
set_option maxHeartbeats 8000000
namespace Go.Proofs.YtchokmkfobandaaGreatDoor
open Go.RowKit Go.Proofs Wv Wv.Vi Wv.Ru
theorem Zel {w:World} {b e:Nat} {s:ByteArray} (h:RV w b s e) (hm:s.size<=1099511627776):
  Calls Tryz.prog 183 #[.pointer (some ⟨b,0,none⟩)] w λx w'=>x=.returned (pk s)/\w=w':=by
 by_cases hp:0<s.size
 ·exact Zae h hp hm
 ·have hs:s.size=0:=(by omega);refine(Zef h hs).mono ?_;rintro x w' ⟨rfl,rfl⟩;have:toL s=[]:=Vaj hs;exact⟨Z4r (Z3j (by rw[this];rfl)).symm,rfl⟩
def numR (s:ByteArray) (e:Nat) (most:Int):Nat×ByteArray×Nat:=
 if e=0 then match rd (toL s) with
  |none=>(0,s,12)
  |some x=>if most<(x.1:Int) then(0,s,2) else(x.1,bs ((toL s).drop x.2),0)
 else(0,s,e)
theorem Qn (s:ByteArray) (z:Nat):s.extract z s.size=bs ((toL s).drop z):=by
 apply Vck;apply Vbj.1;simp only[bs,toL,ByteArray.data_extract,Array.toList_extract,List.extract_eq_take_drop,Vcl];rw[Vah (by rw[Va2];exact UZz)]
theorem Z3l (s:ByteArray) (z:Nat):s.extract 0 z=bs ((toL s).take z):=by
 apply Vck;apply Vbj.1;simp[bs,toL]
theorem Z3m (n:Int) (w:World):Calls Tryz.prog 141 #[.int .i64 n] w λx w'=>x=.returned (.int .i64 n)/\w=w':=by
 go_enter Tryz.func141,Tryz.ntmps141;go_wp2;go_ret;exact⟨rfl,rfl⟩
theorem Zam {w:World} {b e:Nat} {s:ByteArray} (h:RV w b s e) (hm:s.size<=1099511627776) (most:Int):
  Calls Tryz.prog 140 #[.pointer (some ⟨b,0,none⟩),.func (.func 141) #[] #[],.int .i64 0,.int .i64 most] w λx w'=>x=.returned (.int .i64 ((numR s e most).1:Nat))/\RV w' b (numR s e most).2.1 (numR s e most).2.2/\Fr (only b) w w':=by
 have h0:=h.c0;have h1:=h.c1;have f0:=h.f0;have f1:=h.f1;by_cases he:e=0
 ·subst he;have eZ:=Zel h hm
  have hr:numR s 0 most=match rd (toL s) with
   |none=>(0,s,12)
   |some x=>if most<(x.1:Int) then(0,s,2) else(x.1,bs ((toL s).drop x.2),0):=rfl
  match cG:rd (toL s) with
  |none=>
   rw[Z3j cG] at eZ;rw[cG] at hr;have xN:=h_ eZ;have Hr:=h_ hr;have Hf:=h_ (Q8 h 12);clear eZ hr cG;go_enter Tryz.func140,Tryz.ntmps140;go_wp2_with (first|(go_at_call 141;refine(Z3m _ _).mono ?_;rintro x w' ⟨rfl,rfl⟩)|(go_at_call 183;refine(xN.o).mono ?_;rintro x w' ⟨rfl,rfl⟩)|(go_at_call 143;refine(Hf.o).mono ?_;rintro x w' ⟨rfl,lP,nX⟩));go_ret;rw[Hr.o];exact⟨rfl,lP,nX⟩
  |some (n,z)=>
   have hle:=ZkS cG;rw[Zad cG] at eZ;rw[cG] at hr;have gx:z<=s.size:=hle.2.2.1;have PO:=hle.1;have bN:=hle.2.1;have xN:=h_ eZ;clear eZ cG hle;by_cases tA:most<(n:Int)
   ·simp only[Vaf tA] at hr;have Hr:=h_ hr;have Hf:=h_ (Q8 h 2);have Fq:¬(n:Int)<0:=(by omega);clear hr;go_enter Tryz.func140,Tryz.ntmps140;go_wp2_with (first|(go_at_call 141;refine(Z3m _ _).mono ?_;rintro x w' ⟨rfl,rfl⟩)|(go_at_call 183;refine(xN.o).mono ?_;rintro x w' ⟨rfl,rfl⟩)|(go_at_call 143;refine(Hf.o).mono ?_;rintro x w' ⟨rfl,lP,nX⟩));go_ret;rw[Hr.o];exact⟨rfl,lP,nX⟩
   ·simp only[Vad tA] at hr;have Hr:=h_ hr;have Fq:¬(n:Int)<0:=(by omega);have aj:=h_ (Bk.put h 0 (.string (bs ((toL s).drop z))));have hex:=Qn s z;clear hr;go_enter Tryz.func140,Tryz.ntmps140;go_wp2_with (first|(go_at_call 141;refine(Z3m _ _).mono ?_;rintro x w' ⟨rfl,rfl⟩)|(go_at_call 183;refine(xN.o).mono ?_;rintro x w' ⟨rfl,rfl⟩));go_ret;rw[Hr.o];exact⟨rfl,by simpa [RV] using aj.o,(Fr.refl (only b) _).setCell (p:=⟨b,0,none⟩) (.inl rfl) _⟩
 ·have hr:numR s e most=(0,s,e):=(by unfold numR;rw[Vad he]);have az:((e:Int) !=0)=true:=(by rw[Va0];omega);have Hr:=h_ hr;clear hr;go_enter Tryz.func140,Tryz.ntmps140;go_wp2;go_ret;rw[Hr.o];exact⟨rfl,h,Fr.refl _ _⟩
theorem Zi {w:World} {b e:Nat} {s:ByteArray} (h:RV w b s e) (hm:s.size<=1099511627776) (most:Int):
  Calls Tryz.prog 86 #[.pointer (some ⟨b,0,none⟩),.int .i64 most] w λx w'=>x=.returned (.int .i64 ((numR s e most).1:Nat))/\RV w' b (numR s e most).2.1 (numR s e most).2.2/\Fr (only b) w w':=by
 have H:=h_ (Zam h hm most);generalize numR s e most=r at*;go_enter Tryz.func86,Tryz.ntmps86;go_wp2_with fail;refine(H.o).mono ?_;rintro x w1 ⟨rfl,hr,hf⟩;go_wp2;go_ret;exact⟨rfl,hr,hf⟩
def ZC (s:ByteArray) (e:Nat) (n:Int):ByteArray×ByteArray×Nat:=
 if e=0 then if n<0 then(bs [],s,2) else if(s.size:Int)<n then(bs [],s,12) else(bs ((toL s).take n.toNat),bs ((toL s).drop n.toNat),0)
 else(bs [],s,e)
theorem Zu {w:World} {b e:Nat} {s:ByteArray} (h:RV w b s e) (hm:s.size<=1099511627776) (n:Int):
  Calls Tryz.prog 89 #[.pointer (some ⟨b,0,none⟩),.int .i64 n] w λx w'=>x=.returned (.string (ZC s e n).1)/\RV w' b (ZC s e n).2.1 (ZC s e n).2.2/\Fr (only b) w w':=by
 have h0:=h.c0;have h1:=h.c1;have f0:=h.f0;have f1:=h.f1;by_cases he:e=0
 ·subst he;have hr:ZC s 0 n=if n<0 then(bs [],s,2) else if(s.size:Int)<n then(bs [],s,12) else(bs ((toL s).take n.toNat),bs ((toL s).drop n.toNat),0):=rfl
  by_cases hn:n<0
  ·rw[Vaf hn] at hr;have Hr:=h_ hr;have Hf:=h_ (Q8 h 2);clear hr;go_enter Tryz.func89,Tryz.ntmps89;go_wp2_with (first|(go_at_call 143;refine(Hf.o).mono ?_;rintro x w' ⟨rfl,lP,nX⟩));go_ret;rw[Hr.o];exact⟨rfl,lP,nX⟩
  ·obtain⟨n,rfl⟩:=Int.eq_ofNat_of_zero_le (show 0<=n by omega);rw[Vad hn] at hr;by_cases hs:(s.size:Int)<(n:Int)
   ·rw[Vaf hs] at hr;have Hr:=h_ hr;have Hf:=h_ (Q8 h 12);have cV:s.size<n:=(by omega);clear hr hn;go_enter Tryz.func89,Tryz.ntmps89;go_wp2_with (first|(go_at_call 143;refine(Hf.o).mono ?_;rintro x w' ⟨rfl,lP,nX⟩));go_ret;rw[Hr.o];exact⟨rfl,lP,nX⟩
   ·rw[Vad hs,Vav] at hr;have Hr:=h_ hr;have aj:=h_ (Bk.put h 0 (.string (bs ((toL s).drop n))));have hex:=Qn s n;have PP:=Z3l s n;have cV:n<=s.size:=(by omega);clear hr hn hs;go_enter Tryz.func89,Tryz.ntmps89;go_wp2;go_ret;rw[Hr.o];exact⟨rfl,by simpa [RV] using aj.o,(Fr.refl (only b) _).setCell (p:=⟨b,0,none⟩) (.inl rfl) _⟩
 ·have hr:ZC s e n=(bs [],s,e):=(by unfold ZC;rw[Vad he]);have az:((e:Int) !=0)=true:=(by rw[Va0];omega);have Hr:=h_ hr;clear hr;go_enter Tryz.func89,Tryz.ntmps89;go_wp2;go_ret;rw[Hr.o];exact⟨rfl,h,Fr.refl _ _⟩
end Go.Proofs.YtchokmkfobandaaGreatDoor
namespace Go.Proofs.YtchokmkfobandaaGreatDoor
open Go.RowKit Go.Proofs Wv Wv.Vi Wv.Rc
def DAt (w:World) (b:Nat) (d:De):Prop:=Bk w b 292 #[.string (bs d.rest),.int .u32 (d.code:Int),.int .u32 (d.size:Int),.bool d.miss,.bool d.full]
theorem DAt.drewN {w:World} {b:Nat} {d:De} (h:DAt w b d) (n:Nat):DAt (w.drewN n) b d:=h
theorem DAt.drew {w:World} {b:Nat} {d:De} (h:DAt w b d):DAt w.drew b d:=h
theorem DAt.fr {S:Nat->Prop} {w w':World} {b:Nat} {d:De} (h:DAt w b d) (hf:Fr S w w') (hS:¬S b):DAt w' b d:=Bk.fr h hf hS
theorem DAt.below {w w':World} {b:Nat} {d:De} (h:DAt w b d) (hb:Below w.heap.size w w'):DAt w' b d:=Bk.below h hb (Bk.lt h)
theorem DAt.put0 {w:World} {b:Nat} {d:De} (h:DAt w b d) (x:List UInt8):DAt (w.setCell ⟨b,0,none⟩ (.string (bs x))) b { d with rest:=x } :=by simpa [DAt] using Bk.put h 0 (.string (bs x))
theorem DAt.put1 {w:World} {b:Nat} {d:De} (h:DAt w b d) (x:Nat):DAt (w.setCell ⟨b,1,none⟩ (.int .u32 (x:Int))) b { d with code:=x } :=by simpa [DAt] using Bk.put h 1 (.int .u32 (x:Int))
theorem DAt.put2 {w:World} {b:Nat} {d:De} (h:DAt w b d) (x:Nat):DAt (w.setCell ⟨b,2,none⟩ (.int .u32 (x:Int))) b { d with size:=x } :=by simpa [DAt] using Bk.put h 2 (.int .u32 (x:Int))
theorem DAt.put3 {w:World} {b:Nat} {d:De} (h:DAt w b d) (x:Bool):DAt (w.setCell ⟨b,3,none⟩ (.bool x)) b { d with miss:=x } :=by simpa [DAt] using Bk.put h 3 (.bool x)
theorem DAt.put4 {w:World} {b:Nat} {d:De} (h:DAt w b d) (x:Bool):DAt (w.setCell ⟨b,4,none⟩ (.bool x)) b { d with full:=x } :=by simpa [DAt] using Bk.put h 4 (.bool x)
theorem Xi {w w':World} {b:Nat} (h:Fr (only b) w w') (o:Nat) (x:Value):Fr (only b) w (w'.setCell ⟨b,o,none⟩ x):=h.setCell (p:=⟨b,o,none⟩) (.inl rfl) x
theorem or32 (n c:Nat) (hc:c<256):bits .or .u32 (((n*256 % 4294967296:Nat):Int)) (c:Int)=((n*256 % 4294967296+c:Nat):Int):=by
 rw[u32_or_nat _ _ (by omega) (by omega),nat_join 8 _ _ (by omega) (by omega)]
theorem Zl0 (n:Nat):bits .or .u32 (((n*256 % 4294967296:Nat):Int)) 0=((n*256 % 4294967296:Nat):Int):=by
 have:=or32 n 0 (by omega);simpa using this
theorem Z4t {w:World} {b:Nat} {d:De} (h:DAt w b d):
  Calls Tryz.prog 225 #[.pointer (some ⟨b,0,none⟩)] w λx w'=>x=.returned (.tuple #[])/\DAt w' b (X9 d)/\Fr (only b) w w':=by
 have c0:=Bk.cell h 0;have c1:=Bk.cell h 1;have c3:=Bk.cell h 3;have f0:=Bk.frozen h 0;have f1:=Bk.frozen h 1;have f3:=Bk.frozen h 3;simp at c0 c1 c3;obtain⟨X,hX⟩:∃X,d.code*256 % 4294967296=X:=⟨_,rfl⟩;have i1:(d.code:Int)*256 % 4294967296=(X:Int):=(by omega);match hr:d.rest with
 |[]=>
  have hn:X9 d= { { d with miss:=true } with code:=X } :=(by unfold X9;rw[hr];simp only[hX]);have hs:(bs d.rest).size=0:=(by rw[hr];rfl);have cB:=emp1 hs;have rN:=Zl0 d.code;rw[hX] at rN;generalize bs d.rest=s at*;have H:=h_ h;have Hn:=h_ hn;clear h hn hs hr hX;go_enter Tryz.func225,Tryz.ntmps225;go_wp2;go_end0;rw[Hn.o];exact⟨rfl,(H.o.put3 true).put1 X,Xi (Xi (Fr.refl _ _) 3 _) 1 _⟩
 |c::t=>
  have hn:X9 d= { { d with rest:=t } with code:=X+c.toNat } :=(by unfold X9;rw[hr];simp only[hX]);have hs:0<(bs d.rest).size:=(by rw[hr,Z0];simp);have cB:=emp0 hs;have rN:=or32 d.code c.toNat (Vbi c);rw[hX] at rN;have hex:=Qn (bs d.rest) 1;rw[Ze,hr,List.drop_one,List.tail_cons,<-hr] at hex
  have hg:∀hh:0<(bs d.rest).size,((bs d.rest)[0]'hh).toNat=c.toNat:=by
   rw[hr];intro hh;rfl
  generalize bs d.rest=s at*;have dS:=hg hs;obtain⟨y,hy⟩:∃y,c.toNat=y:=⟨_,rfl⟩;rw[hy] at dS rN hn;have Dk:y<256:=(by rw[<-hy];exact Vbi c);have H:=h_ h;have Hn:=h_ hn;clear h hn hr hX hg hy;go_enter Tryz.func225,Tryz.ntmps225;go_wp2;go_region;go_wp2;go_end0;rw[Hn.o];exact⟨rfl,by have h9:=((H.o.put0 t).put1 (X+y)).drew;rw[Vcq] at h9;exact h9,(Xi (Xi (Fr.refl _ _) 0 _) 1 _).drew⟩
def DV (k:Nat) (d:De):Prop:=Szk k d.size/\d.code<4294967296
theorem ZhA {d:De} (h:DV 0 d):16777216<=d.size/\d.size<4294967296:=by have:=h.1;unfold Szk at this;omega
theorem Zan {d:De} (h:DV 0 d) {p:Nat} (dB:1<=p) (eA:p<=2047):DV 2 (Z1n p d):=by
 obtain⟨h1,h2⟩:=ZhA h;obtain⟨b1,b2⟩:=QW d.size p h1 dB eA;have h3:=h.2;unfold Z1n;generalize d.size/2048*p=B at*;split
 ·exact⟨⟨by show _<=B*_;omega,by show B<_;omega⟩,h3⟩
 ·exact⟨⟨by show _<=(d.size-B)*_;omega,by show d.size-B<_;omega⟩,by show d.code-B<_;omega⟩
theorem QM {d:De} :(X9 d).size=d.size/\(X9 d).code<4294967296:=by
 unfold X9;split
 ·exact⟨rfl,by show d.code*256 % 4294967296<_;omega⟩
 ·rename_i c t _;refine⟨rfl,?_⟩;have:=Vbi c;show d.code*256 % 4294967296+c.toNat<_;omega
theorem Z7e {k:Nat} {d:De} (h:DV (k+1) d) (hs:d.size<16777216):DV k (QV d):=by
 refine⟨⟨?_,?_⟩,QM.2⟩
 ·have:=h.1.1;rw[Vbr,<-Vb4] at this;show _<=d.size*256*256 ^ k;rw[Nat.mul_right_comm];exact this
 ·show d.size*256<_;omega
theorem ZhB (k:Nat):∀ {d:De},DV k d->DV 0 (Z11 k d):=by
 induction k with
 |zero=>intro d h;exact h
 |succ k ih=>
  intro d h;rw[Z11];split
  ·exact ih (Z7e h (by assumption))
  ·exact⟨⟨by simp;omega,h.1.2⟩,h.2⟩
theorem Z4u {d:De} (h:DV 0 d) {p:Nat} (dB:1<=p) (eA:p<=2047):DV 0 (dbit p d):=ZhB 2 (Zan h dB eA)
def dsmu (b:Nat) (w:World):Nat:=match w.cell? ⟨b,2,none⟩ with
 |some (.int _ n)=>(16777216-n).toNat
 |_=>0
theorem Zao {w:World} {b:Nat} {d:De} (h:DAt w b d):dsmu b w=(16777216-(d.size:Int)).toNat:=by
 have:=Bk.cell h 2;simp at this;unfold dsmu;rw[this]
theorem Z3n {w : World} {b : Nat} {d : De} (h : DAt w b d) (hv : DV 0 d) (p : Nat) (dB : 1 <= p) (eA : p <= 2047) :
    Calls Tryz.prog 252 #[.pointer (some ⟨b,0,none⟩),.int .i64 (p:Int)] w λx w'=>x=.returned (.int .i64 (dbt p d:Nat))/\DAt w' b (dbit p d)/\Fr (only b) w w':=by
  obtain⟨v1,v2⟩:=ZhA hv;obtain⟨b1,b2⟩:=QW d.size p v1 dB eA;have KU:=hv.2;have tz:=Zan hv dB eA;obtain⟨B,hB⟩:∃B,d.size/2048*p=B:=⟨_,rfl⟩;have c1:=Bk.cell h 1;have c2:=Bk.cell h 2;have f1:=Bk.frozen h 1;have f2:=Bk.frozen h 2;simp at c1 c2;have yR:=h_ (Z2z (p:Int) (by omega) (by omega));rw[hB] at b1 b2;have KV:Z1n p d=if d.code<B then { d with size:=B } else { d with code:=d.code-B,size:=d.size-B } :=by unfold Z1n;rw[hB]
  have Dn:dbt p d=if d.code<B then 0 else 1:=by unfold dbt;rw[hB]
  have H:=h_ h
  have i0:IntKind.u32.wrap ((d.size:Int)/2048*(p:Int))=(B:Int):=by
    have:(d.size:Int)/2048*(p:Int)=(B:Int):=(by rw[<-hB,Vb1,Int.natCast_ediv];rfl);rw[this,IntWalk.u32_in _ (by omega)]
  have yS:=h_ tz;have KW:=h_ KV;have KX:=h_ Dn;clear h hB tz hv KV Dn;go_enter Tryz.func252,Tryz.ntmps252;go_wp2;go_quiet ((go_at_call 216;exact q1 (yR.o _)));clear i0;go_upto_if 20 with fail;go_cut [6] (λs6 wx=>s6=.int .i64 (dbt p d:Nat)/\DAt wx b (Z1n p d)/\Fr (only b) w wx)
  case first=>
    by_cases hc:d.code<B
    · have Hz:=KW.o
      have Hy:=KX.o;rw[Vaf hc] at Hz Hy;have Hz:=h_ Hz;have Hy:=h_ Hy;have dI:(d.code:Int)<(B:Int):=(by omega);clear hc;go_wp2;go_meet
      case rel=>
        rw[Hz.o,Hy.o];exact⟨rfl,((H.o).drewN nq).put2 B,Xi ((Fr.refl _ _).drewN nq) 2 _⟩
    · have Hz:=KW.o
      have Hy:=KX.o;rw[Vad hc] at Hz Hy;have dI:¬(d.code:Int)<(B:Int):=(by omega);obtain⟨C,hC⟩:∃C,d.code-B=C:=⟨_,rfl⟩;obtain⟨S,hS⟩:∃S,d.size-B=S:=⟨_,rfl⟩;rw[hC,hS] at Hz;have i1:IntKind.u32.wrap ((d.code:Int)-(B:Int))=(C:Int):=(by rw[IntKind.wrap_u32'];omega);have i2:IntKind.u32.wrap ((d.size:Int)-(B:Int))=(S:Int):=(by rw[IntKind.wrap_u32'];omega);have Hz:=h_ Hz;have Hy:=h_ Hy;clear hc hC hS;go_wp2;go_region
      all_goals
        go_wp2;go_meet
        case rel=>
          rw[Hz.o,Hy.o];exact⟨rfl,((((H.o).drewN nq).put1 C).put2 S).drew,(Xi (Xi ((Fr.refl _ _).drewN nq) 1 _) 2 _).drew⟩
  case rest=>
    obtain⟨rfl,he,hf⟩:=hcut;clear c1 c2 f1 f2;go_wp2;go_loopw [] (λwr=>∃(k:Nat) (x:De),DAt wr b x/\DV k x/\k<=2/\Hid (Z11 k x=dbit p d)/\Fr (only b) w wr) (λwr=>dsmu b wr);case atStart=>exact⟨2,_,he,yS.o,UZz,h_ rfl,hf⟩
    case round=>
      clear he hf;obtain⟨k,x,hx,fW,hk,hn,hf⟩:=hrel;have q2:=Bk.cell hx 2;simp at q2;have ad:=fW.1.2;by_cases ab:x.size<16777216
      · obtain ⟨j, rfl⟩ : ∃ j, k = j + 1 := by
          rcases Vbm k with h9|h9
          · subst h9
            have:=ZhA fW;omega
          · exact⟨k-1,by omega⟩
        have eE:=Z7e fW ab;have kO:Z11 (j+1) x=Z11 j (QV x):=(by rw[Z11,Vaf ab]);have bQ:(x.size:Int)<16777216:=(by omega)
        have Fo:0<x.size:=by
          have:=fW.1.1;rcases Vbm x.size with h9|h9
          · rw[h9,Nat.zero_mul] at this;omega
          · exact h9
        obtain⟨R,hR⟩:∃R,x.size*256=R:=⟨_,rfl⟩;have i4:(x.size:Int)*256=(R:Int):=(by omega);have Hd:=h_ (Z4t hx);have uO:QV x= { X9 x with size:=R } :=(by unfold QV;rw[hR]);have Do:(X9 x).size=x.size:=QM.1;have ic:=h_ kO;have oQ:=h_ eE;have yX:=h_ uO;have HR:=h_ hR;have Hx:=h_ hx;clear eE kO fW hx ab hR uO;go_wp2_with fail;refine(Hd.o).mono ?_;rintro y w1 ⟨rfl,iX,aC⟩;have r2:=Bk.cell iX 2;have t2:=Bk.frozen iX 2;simp at r2;rw[Do] at r2;clear Do q2;go_wp2;go_roundw
        case rel=>
          refine⟨j,QV x,?_,oQ.o,by omega,h_ (by rw[<-ic.o,hn.o]),Xi (hf.trans aC) 2 _⟩;rw[yX.o];exact iX.put2 R
        case measure=>
          show dsmu b _<dsmu b _;rw[Zao (iX.put2 R),Zao Hx.o];have:=HR.o;simp only;omega
      · have kO : Z11 k x = x := by cases k with
          |zero=>rfl
          |succ k=>rw[Z11,Vad ab]
        have ic:=h_ kO;have bQ:¬(x.size:Int)<16777216:=(by omega);clear ab kO;go_wp2;go_ret;refine⟨rfl,?_,hf⟩;rw[<-hn.o,ic.o];exact hx
end Go.Proofs.YtchokmkfobandaaGreatDoor
