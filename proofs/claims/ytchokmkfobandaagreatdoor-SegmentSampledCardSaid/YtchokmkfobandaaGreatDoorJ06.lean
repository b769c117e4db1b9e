import Derived.Test.YtchokmkfobandaaGreatDoorJ05
import Derived.Deep.DeepCutAuto
import Derived.Deep.RegionHeld3
set_option linter.unusedVariables false
set_option linter.unusedSimpArgs false
set_option maxRecDepth 100000
set_option maxHeartbeats 8000000
namespace Go.Proofs.YtchokmkfobandaaGreatDoor
open Go.RowKit Go.Proofs Wv Wv.Vi Wv.Rc
theorem Z8w (p:Nat) (e:En):Yz p 0 e=⟨e.out,e.low,e.size/2048*p⟩:=by unfold Yz;rw[Vaf rfl]
theorem Z8x (p:Nat) (e:En) (B:Nat) (hB:e.size/2048*p=B) (h:4294967296<=e.low+B):Yz p 1 e=⟨XD e.out,e.low+B-4294967296,e.size-B⟩:=by
 unfold Yz;rw[hB,Vad (by omega),Vaf h]
theorem Z5S (p:Nat) (e:En) (B:Nat) (hB:e.size/2048*p=B) (h:¬4294967296<=e.low+B):Yz p 1 e=⟨e.out,e.low+B,e.size-B⟩:=by
 unfold Yz;rw[hB,Vad (by omega),Vad h]
def szmu (b:Nat) (w:World):Nat:=match w.cell? ⟨b,2,none⟩ with
 |some (.int _ n)=>(16777216-n).toNat
 |_=>0
theorem Zai {w:World} {b:Nat} {dv:Value} {e:En} (h:EnAt w b dv e):szmu b w=(16777216-(e.size:Int)).toNat:=by
 have:=h.1.cell 2;simp at this;unfold szmu;rw[this]
theorem EnAt.put1 {w:World} {b:Nat} {dv:Value} {e:En} (h:EnAt w b dv e) (x:Nat):EnAt (w.setCell ⟨b,1,none⟩ (.int .u32 (x:Int))) b dv ⟨e.out,x,e.size⟩:=
 ⟨by simpa using h.1.put 1 (.int .u32 (x:Int)),XB h.2 (p:=⟨b,1,none⟩) h.apart _⟩
theorem EnAt.put2 {w:World} {b:Nat} {dv:Value} {e:En} (h:EnAt w b dv e) (x:Nat):EnAt (w.setCell ⟨b,2,none⟩ (.int .u32 (x:Int))) b dv ⟨e.out,e.low,x⟩:=
 ⟨by simpa using h.1.put 2 (.int .u32 (x:Int)),XB h.2 (p:=⟨b,2,none⟩) h.apart _⟩
theorem Xh {w w':World} {b:Nat} {dv:Value} (h:Fr (foot b dv) w w') (o:Nat) (x:Value):Fr (foot b dv) w (w'.setCell ⟨b,o,none⟩ x):=h.setCell (p:=⟨b,o,none⟩) (.inl (.inl rfl)) x
theorem Z3k {w : World} {b : Nat} {dv : Value} {e : En} (h : EnAt w b dv e) (hv : Val 0 e) (p bit : Nat) (dB : 1 <= p) (eA : p <= 2047) (a8 : bit < 2) (hl : e.out.length <= 1000000) :
    Calls Tryz.prog 176 #[.pointer (some ⟨b,0,none⟩),.int .i64 (p:Int),.int .i64 (bit:Int)] w λx w'=>x=.returned (.tuple #[])/\∃cK,EnAt w' b cK (ebit p bit e)/\Fr (foot b dv) w w'/\Zo w dv cK:=by
  obtain⟨v1,v2⟩:=Z4g hv;obtain⟨b1,b2⟩:=QW e.size p v1 dB eA;have ej:=hv.low;have tz:=(Q4 hv (b:=bit) dB eA).1;have fh:=(Q4 hv (b:=bit) dB eA).2.2.2;obtain⟨B,hB⟩:∃B,e.size/2048*p=B:=⟨_,rfl⟩;have yQ:=hv.top;have c0:=h.1.cell 0;have c1:=h.1.cell 1;have c2:=h.1.cell 2;have f1:=h.1.frozen 1;have f2:=h.1.frozen 2;simp at c0 c1 c2;have yR:=h_ (Z2z (p:Int) (by omega) (by omega));rw[hB] at b1 b2;have HB:=h_ hB;have H:=h_ h
  have i0:IntKind.u32.wrap ((e.size:Int)/2048*(p:Int))=(B:Int):=by
    have:(e.size:Int)/2048*(p:Int)=(B:Int):=(by rw[<-HB.o,Vb1,Int.natCast_ediv];rfl);rw[this,IntWalk.u32_in _ (by omega)]
  have yS:=h_ tz;have yL:=h_ fh;have Fk:=h_ yQ;have Hv:=h_ hv;clear h hB tz fh yQ hv;go_enter Tryz.func176,Tryz.ntmps176;go_wp2;go_quiet ((go_at_call 216;exact q1 (yR.o _)));clear i0;go_upto_if 17 with fail;go_cut [] (λwx=>EnAt wx b dv (Yz p bit e)/\Fr (foot b dv) w wx)
  case first=>
    have hz:bit=0\/bit=1:=(by omega);rcases hz with rfl|rfl
    · have Hz:=h_ (Z8w p e)
      rw[HB.o] at Hz;go_wp2;go_meet
      case rel=>
        rw[Hz.o];exact⟨((H.o).drewN nq).put2 B,Xh ((Fr.refl _ _).drewN nq) 2 _⟩
    · have i2:(e.size:Int)-(B:Int)=((e.size-B:Nat):Int):=by omega
      obtain⟨R,hR⟩:∃R,e.size-B=R:=⟨_,rfl⟩;rw[hR] at i2;by_cases dE:4294967296<=e.low+B
      · have Hz:=h_ (Z8x p e B HB.o dE)
        obtain⟨L,hL⟩:∃L,e.low+B-4294967296=L:=⟨_,rfl⟩;have i1:((e.low:Int)+(B:Int)) % 4294967296=(L:Int):=(by omega);have Fl:(L:Int)<(e.low:Int):=(by omega);rw[hL,hR] at Hz
        have bU:0<e.out.length:=by
          rcases Vbm e.out.length with h9|h9
          · have h8:=Fk.o
            have h7:N e=vl 0 e.out*4294967296+e.low:=rfl;rw[h7,h9] at h8;simp only[Nat.pow_zero,Vcw] at h8;omega
          · exact h9
        have Hc:=h_ (Z8v ((H.o).drewN nq) bU (by omega));clear hL hR dE bU;go_wp2_with fail;refine(Hc.o).mono ?_;rintro x w2 ⟨rfl,cO,ai⟩;have q1:=cO.1.cell 1;have q2:=cO.1.cell 2;have p1:=cO.1.frozen 1;have p2:=cO.1.frozen 2;simp at q1 q2;have PM:=h_ cO;have cl:=h_ ai;clear cO ai;go_wp2;go_meet
        case rel=>
          rw[Hz.o];exact⟨(PM.o.put1 L).put2 R,Xh (Xh (((Fr.refl _ _).drewN nq).trans cl.o) 1 _) 2 _⟩
      · have Hz:=h_ (Z5S p e B HB.o dE)
        obtain⟨L,hL⟩:∃L,e.low+B=L:=⟨_,rfl⟩;have aQ:=h_ (show(e.low:Int)+(B:Int)=(L:Int) by omega);rw[hL,hR] at Hz;have i1:((e.low:Int)+(B:Int)) % 4294967296=(L:Int):=(by omega);have Fl:¬(L:Int)<(e.low:Int):=(by omega);clear hL hR dE;go_wp2;go_meet
        case rel=>
          rw[Hz.o,aQ.o];exact⟨(((H.o).drewN nq).put1 L).put2 R,Xh (Xh ((Fr.refl _ _).drewN nq) 1 _) 2 _⟩
  case rest=>
    obtain⟨he,hf⟩:=hcut;obtain⟨Vt,hi,du,bN,eB⟩:=info_parts Za8;have hlen:=yL.o;clear c0 c1 c2 f1 f2;go_wp2;go_loopw [] (λwr=>∃(k:Nat) (dr:Value) (x:En),EnAt wr b dr x/\Val k x/\k<=2/\Hid (Q0 k x=ebit p bit e)/\Fr (foot b dv) w wr/\Zo w dv dr/\x.out.length<=e.out.length+2-k) (λwr=>szmu b wr);case atStart=>exact⟨2,dv,_,he,yS.o,UZz,h_ rfl,hf,.inl rfl,by omega⟩
    case round=>
      clear he hf hlen;obtain⟨k,dr,x,hx,fW,hk,hn,hf,ew,KT⟩:=hrel;have q0:=hx.1.cell 0;have q1:=hx.1.cell 1;have q2:=hx.1.cell 2;simp at q0 q1 q2;have ej:=fW.low;have ad:=fW.sz.2;by_cases ab:x.size<16777216
      · obtain ⟨j, rfl⟩ : ∃ j, k = j + 1 := by
          rcases Vbm k with h9|h9
          · subst h9
            have:=Z4g fW;omega
          · exact⟨k-1,by omega⟩
        have eE:=Qk fW ab;have kO:Q0 (j+1) x=Q0 j (YU x):=(by rw[Q0,Vaf ab]);have ic:=h_ kO;have oQ:=h_ eE;have bQ:(x.size:Int)<16777216:=(by omega)
        have Fo:0<x.size:=by
          have:=fW.sz.1;rcases Vbm x.size with h9|h9
          · rw[h9,Nat.zero_mul] at this;omega
          · exact h9
        obtain⟨y,hy⟩:∃y,x.low/16777216=y:=⟨_,rfl⟩;have Dk:y<256:=(by omega);have i1:(x.low:Int)/16777216=(y:Int):=(by omega);have i2:IntKind.u8.wrap (y:Int)=(y:Int):=(by rw[IntWalk.u8_in _ (by omega)]);obtain⟨L,hL⟩:∃L,x.low*256 % 4294967296=L:=⟨_,rfl⟩;have i3:IntKind.u32.wrap ((x.low:Int)*256)=(L:Int):=(by rw[IntKind.wrap_u32'];omega);obtain⟨R,hR⟩:∃R,x.size*256=R:=⟨_,rfl⟩;have i4:IntKind.u32.wrap ((x.size:Int)*256)=(R:Int):=(by rw[IntKind.wrap_u32'];omega);have yT:Hid (YU x=⟨x.out++[UInt8.ofNat y],L,R⟩):=h_ (by unfold YU;rw[hy,hL,hR]);obtain⟨Vu,w1,ag,ah,dm,ak⟩:=Zej (P:=Tryz.prog) (w:=wr) 115 115 5 _ _ 1 Tryz.underlying115 Za8 rfl (by omega) hx.2 [.int .u8 (y:Int)] rfl (by simp[Value.oneCell']) (by unfold maxLen;omega) (by omega) (Vat _);obtain⟨A',M',bp,rfl⟩:=Zd ah;have eC:=(hx.1.alloc (.cells #[.int .u8 (y:Int)] 5)).drew.grown dm (λe=>hx.apart e.symm);have r0:=eC.cell 0;have r1:=eC.cell 1;have r2:=eC.cell 2;have t0:=eC.frozen 0;have t1:=eC.frozen 1;have t2:=eC.frozen 2;simp at r0 r1 r2;have aq:=h_ ag;have cD:=hx.1.lt;have PN:=eC.lt;have cw:(Value.slice A' M' bp).ownBlock≠some b:=Z2 ah eC (by decide)
        have iW:EnAt (w1.setCell ⟨b,0,none⟩ (Value.slice A' M' bp)) b (Value.slice A' M' bp) ⟨x.out++[UInt8.ofNat y],x.low,x.size⟩:=by
          refine⟨by simpa using eC.put 0 (Value.slice A' M' bp),?_⟩;have h7:=XB ah (p:=⟨b,0,none⟩) cw (Value.slice A' M' bp)
          have h8:x.out.map bv++[.int .u8 (y:Int)]=(x.out++[UInt8.ofNat y]).map bv:=by
            rw[Vbk];simp[bv,Nat.mod_eq_of_lt Dk]
          rw[h8] at h7;rw[Vab];exact h7
        have cU:=(iW.drewN 1).put1 L|>.put2 R
        have aC:Fr (foot b dv) w (w1.setCell ⟨b,0,none⟩ (Value.slice A' M' bp)):=Xh (((hf.alloc (.cells #[.int .u8 (y:Int)] 5)).drew).grown dm (λg hg=>by
          rcases ew with h9|h9
          · exact .inl (.inr (h9▸hg))
          · exact .inr (h9 g hg))) 0 _
        have yU:Zo w dv (Value.slice A' M' bp):=by
          rcases ak with h9|h9
          · rcases ew with oR|oR
            · exact .inl (h9.trans oR)
            · exact .inr (λg hg=>oR g (h9▸hg))
          · refine .inr (λg hg=> ?_)
            have oR:some g=some (wr.heap.size+1):=hg.symm.trans h9;injection oR with oR;have:=hf.size;omega
        have rM:=h_ cU;have oS:=h_ iW;have Hx:=h_ hx;have HR:=h_ hR;have cP:=h_ aC;have Fp:=h_ yU;clear iW cU aC yU ag ah dm ak eC eE kO fW hx ab hf ew hy hL hR cw;go_wp2;go_region_law ((refine Z3c (by rfl) _ _ _ (by rfl) _ _ (by rfl) (by rfl) aq.o ?_))
        all_goals
          clear r0 r1 r2 t0 t1 t2 q0 q1;generalize w1.setCell ⟨b,0,none⟩ (.slice A' M' bp)=W at*;have r1:=oS.o.1.cell 1;have r2:=oS.o.1.cell 2;have t1:=oS.o.1.frozen 1;have t2:=oS.o.1.frozen 2;simp at r1 r2
        all_goals
          go_wp2;go_region
        all_goals
          go_wp2;go_roundw
          case rel=>
            refine⟨j,.slice A' M' bp,YU x,?_,oQ.o,by omega,h_ (by rw[<-ic.o,hn.o]),(Xh (Xh cP.o 1 _) 2 _).drew,Fp.o,by rw[YR];omega⟩;rw[yT.o];exact((oS.o.put1 L).put2 R).drew
          case measure=>
            show szmu b _<szmu b _;rw[Zai (((oS.o.put1 L).put2 R).drew),Zai Hx.o];have:=HR.o;simp only;omega
      · have kO : Q0 k x = x := by cases k with
          |zero=>rfl
          |succ k=>rw[Q0,Vad ab]
        have ic:=h_ kO;have bQ:¬(x.size:Int)<16777216:=(by omega);clear ab kO;go_wp2;go_end0;refine⟨rfl,dr,?_,hf,ew⟩;rw[<-hn.o,ic.o];exact hx
theorem Z7b (w:World):
  Calls Tryz.prog 113 #[] w λx w'=>x=.returned (.pointer (some ⟨w.heap.size,0,none⟩))/\EnAt w' w.heap.size (.slice none 0 0) e0/\Below w.heap.size w w':=by
 go_enter Tryz.func113,Tryz.ntmps113;go_wp2;go_ret;exact⟨rfl,⟨Bk.new _ _ _,Zk⟩,(Vae _ _).alloc UZz _⟩
theorem Zaj (m:Nat):∀(u:Nat) (e:En),edir (m+1) u e=ebit 1024 (u % 2) (edir m (u/2) e):=by
 induction m with
 |zero=>intro u e;simp[edir]
 |succ m ih=>
  intro u e;rw[edir,ih,edir,Nat.div_div_eq_div_mul,Vbr,Vbt 2]
theorem Zak (n j v:Nat) (e:En) (h:j<n):edir (n-j) (v/2 ^ j) e=ebit 1024 (v/2 ^ j % 2) (edir (n-(j+1)) (v/2 ^ (j+1)) e):=by
 rw[show n-j=(n-(j+1))+1 from by omega,Zaj,Nat.div_div_eq_div_mul,<-Vbr]
theorem Zal (k:Nat):∀e:En,(Q0 k e).out.length<=e.out.length+k:=by
 induction k with
 |zero=>intro e;exact UZz
 |succ k ih=>
  intro e;rw[Q0];split
  ·have:=ih (YU e);rw[YR] at this;omega
  ·omega
theorem Z01 (p b:Nat) (e:En):(ebit p b e).out.length<=e.out.length+2:=by
 have h:=Zal 2 (Yz p b e)
 have:(Yz p b e).out.length=e.out.length:=by
  unfold Yz;split
  ·rfl
  ·split
   ·exact Yd _
   ·rfl
 unfold ebit;omega
theorem Z7c (n v:Nat):∀e:En,(edir n v e).out.length<=e.out.length+2*n:=by
 induction n with
 |zero=>intro e;exact UZz
 |succ n ih=>
  intro e;rw[edir];have h1:=ih (ebit 1024 (v/2 ^ n % 2) e);have h2:=Z01 1024 (v/2 ^ n % 2) e;omega
theorem Z5T {w:World} {b:Nat} {dv:Value} {e:En} (h:EnAt w b dv e) (hv:Val 0 e) (n v:Nat) (hn:n<=62) (yV:v<=9223372036854775807) (hl:e.out.length<=900000):
  Calls Tryz.prog 179 #[.pointer (some ⟨b,0,none⟩),.int .i64 (n:Int),.int .i64 (v:Int)] w λx w'=>x=.returned (.tuple #[])/\∃cK,EnAt w' b cK (edir n v e)/\Fr (foot b dv) w w'/\Zo w dv cK:=by
 have ha:=and1;go_enter Tryz.func179,Tryz.ntmps179;go_wp2;go_loopw [6] (λi wr=>∃(j:Nat) (dr:Value),j<=n/\i=.int .i64 ((j:Int)-1)/\EnAt wr b dr (edir (n-j) (v/2 ^ j) e)/\Fr (foot b dv) w wr/\Zo w dv dr) (λi _=>(intOf i+1).toNat);case atStart=>exact⟨n,dv,by omega,rfl,by rw[Va7];exact h,Fr.refl _ _,.inl rfl⟩
 case round=>
  obtain⟨j,dr,hj,rfl,hx,hf,ew⟩:=hrel;by_cases ab:0<j
  ·obtain⟨k,rfl⟩:∃k,j=k+1:=⟨j-1,by omega⟩;have hg:=Zak n k v e (by omega);have hlen:=Z7c (n-(k+1)) (v/2 ^ (k+1)) e;have hval:=Z77 (n-(k+1)) (v/2 ^ (k+1)) hv;have i1:((k+1:Nat):Int)-1=(k:Int):=(by omega);rw[i1];obtain⟨E,hE⟩:∃E,edir (n-(k+1)) (v/2 ^ (k+1)) e=E:=⟨_,rfl⟩;obtain⟨y,hy⟩:∃y,v/2 ^ k % 2=y:=⟨_,rfl⟩;have lY:y<2:=(by omega);have i2:(v:Int)/2 ^ k % 2=(y:Int):=(by rw[<-hy,Int.natCast_emod,Int.natCast_ediv,Int.natCast_pow];rfl);rw[hE] at hg hlen hval hx;rw[hy] at hg;have Hb:=h_ (Z3k hx hval 1024 y (by omega) (by omega) lY (by omega));have Hg:=h_ hg;clear hg hE hy hx hlen hval;go_wp2_with fail;refine(Hb.o).mono ?_;rintro x w1 ⟨rfl,yW,cO,ai,dD⟩;have hs:=hf.size;go_wp2;go_roundw;case rel=>exact⟨k,yW,by omega,rfl,by rw[Hg.o];exact cO,Zhy hf ai ew,ew.trans dD hs⟩
   case measure=>simp[intOf]<;>omega
  ·have gI:j=0:=(by omega);subst gI;go_wp2;go_end0;exact⟨rfl,dr,by simpa using hx,hf,ew⟩
theorem Z7d {P:Program} (src dst e:TypeId) (hs:P.underlying src=some (.slice e)) (he:P.underlying e=some (.int .u8)) (hd:P.underlying dst=some .string) {w:World} {base n:Nat} {v:Value} {l:List UInt8}
  (h:w.ownsRow base e 1 v n (l.map bv)):(convert src dst v).run P w=.ok (.string (bs l)) w:=by
 rcases h.2 with ⟨rfl,hn⟩|⟨g,cap,cur,rfl,hb,hg,rest⟩
 ·have hl:l=[]:=by
   have:=h.1;rw[hn,Vag] at this;exact Vaj (by omega)
  subst hl;exact run_convert_bytes_nil w src e hs he 0 0 dst hd
 ·exact Z75 src dst e hs he hd h
end Go.Proofs.YtchokmkfobandaaGreatDoor
