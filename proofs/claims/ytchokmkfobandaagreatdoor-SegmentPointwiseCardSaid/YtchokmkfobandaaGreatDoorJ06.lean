import Derived.Test.YtchokmkfobandaaGreatDoorJ05
import Derived.Deep.DeepCutAuto
import Derived.Deep.RegionHeld3
set_option linter.unusedVariables false
set_option linter.unusedSimpArgs false
set_option maxRecDepth 100000
set_option maxHeartbeats 8000000
namespace Go.Proofs.YtchokmkfobandaaGreatDoor
open Go.RowKit Go.Proofs Wv Wv.Vi Wv.Rc
theorem Zcp (p:Nat) (e:En):Z1u p 0 e=⟨e.out,e.low,e.size/2048*p⟩:=by unfold Z1u;rw[if_pos rfl]
theorem Zcq (p:Nat) (e:En) (B:Nat) (hB:e.size/2048*p=B) (h:4294967296<=e.low+B):Z1u p 1 e=⟨Z2E e.out,e.low+B-4294967296,e.size-B⟩:=by
 unfold Z1u;rw[hB,if_neg (by omega),if_pos h]
theorem Z9O (p:Nat) (e:En) (B:Nat) (hB:e.size/2048*p=B) (h:¬4294967296<=e.low+B):Z1u p 1 e=⟨e.out,e.low+B,e.size-B⟩:=by
 unfold Z1u;rw[hB,if_neg (by omega),if_neg h]
def szmu (b:Nat) (w:World):Nat:=match w.cell? ⟨b,2,none⟩ with
 |some (.int _ n)=>(16777216-n).toNat
 |_=>0
theorem Zec {w:World} {b:Nat} {dv:Value} {e:En} (h:EnAt w b dv e):szmu b w=(16777216-(e.size:Int)).toNat:=by
 have:=h.1.cell 2;simp at this;unfold szmu;rw[this]
theorem EnAt.put1 {w:World} {b:Nat} {dv:Value} {e:En} (h:EnAt w b dv e) (x:Nat):EnAt (w.setCell ⟨b,1,none⟩ (.int .u32 (x:Int))) b dv ⟨e.out,x,e.size⟩:=
 ⟨by simpa using h.1.put 1 (.int .u32 (x:Int)),Z2C h.2 (p:=⟨b,1,none⟩) h.apart _⟩
theorem EnAt.put2 {w:World} {b:Nat} {dv:Value} {e:En} (h:EnAt w b dv e) (x:Nat):EnAt (w.setCell ⟨b,2,none⟩ (.int .u32 (x:Int))) b dv ⟨e.out,e.low,x⟩:=
 ⟨by simpa using h.1.put 2 (.int .u32 (x:Int)),Z2C h.2 (p:=⟨b,2,none⟩) h.apart _⟩
theorem Z2e {w w':World} {b:Nat} {dv:Value} (h:Fr (foot b dv) w w') (o:Nat) (x:Value):Fr (foot b dv) w (w'.setCell ⟨b,o,none⟩ x):=h.setCell (p:=⟨b,o,none⟩) (.inl (.inl rfl)) x
theorem Z7i {w : World} {b : Nat} {dv : Value} {e : En} (h : EnAt w b dv e) (hv : Val 0 e) (p bit : Nat) (dy : 1 <= p) (ep : p <= 2047) (a8 : bit < 2) (hl : e.out.length <= 1000000) :
    Calls Tryz.prog 176 #[.pointer (some ⟨b,0,none⟩),.int .i64 (p:Int),.int .i64 (bit:Int)] w λx w'=>x=.returned (.tuple #[])/\∃cD,EnAt w' b cD (ebit p bit e)/\Fr (foot b dv) w w'/\Z0k w dv cD:=by
  obtain⟨v1,v2⟩:=Z8g hv;obtain⟨b1,b2⟩:=Z3V e.size p v1 dy ep;have dY:=hv.low;have sJ:=(Z33 hv (b:=bit) dy ep).1;have eS:=(Z33 hv (b:=bit) dy ep).2.2.2;obtain⟨B,hB⟩:∃B,e.size/2048*p=B:=⟨_,rfl⟩;have yc:=hv.top;have c0:=h.1.cell 0;have c1:=h.1.cell 1;have c2:=h.1.cell 2;have f1:=h.1.frozen 1;have f2:=h.1.frozen 2;simp at c0 c1 c2;have yd:=h_ (Z6u (p:Int) (by omega) (by omega));rw[hB] at b1 b2;have HB:=h_ hB;have H:=h_ h
  have i0:IntKind.u32.wrap ((e.size:Int)/2048*(p:Int))=(B:Int):=by
    have:(e.size:Int)/2048*(p:Int)=(B:Int):=(by rw[<-HB.o,Int.natCast_mul,Int.natCast_ediv];rfl);rw[this,IntWalk.u32_in _ (by omega)]
  have ye:=h_ sJ;have xZ:=h_ eS;have Ev:=h_ yc;have Hv:=h_ hv;clear h hB sJ eS yc hv;go_enter Tryz.func176,Tryz.ntmps176;go_wp2;go_quiet ((go_at_call 216;exact q1 (yd.o _)));clear i0;go_upto_if 17 with fail;go_cut [] (λwx=>EnAt wx b dv (Z1u p bit e)/\Fr (foot b dv) w wx)
  case first=>
    have hz:bit=0\/bit=1:=(by omega);rcases hz with rfl|rfl
    · have Hz:=h_ (Zcp p e)
      rw[HB.o] at Hz;go_wp2;go_meet
      case rel=>
        rw[Hz.o];exact⟨((H.o).drewN nq).put2 B,Z2e ((Fr.refl _ _).drewN nq) 2 _⟩
    · have i2:(e.size:Int)-(B:Int)=((e.size-B:Nat):Int):=by omega
      obtain⟨R,hR⟩:∃R,e.size-B=R:=⟨_,rfl⟩;rw[hR] at i2;by_cases dB:4294967296<=e.low+B
      · have Hz:=h_ (Zcq p e B HB.o dB)
        obtain⟨L,hL⟩:∃L,e.low+B-4294967296=L:=⟨_,rfl⟩;have i1:((e.low:Int)+(B:Int)) % 4294967296=(L:Int):=(by omega);have Ew:(L:Int)<(e.low:Int):=(by omega);rw[hL,hR] at Hz
        have bR:0<e.out.length:=by
          rcases Nat.eq_zero_or_pos e.out.length with h9|h9
          · have h8:=Ev.o
            have h7:N e=vl 0 e.out*4294967296+e.low:=rfl;rw[h7,h9] at h8;simp only[Nat.pow_zero,Nat.mul_one] at h8;omega
          · exact h9
        have Hc:=h_ (Zco ((H.o).drewN nq) bR (by omega));clear hL hR dB bR;go_wp2_with fail;refine(Hc.o).mono ?_;rintro x w2 ⟨rfl,cF,ah⟩;have q1:=cF.1.cell 1;have q2:=cF.1.cell 2;have p1:=cF.1.frozen 1;have p2:=cF.1.frozen 2;simp at q1 q2;have Pg:=h_ cF;have bW:=h_ ah;clear cF ah;go_wp2;go_meet
        case rel=>
          rw[Hz.o];exact⟨(Pg.o.put1 L).put2 R,Z2e (Z2e (((Fr.refl _ _).drewN nq).trans bW.o) 1 _) 2 _⟩
      · have Hz:=h_ (Z9O p e B HB.o dB)
        obtain⟨L,hL⟩:∃L,e.low+B=L:=⟨_,rfl⟩;have aN:=h_ (show(e.low:Int)+(B:Int)=(L:Int) by omega);rw[hL,hR] at Hz;have i1:((e.low:Int)+(B:Int)) % 4294967296=(L:Int):=(by omega);have Ew:¬(L:Int)<(e.low:Int):=(by omega);clear hL hR dB;go_wp2;go_meet
        case rel=>
          rw[Hz.o,aN.o];exact⟨(((H.o).drewN nq).put1 L).put2 R,Z2e (Z2e ((Fr.refl _ _).drewN nq) 1 _) 2 _⟩
  case rest=>
    obtain⟨he,hf⟩:=hcut;obtain⟨TQ,hi,dp,bM,eu⟩:=info_parts Ze2;have hlen:=xZ.o;clear c0 c1 c2 f1 f2;go_wp2;go_loopw [] (λwr=>∃(k:Nat) (dr:Value) (x:En),EnAt wr b dr x/\Val k x/\k<=2/\Hid (Z32 k x=ebit p bit e)/\Fr (foot b dv) w wr/\Z0k w dv dr/\x.out.length<=e.out.length+2-k) (λwr=>szmu b wr);case atStart=>exact⟨2,dv,_,he,ye.o,Nat.le_refl _,h_ rfl,hf,.inl rfl,by omega⟩
    case round=>
      clear he hf hlen;obtain⟨k,dr,x,hx,fL,hk,hn,hf,el,Ky⟩:=hrel;have q0:=hx.1.cell 0;have q1:=hx.1.cell 1;have q2:=hx.1.cell 2;simp at q0 q1 q2;have dY:=fL.low;have ad:=fL.sz.2;by_cases ab:x.size<16777216
      · obtain ⟨j, rfl⟩ : ∃ j, k = j + 1 := by
          rcases Nat.eq_zero_or_pos k with h9|h9
          · subst h9
            have:=Z8g fL;omega
          · exact⟨k-1,by omega⟩
        have gb:=Z3j fL ab;have oq:Z32 (j+1) x=Z32 j (Z1P x):=(by rw[Z32,if_pos ab]);have gR:=h_ oq;have rf:=h_ gb;have bK:(x.size:Int)<16777216:=(by omega)
        have Ex:0<x.size:=by
          have:=fL.sz.1;rcases Nat.eq_zero_or_pos x.size with h9|h9
          · rw[h9,Nat.zero_mul] at this;omega
          · exact h9
        obtain⟨y,hy⟩:∃y,x.low/16777216=y:=⟨_,rfl⟩;have Cy:y<256:=(by omega);have i1:(x.low:Int)/16777216=(y:Int):=(by omega);have i2:IntKind.u8.wrap (y:Int)=(y:Int):=(by rw[IntWalk.u8_in _ (by omega)]);obtain⟨L,hL⟩:∃L,x.low*256 % 4294967296=L:=⟨_,rfl⟩;have i3:IntKind.u32.wrap ((x.low:Int)*256)=(L:Int):=(by rw[IntKind.wrap_u32'];omega);obtain⟨R,hR⟩:∃R,x.size*256=R:=⟨_,rfl⟩;have i4:IntKind.u32.wrap ((x.size:Int)*256)=(R:Int):=(by rw[IntKind.wrap_u32'];omega);have yf:Hid (Z1P x=⟨x.out++[UInt8.ofNat y],L,R⟩):=h_ (by unfold Z1P;rw[hy,hL,hR]);obtain⟨TR,w1,ag,ai,df,ak⟩:=Zi2 (P:=Tryz.prog) (w:=wr) 115 115 5 _ _ 1 Tryz.underlying115 Ze2 rfl (by omega) hx.2 [.int .u8 (y:Int)] rfl (by simp[Value.oneCell']) (by unfold maxLen;omega) (by omega) (Nat.zero_le _);obtain⟨A',M',bh,rfl⟩:=Z0c ai;have ev:=(hx.1.alloc (.cells #[.int .u8 (y:Int)] 5)).drew.grown df (λe=>hx.apart e.symm);have r0:=ev.cell 0;have r1:=ev.cell 1;have r2:=ev.cell 2;have t0:=ev.frozen 0;have t1:=ev.frozen 1;have t2:=ev.frozen 2;simp at r0 r1 r2;have ao:=h_ ag;have cl:=hx.1.lt;have Ph:=ev.lt;have bZ:(Value.slice A' M' bh).ownBlock≠some b:=Z02 ai ev (by decide)
        have gS:EnAt (w1.setCell ⟨b,0,none⟩ (Value.slice A' M' bh)) b (Value.slice A' M' bh) ⟨x.out++[UInt8.ofNat y],x.low,x.size⟩:=by
          refine⟨by simpa using ev.put 0 (Value.slice A' M' bh),?_⟩;have h7:=Z2C ai (p:=⟨b,0,none⟩) bZ (Value.slice A' M' bh)
          have h8:x.out.map bv++[.int .u8 (y:Int)]=(x.out++[UInt8.ofNat y]).map bv:=by
            rw[List.map_append];simp[bv,Nat.mod_eq_of_lt Cy]
          rw[h8] at h7;rw[List.length_append];exact h7
        have dN:=(gS.drewN 1).put1 L|>.put2 R
        have aB:Fr (foot b dv) w (w1.setCell ⟨b,0,none⟩ (Value.slice A' M' bh)):=Z2e (((hf.alloc (.cells #[.int .u8 (y:Int)] 5)).drew).grown df (λg hg=>by
          rcases el with h9|h9
          · exact .inl (.inr (h9▸hg))
          · exact .inr (h9 g hg))) 0 _
        have yg:Z0k w dv (Value.slice A' M' bh):=by
          rcases ak with h9|h9
          · rcases el with ou|ou
            · exact .inl (h9.trans ou)
            · exact .inr (λg hg=>ou g (h9▸hg))
          · refine .inr (λg hg=> ?_)
            have ou:some g=some (wr.heap.size+1):=hg.symm.trans h9;injection ou with ou;have:=hf.size;omega
        have rh:=h_ dN;have ow:=h_ gS;have Hx:=h_ hx;have HR:=h_ hR;have cG:=h_ aB;have Ey:=h_ yg;clear gS dN aB yg ag ai df ak ev gb oq fL hx ab hf el hy hL hR bZ;go_wp2;go_region_law ((refine Z7a (by rfl) _ _ _ (by rfl) _ _ (by rfl) (by rfl) ao.o ?_))
        all_goals
          clear r0 r1 r2 t0 t1 t2 q0 q1;generalize w1.setCell ⟨b,0,none⟩ (.slice A' M' bh)=W at*;have r1:=ow.o.1.cell 1;have r2:=ow.o.1.cell 2;have t1:=ow.o.1.frozen 1;have t2:=ow.o.1.frozen 2;simp at r1 r2
        all_goals
          go_wp2;go_region
        all_goals
          go_wp2;go_roundw
          case rel=>
            refine⟨j,.slice A' M' bh,Z1P x,?_,rf.o,by omega,h_ (by rw[<-gR.o,hn.o]),(Z2e (Z2e cG.o 1 _) 2 _).drew,Ey.o,by rw[Z1M];omega⟩;rw[yf.o];exact((ow.o.put1 L).put2 R).drew
          case measure=>
            show szmu b _<szmu b _;rw[Zec (((ow.o.put1 L).put2 R).drew),Zec Hx.o];have:=HR.o;simp only;omega
      · have oq : Z32 k x = x := by cases k with
          |zero=>rfl
          |succ k=>rw[Z32,if_neg ab]
        have gR:=h_ oq;have bK:¬(x.size:Int)<16777216:=(by omega);clear ab oq;go_wp2;go_end0;refine⟨rfl,dr,?_,hf,el⟩;rw[<-hn.o,gR.o];exact hx
theorem Zb7 (w:World):
  Calls Tryz.prog 113 #[] w λx w'=>x=.returned (.pointer (some ⟨w.heap.size,0,none⟩))/\EnAt w' w.heap.size (.slice none 0 0) e0/\Below w.heap.size w w':=by
 go_enter Tryz.func113,Tryz.ntmps113;go_wp2;go_ret;exact⟨rfl,⟨Bk.new _ _ _,Z0p⟩,(Below.refl _ _).alloc (Nat.le_refl _) _⟩
theorem Zed (m:Nat):∀(u:Nat) (e:En),edir (m+1) u e=ebit 1024 (u % 2) (edir m (u/2) e):=by
 induction m with
 |zero=>intro u e;simp[edir]
 |succ m ih=>
  intro u e;rw[edir,ih,edir,Nat.div_div_eq_div_mul,Nat.pow_succ,Nat.mul_comm 2]
theorem Zee (n j v:Nat) (e:En) (h:j<n):edir (n-j) (v/2 ^ j) e=ebit 1024 (v/2 ^ j % 2) (edir (n-(j+1)) (v/2 ^ (j+1)) e):=by
 rw[show n-j=(n-(j+1))+1 from by omega,Zed,Nat.div_div_eq_div_mul,<-Nat.pow_succ]
theorem Zef (k:Nat):∀e:En,(Z32 k e).out.length<=e.out.length+k:=by
 induction k with
 |zero=>intro e;exact Nat.le_refl _
 |succ k ih=>
  intro e;rw[Z32];split
  ·have:=ih (Z1P e);rw[Z1M] at this;omega
  ·omega
theorem Z40 (p b:Nat) (e:En):(ebit p b e).out.length<=e.out.length+2:=by
 have h:=Zef 2 (Z1u p b e)
 have:(Z1u p b e).out.length=e.out.length:=by
  unfold Z1u;split
  ·rfl
  ·split
   ·exact Z1e _
   ·rfl
 unfold ebit;omega
theorem Zb8 (n v:Nat):∀e:En,(edir n v e).out.length<=e.out.length+2*n:=by
 induction n with
 |zero=>intro e;exact Nat.le_refl _
 |succ n ih=>
  intro e;rw[edir];have h1:=ih (ebit 1024 (v/2 ^ n % 2) e);have h2:=Z40 1024 (v/2 ^ n % 2) e;omega
theorem Z9P {w:World} {b:Nat} {dv:Value} {e:En} (h:EnAt w b dv e) (hv:Val 0 e) (n v:Nat) (hn:n<=62) (yh:v<=9223372036854775807) (hl:e.out.length<=900000):
  Calls Tryz.prog 179 #[.pointer (some ⟨b,0,none⟩),.int .i64 (n:Int),.int .i64 (v:Int)] w λx w'=>x=.returned (.tuple #[])/\∃cD,EnAt w' b cD (edir n v e)/\Fr (foot b dv) w w'/\Z0k w dv cD:=by
 have ha:=and1;go_enter Tryz.func179,Tryz.ntmps179;go_wp2;go_loopw [6] (λi wr=>∃(j:Nat) (dr:Value),j<=n/\i=.int .i64 ((j:Int)-1)/\EnAt wr b dr (edir (n-j) (v/2 ^ j) e)/\Fr (foot b dv) w wr/\Z0k w dv dr) (λi _=>(intOf i+1).toNat);case atStart=>exact⟨n,dv,by omega,rfl,by rw[Nat.sub_self];exact h,Fr.refl _ _,.inl rfl⟩
 case round=>
  obtain⟨j,dr,hj,rfl,hx,hf,el⟩:=hrel;by_cases ab:0<j
  ·obtain⟨k,rfl⟩:∃k,j=k+1:=⟨j-1,by omega⟩;have hg:=Zee n k v e (by omega);have hlen:=Zb8 (n-(k+1)) (v/2 ^ (k+1)) e;have hval:=Zb3 (n-(k+1)) (v/2 ^ (k+1)) hv;have i1:((k+1:Nat):Int)-1=(k:Int):=(by omega);rw[i1];obtain⟨E,hE⟩:∃E,edir (n-(k+1)) (v/2 ^ (k+1)) e=E:=⟨_,rfl⟩;obtain⟨y,hy⟩:∃y,v/2 ^ k % 2=y:=⟨_,rfl⟩;have lE:y<2:=(by omega);have i2:(v:Int)/2 ^ k % 2=(y:Int):=(by rw[<-hy,Int.natCast_emod,Int.natCast_ediv,Int.natCast_pow];rfl);rw[hE] at hg hlen hval hx;rw[hy] at hg;have Hb:=h_ (Z7i hx hval 1024 y (by omega) (by omega) lE (by omega));have Hg:=h_ hg;clear hg hE hy hx hlen hval;go_wp2_with fail;refine(Hb.o).mono ?_;rintro x w1 ⟨rfl,yi,cF,ah,dz⟩;have hs:=hf.size;go_wp2;go_roundw;case rel=>exact⟨k,yi,by omega,rfl,by rw[Hg.o];exact cF,Zl8 hf ah el,el.trans dz hs⟩
   case measure=>simp[intOf]<;>omega
  ·have hU:j=0:=(by omega);subst hU;go_wp2;go_end0;exact⟨rfl,dr,by simpa using hx,hf,el⟩
theorem Zb9 {P:Program} (src dst e:TypeId) (hs:P.underlying src=some (.slice e)) (he:P.underlying e=some (.int .u8)) (hd:P.underlying dst=some .string) {w:World} {base n:Nat} {v:Value} {l:List UInt8}
  (h:w.ownsRow base e 1 v n (l.map bv)):(convert src dst v).run P w=.ok (.string (bs l)) w:=by
 rcases h.2 with ⟨rfl,hn⟩|⟨g,cap,cur,rfl,hb,hg,rest⟩
 ·have hl:l=[]:=by
   have:=h.1;rw[hn,List.length_map] at this;exact List.eq_nil_of_length_eq_zero (by omega)
  subst hl;exact run_convert_bytes_nil w src e hs he 0 0 dst hd
 ·exact Zb1 src dst e hs he hd h
end Go.Proofs.YtchokmkfobandaaGreatDoor
