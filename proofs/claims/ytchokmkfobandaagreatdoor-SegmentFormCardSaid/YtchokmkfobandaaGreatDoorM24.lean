import Derived.Test.YtchokmkfobandaaGreatDoorM21
import Derived.Test.YtchokmkfobandaaGreatDoorM13
set_option linter.unusedVariables false
set_option linter.unusedSimpArgs false
set_option maxRecDepth 100000
set_option maxHeartbeats 8000000
namespace Go.Proofs.YtchokmkfobandaaGreatDoor
open Go.RowKit Go.Proofs Wv Wv.Vi Wv.Rc Wv.Mo Wv.Ru
theorem Zfv {w:World} (data:ByteArray) (hd:data.size<=1000000000):
  Calls Tryz.prog 111 #[.string data] w λx w'=>Z2s w (YN (toL data)) x w':=by
 match h1:rnum (toL data) 1 with
 |none=>
  obtain⟨e,he,hn⟩:=Y4 h1;have hr:YN (toL data)=none:=(by unfold YN;rw[h1]);rw[hr];exact Z7R data (by omega) 0 data e data e hn (Xl he 4096) he UZz
 |some (c,s1)=>
  obtain⟨n1,cq,bW⟩:=Zp h1;match h2:rnum s1 4096 with
  |none=>
   obtain⟨e,he,hn⟩:=Y4 h2;have hr:YN (toL data)=none:=(by unfold YN;rw[h1];simp only;rw[h2]);rw[hr];exact Z7R data (by omega) c (bs s1) 0 (bs s1) e n1 hn he bW
  |some (n,s2)=>exact Zc8 data hd c n s1 s2 h1 h2
theorem Ziu {c:Nat} {ws:List ByteArray} {A B:List Int×Nat} {l:List ByteArray} (h:fin c ws A B=some l):∃Z,ZC ws Z []=(l,0):=by
 unfold fin at h;obtain⟨Z,hZ⟩:∃Z,(if c=1 then(ZK A.1).1.map Int.ofNat else A.1).zip (B.1.map (· +1))=Z:=⟨_,rfl⟩;rw[hZ] at h;split at h
 ·cases h
 ·split at h
  ·cases h
  ·split at h
   ·cases h
   ·split at h
    ·rename_i h0;injection h with h;exact⟨_,Prod.ext h h0⟩
    ·cases h
theorem Zca {s:List UInt8} {l:List ByteArray} (h:YN s=some l):∃c ws A B n s2 s3,fin c ws A B=some l/\Yc n s2=some (ws,s3):=by
 unfold YN at h;match h1:rnum s 1,h with
 |none,h=>cases h
 |some (c,s1),h=>
  simp only at h;match h2:rnum s1 4096,h with
  |none,h=>cases h
  |some (n,s2),h=>
   simp only at h;match h3:Yc n s2,h with
   |none,h=>cases h
   |some (ws,s3),h=>
    simp only at h;match h4:ZG s3 s.length,h with
    |none,h=>cases h
    |some (a,s4),h=>exact⟨_,_,_,_,n,s2,s3,h,h3⟩
theorem Z6q (n:Nat):∀ {s:List UInt8} {ws:List ByteArray} {t:List UInt8},Yc n s=some (ws,t)->∀x∈ws,x.size<=128:=by
 induction n with
 |zero=>
  intro s ws t h x hx;rw[Yc] at h;injection h with h;injection h with h1 h2;subst h1;cases hx
 |succ n ih=>
  intro s ws t h x hx;match h1:ZG s 128 with
  |none=>rw[Z5c h1] at h;cases h
  |some (a,u)=>
   rw[Z5b h1] at h;match h2:Yc n u with
   |none=>rw[h2] at h;cases h
   |some (l,v)=>
    rw[h2] at h;injection h with h;injection h with h3 h4;subst h3;rcases Va9.1 hx with h5|h5
    ·rw[h5,Z0];exact(Z0H h1).2.2.2
    ·exact ih h2 x h5
theorem Z6r (d:List ByteArray) (hd:∀x∈d,x.size<=128) (Z:List (Int×Int)):∀acc:List ByteArray,(∀x∈acc,x.size<=128)->acc.length<=4096->(∀x∈(ZC d Z acc).1,x.size<=128)/\(ZC d Z acc).1.length<=4096:=by
 induction Z with
 |nil=>intro acc h1 h2;exact⟨h1,h2⟩
 |cons z Z ih=>
  intro acc h1 h2;rw[ZC];split
  ·exact⟨by simp,by simp⟩
  ·rename_i c1;split
   ·exact⟨by simp,by simp⟩
   ·refine ih _ (λx hx=> ?_) ?_
    ·rcases Vba.1 hx with h|h
     ·exact h1 x h
     ·rw[(Vco.1 h).2];have:z.1.toNat<d.length:=(by omega);have e:d.getD z.1.toNat default=d[z.1.toNat]:=(by simp[List.getD,this]);rw[e];exact hd _ (Vaj _)
    ·rw[Vab,Vaw];omega
theorem Z0I {s:List UInt8} {l:List ByteArray} (h:YN s=some l):(∀x∈l,x.size<=128)/\l.length<=4096:=by
 obtain⟨c,ws,A,B,n,s2,s3,h1,h2⟩:=Zca h;obtain⟨Z,hZ⟩:=Ziu h1;have:=Z6r ws (Z6q n h2) Z [] (by simp) (by simp);rw[hZ] at this;exact this
theorem Qx {w:World} (data:ByteArray) (hd:data.size<=1000000000) (most:Int):
  Calls Tryz.prog 65 #[.string data,.int .i64 most] w λx w'=>TRes w (dec (toL data) most) x w':=by
 have H1:=h_ (Zfv (w:=w) data hd);unfold dec;match hr:YN (toL data) with
 |none=>
  rw[hr] at H1;simp only;clear hr hd;go_enter Tryz.func65,Tryz.ntmps65;go_wp2_with fail;refine(H1.o).mono ?_;rintro x w1 ⟨v,rfl,hs,hb⟩;simp only[Option.isSome_none];clear hs;go_wp2;go_returns;exact XL 12 hb
 |some l=>
  rw[hr] at H1;simp only;obtain⟨g1,g2⟩:=Z0I hr;have H2:=h_ (λW A cap (h:At W A (svs l))=>Yt h (λs hs=>by have:=g1 s hs;omega) l.length cap rfl (by omega));obtain⟨⟨X,xe⟩,hX⟩:∃x,enc l=x:=⟨_,rfl⟩;rw[hX] at H2⊢;simp only;clear hr hd hX g1;by_cases aH:xe≠0\/X≠toL data
  ·rw[Vaf aH]
   have q:((xe:Int) !=0)=true\/(((xe:Int) !=0)=false/\(((bs X).toList !=data.toList)=true/\((bs X).toList==data.toList)=false)):=by
    by_cases hx:xe=0
    ·right;have ay:X≠toL data:=aH.resolve_left (λh=>h hx)
     have h3:((bs X).toList==data.toList)=false:=by
      rw[QI,Vbq];intro h;exact ay (by rw[<-h,Zd])
     refine⟨by rw[hx];rfl,by rw[bne,h3];rfl,h3⟩
    ·left;rw[Va1];omega
   clear aH;rcases q with q|⟨q,q2,q3⟩
   all_goals
    go_enter Tryz.func65,Tryz.ntmps65;go_wp2_with fail;refine(H1.o).mono ?_;rintro x w1 ⟨v,rfl,hs,hb⟩;simp only[Option.isSome_some];obtain⟨A,cap,rfl,an⟩:=hs l rfl;have H3:=h_ (H2.o _ _ cap an);clear hs an;go_wp2_with fail;refine(H3.o).mono ?_;rintro x w2 ⟨rfl,a8⟩;have aW:=hb.trans (a8.mono hb.size);go_wp2;go_returns;exact XL 12 aW
  ·rw[Vad aH];have hx:xe=0:=(by omega)
   have jV:X=toL data:=by
    rcases Classical.em (X=toL data) with h|h
    ·exact h
    ·exact absurd (.inr h) aH
   subst hx;subst jV;have q2:((bs (toL data)).toList !=data.toList)=false:=(by rw[Za,Vca]);have q3:((bs (toL data)).toList==data.toList)=true:=(by rw[Za,Vcr]);clear aH;by_cases hm:most<(l.length:Int)
   ·rw[Vaf hm];go_enter Tryz.func65,Tryz.ntmps65;go_wp2_with fail;refine(H1.o).mono ?_;rintro x w1 ⟨v,rfl,hs,hb⟩;simp only[Option.isSome_some];obtain⟨A,cap,rfl,an⟩:=hs l rfl;have H3:=h_ (H2.o _ _ cap an);clear hs an;go_wp2_with fail;refine(H3.o).mono ?_;rintro x w2 ⟨rfl,a8⟩;have aW:=hb.trans (a8.mono hb.size);go_wp2;go_returns;exact XL 2 aW
   ·rw[Vad hm];go_enter Tryz.func65,Tryz.ntmps65;go_wp2_with fail;refine(H1.o).mono ?_;rintro x w1 ⟨v,rfl,hs,hb⟩;simp only[Option.isSome_some];obtain⟨A,cap,rfl,an⟩:=hs l rfl;have H3:=h_ (H2.o _ _ cap an);have bJ:=h_ an;clear hs an;go_wp2_with fail;refine(H3.o).mono ?_;rintro x w2 ⟨rfl,a8⟩;have aW:=hb.trans (a8.mono hb.size);have bL:=bJ.o.below a8;go_wp2;go_returns;exact⟨_,rfl,⟨A,cap,rfl,bL⟩,aW⟩
theorem Zfw (c:Nat) (l:List ByteArray) (hl:l.length<=4096):(encA c l).length<9223372036854775808:=by
 have h1:=XM (Ye c l) (λv hv=>by have:=Z02 c l hl v hv;omega);have h2:=Yn (dict l) l;rw[YB] at h1;show(encn (Ye c l)).length<_;omega
theorem Zcb {l:List ByteArray} (hl:l.length<=4096) (hs:∀s∈l,s.size<=128):enc l=(if(encB 1 l).length<(encB 0 l).length then encB 1 l else encB 0 l,0):=by
 unfold enc;rw[Vad]
 ·split<;>rfl
 ·rintro(h|⟨s,h1,h2⟩)
  ·omega
  ·have:=hs s h1;omega
theorem Z0j {l:List ByteArray} (hl:l.length<=4096) (hs:∀s∈l,s.size<=128):∃c,c<=1/\enc l=(encB c l,0):=by
 rw[Zcb hl hs];split
 ·exact⟨1,by omega,rfl⟩
 ·exact⟨0,by omega,rfl⟩
theorem Zfx {c:Nat} {l:List ByteArray} (hc:c<=1) (hl:l.length<=4096) (hs:∀s∈l,s.size<=128) (most:Int):
  dec (encB c l) most=if(enc l).1≠encB c l then([],12) else if most<(l.length:Int) then([],2) else(l,0):=by
 have h1:=Zeb c hc l hl hs (Zfw c l hl);unfold dec;rw[h1];simp only;have h2:(enc l).2=0:=(by rw[Zcb hl hs]);rw[h2];simp
theorem Z6s {l:List ByteArray} (hl:l.length<=4096) (hs:∀s∈l,s.size<=128) (most:Int):
  dec (enc l).1 most=if most<(l.length:Int) then([],2) else(l,0):=by
 obtain⟨c,hc,he⟩:=Z0j hl hs;have:=Zfx hc hl hs most;rw[he] at this⊢;simpa using this
theorem Xw (data:List UInt8) (most:Int):(dec data most=([],12)\/dec data most=([],2))\/∃l,dec data most=(l,0)/\enc l=(data,0)/\YN data=some l/\(∀x∈l,x.size<=128)/\l.length<=4096:=by
 unfold dec;match h:YN data with
 |none=>exact .inl (.inl rfl)
 |some l=>
  simp only;obtain⟨g1,g2⟩:=Z0I h;by_cases h1:(enc l).2≠0\/(enc l).1≠data
  ·rw[Vaf h1];exact .inl (.inl rfl)
  ·rw[Vad h1];by_cases h2:most<(l.length:Int)
   ·rw[Vaf h2];exact .inl (.inr rfl)
   ·rw[Vad h2];refine .inr ⟨l,rfl,?_,rfl,g1,g2⟩
    have h3:(enc l).2=0:=by
     rcases Vbm (enc l).2 with h|h
     ·exact h
     ·exact absurd (.inl (by omega)) h1
    have h4:(enc l).1=data:=by
     rcases Classical.em ((enc l).1=data) with h|h
     ·exact h
     ·exact absurd (.inr h) h1
    exact Prod.ext h4 h3
def l4:List ByteArray:=[⟨#[97]⟩,⟨#[97]⟩,⟨#[98]⟩,⟨#[97]⟩]
open Wv.Tm
theorem Z98 (c:Nat) {l:List ByteArray} (hl:l.length<=4096) (hs:∀s∈l,s.size<=128):(encB c l).length<=2000000:=by
 have tO:=Ym l;have h1:=Z0G c (dict l) (dict l).length (Z1A hs) (by omega);have h2:=XM (Ye c l) (λv hv=>by have:=Z02 c l hl v hv;omega);have h3:=XM (cnts l) (λv hv=>by have:=Z1B l hl v hv;omega);have h4:=kof9 (encA c l).length;have h5:=Yn (dict l) l;rw[YB] at h2;rw[XG] at h3
 have h6:encB c l=YJ c (dict l) (dict l).length++(num (encA c l).length++encn (Ye c l))++encn (cnts l):=by
  unfold encB YJ;rw[Vbx];rfl
 rw[h6,Vab,Vab,Vab];omega
theorem Xx {l:List ByteArray} (hl:l.length<=4096) (hs:∀s∈l,s.size<=128):(enc l).1.length<=2000000:=by
 obtain⟨c,hc,he⟩:=Z0j hl hs;rw[he];exact Z98 c hl hs
def ZI (l:List Int):List UInt8:=encn (l.map Int.toNat)
def txts (l:List Int):List ByteArray:=l.map (λg=>bs (num g.toNat))
def cod0 (l:List Int):List UInt8:=num 0++ZI (Z7 l)
def cod1 (l:List Int):List UInt8:=num 1++num (Zn l).st.toNat++num (Zn l).f.toNat++num (Zn l).s.toNat++num (Zn l).n.toNat++text (bs (ZI (Z7 (XY (Zn l) l))))++ZI (Z7 (furL (Zn l) l))
def cod2 (l:List Int):List UInt8:=num 2++(enc (txts (Z7 l))).1
def codT (c:Nat) (l:List Int):List UInt8:=if c=0 then cod0 l else if c=1 then cod1 l else cod2 l
def mnT (a b:List UInt8):List UInt8:=if b.length<a.length then b else a
def encT (l:List Int):List UInt8×Nat:=if Ze l=true then(if l.length<2 then mnT (cod0 l) (cod2 l) else mnT (mnT (cod0 l) (cod1 l)) (cod2 l),0) else([],2)
theorem Yd {l:List Int} (h:Ze l=true):(ZI (Z7 l)).length<=600000:=by
 obtain⟨_,_,v3⟩:=Z9.1 h;have hg:=Xi h
 have:=XM ((Z7 l).map Int.toNat) (λv hv=>by
  obtain⟨g,du,rfl⟩:=Va6.1 hv;have:=hg g du;omega)
 rw[Vag] at this;unfold Z7 at this;rw[ZX] at this;unfold ZI Z7;omega
theorem Z1Y (l:List Int):∀s∈txts l,s.size<=9:=by
 intro s hs;obtain⟨g,_,rfl⟩:=Va6.1 hs;rw[Z0,Z8];have:=Y9 g.toNat;omega
theorem X5 (l:List Int):(txts l).length=l.length:=by simp[txts]
theorem Z7T {l:List Int} (h:Ze l=true):(enc (txts (Z7 l))).2=0/\(enc (txts (Z7 l))).1.length<=2000000:=by
 obtain⟨_,_,v3⟩:=Z9.1 h;have hl:(txts (Z7 l)).length<=4096:=(by rw[X5];unfold Z7;rw[ZX];exact v3);have hs:∀s∈txts (Z7 l),s.size<=128:=λs hs=>(by have:=Z1Y _ s hs;omega);exact⟨by obtain⟨c,_,he⟩:=Z0j hl hs;rw[he],Xx hl hs⟩
def rclk (s:List UInt8):Option (Clk×List UInt8×List UInt8):=
 match rnum s 1099511627776 with
 |none=>none
 |some (a,s1)=>
  match rnum s1 1099511627776 with
  |none=>none
  |some (b,s2)=>
   match rnum s2 1099511627776 with
   |none=>none
   |some (d,s3)=>
    match rnum s3 4096 with
    |none=>none
    |some (n,s4)=>
     match ZG s4 s4.length with
     |none=>none
     |some (x,t)=>some (⟨(a:Int),(b:Int),(d:Int),(n:Int)⟩,x,t)
def finC (c:Clk) (X Y:List Int×Nat):Option (List Int):=
 if vclk c=false\/X.2≠0\/Y.2≠0 then none
 else match jnL X.1,jnL Y.1 with
  |some m,some x=>some (rebL c m x)
  |_,_=>none
def Z42 (s:List UInt8):Option (List Int):=match rclk s with
 |none=>none
 |some (c,a,t)=>finC c (decn a 4096) (decn t 4096)
def Q0:List ByteArray->Option (List Int)
 |[]=>some []
 |s::r=>match rnum (toL s) 1099511627776 with
  |some (g,[])=>(Q0 r).map ((g:Int)::·)
  |_=>none
def Qf (data:List UInt8):Option (List Int):=match rnum data 2 with
 |none=>none
 |some (c,r)=>
  if c=0 then(if(decn r 4096).2≠0 then none else jnL (decn r 4096).1)
  else if c=1 then Z42 r
  else if(dec r 4096).2≠0 then none else match Q0 (dec r 4096).1 with
   |none=>none
   |some g=>jnL g
def decT (data:List UInt8) (most:Int):List Int×Nat:=match Qf data with
 |none=>([],12)
 |some l=>if(encT l).2≠0\/(encT l).1≠data then([],12) else if most<(l.length:Int) then([],2) else(l,0)
def q1 (s:ByteArray):=numR s 0 1099511627776
def q2 (s:ByteArray):=numR (q1 s).2.1 (q1 s).2.2 1099511627776
def q3 (s:ByteArray):=numR (q2 s).2.1 (q2 s).2.2 1099511627776
def q4 (s:ByteArray):=numR (q3 s).2.1 (q3 s).2.2 4096
def q5 (s:ByteArray):=ZT (q4 s).2.1 (q4 s).2.2 ((q4 s).2.1.size:Int)
theorem Zfy (s:List UInt8):((q5 (bs s)).2.2≠0/\rclk s=none)\/((q5 (bs s)).2.2=0/\∃x t,rclk s=some (⟨((q1 (bs s)).1:Int),((q2 (bs s)).1:Int),((q3 (bs s)).1:Int),((q4 (bs s)).1:Int)⟩,x,t)/\(q5 (bs s)).1=bs x/\(q5 (bs s)).2.1=bs t/\x.length<=s.length/\t.length<=s.length):=by
 unfold rclk;match h1:rnum s 1099511627776 with
 |none=>
  obtain⟨e,he,hn⟩:=Y4 h1;have e1:q1 (bs s)=(0,bs s,e):=hn;have e2:q2 (bs s)=(0,bs s,e):=(by unfold q2;rw[e1];exact Xl he _);have e3:q3 (bs s)=(0,bs s,e):=(by unfold q3;rw[e2];exact Xl he _);have e4:q4 (bs s)=(0,bs s,e):=(by unfold q4;rw[e3];exact Xl he _);have e5:q5 (bs s)=(bs [],bs s,e):=(by unfold q5;rw[e4];exact YF he _);rw[e5];exact .inl ⟨he,rfl⟩
 |some (a,s1)=>
  obtain⟨fI,dH,bW⟩:=Zp h1;have e1:q1 (bs s)=(a,bs s1,0):=fI;simp only;match h2:rnum s1 1099511627776 with
  |none=>
   obtain⟨e,he,hn⟩:=Y4 h2;have e2:q2 (bs s)=(0,bs s1,e):=(by unfold q2;rw[e1];exact hn);have e3:q3 (bs s)=(0,bs s1,e):=(by unfold q3;rw[e2];exact Xl he _);have e4:q4 (bs s)=(0,bs s1,e):=(by unfold q4;rw[e3];exact Xl he _);have e5:q5 (bs s)=(bs [],bs s1,e):=(by unfold q5;rw[e4];exact YF he _);rw[e5];exact .inl ⟨he,rfl⟩
  |some (b,s2)=>
   obtain⟨jt,eJ,dz⟩:=Zp h2;have e2:q2 (bs s)=(b,bs s2,0):=(by unfold q2;rw[e1];exact jt);simp only;match h3:rnum s2 1099511627776 with
   |none=>
    obtain⟨e,he,hn⟩:=Y4 h3;have e3:q3 (bs s)=(0,bs s2,e):=(by unfold q3;rw[e2];exact hn);have e4:q4 (bs s)=(0,bs s2,e):=(by unfold q4;rw[e3];exact Xl he _);have e5:q5 (bs s)=(bs [],bs s2,e):=(by unfold q5;rw[e4];exact YF he _);rw[e5];exact .inl ⟨he,rfl⟩
   |some (d,s3)=>
    obtain⟨FO,I3,tX⟩:=Zp h3;have e3:q3 (bs s)=(d,bs s3,0):=(by unfold q3;rw[e2];exact FO);simp only;match h4:rnum s3 4096 with
    |none=>
     obtain⟨e,he,hn⟩:=Y4 h4;have e4:q4 (bs s)=(0,bs s3,e):=(by unfold q4;rw[e3];exact hn);have e5:q5 (bs s)=(bs [],bs s3,e):=(by unfold q5;rw[e4];exact YF he _);rw[e5];exact .inl ⟨he,rfl⟩
    |some (n,s4)=>
     obtain⟨bf,jv,el⟩:=Zp h4;have e4:q4 (bs s)=(n,bs s4,0):=(by unfold q4;rw[e3];exact bf);simp only;match h5:ZG s4 s4.length with
     |none=>
      obtain⟨e,he,hn⟩:=Z5a h5;have e5:q5 (bs s)=(bs [],bs s4,e):=(by unfold q5;rw[e4];exact hn);rw[e5];exact .inl ⟨he,rfl⟩
     |some (x,t)=>
      obtain⟨Dx,VM,MF,_⟩:=Z0H h5;have e5:q5 (bs s)=(bs x,bs t,0):=(by unfold q5;rw[e4];exact Dx);rw[e1,e2,e3,e4,e5];exact .inr ⟨rfl,x,t,rfl,rfl,rfl,by omega,by omega⟩
theorem Ziv (s:ByteArray):(q1 s).2.1.size<=s.size/\(q2 s).2.1.size<=s.size/\(q3 s).2.1.size<=s.size/\(q4 s).2.1.size<=s.size:=by
 have a1:(q1 s).2.1.size<=s.size:=X1;have a2:(q2 s).2.1.size<=(q1 s).2.1.size:=X1;have a3:(q3 s).2.1.size<=(q2 s).2.1.size:=X1;have a4:(q4 s).2.1.size<=(q3 s).2.1.size:=X1;omega
theorem Zfz {l:List Int} (h:Ze l=true):((Z7 l).map Int.toNat).length<=4096/\(∀v∈(Z7 l).map Int.toNat,v<4611686018427387904)/\((Z7 l).map Int.toNat).map Int.ofNat=Z7 l:=by
 obtain⟨_,_,v3⟩:=Z9.1 h;have hg:=Xi h;refine⟨?_,?_,?_⟩
 ·rw[Vag];unfold Z7;rw[ZX];exact v3
 ·intro v hv;obtain⟨g,h1,rfl⟩:=Va6.1 hv;have:=hg g h1;omega
 ·rw[Vb7];conv=>rhs;rw[<-List.map_id (Z7 l)]
  apply List.map_congr_left;intro g h1;have:=hg g h1;simp only[Function.comp,id];exact Int.toNat_of_nonneg this.1
theorem Z0k {l:List Int} (h:Ze l=true):decn (ZI (Z7 l)) 4096=(Z7 l,0):=by
 obtain⟨n1,n2,n3⟩:=Zfz h;have:=Z4n _ 4096 n1 (by omega) n2;rw[n3] at this;exact this
theorem ZfA {c:Clk} {X R:List UInt8} (hc:inC c) (hX:X.length<=1000000000):
  rclk (num c.st.toNat++num c.f.toNat++num c.s.toNat++num c.n.toNat++text (bs X)++R)=some (c,X,R):=by
 obtain⟨h1,h2,h3,h4,h5,h6,h7,h8⟩:=hc;unfold rclk text;simp only[Vay];rw[Y2 _ _ (by omega) (by omega)];simp only;rw[Y2 _ _ (by omega) (by omega)];simp only;rw[Y2 _ _ (by omega) (by omega)];simp only;rw[Y2 _ _ (by omega) (by omega)];simp only;have hs:(bs X).size=X.length:=Z0 X;rw[hs,Zd];rw[Yo X _ (by rw[Vab,Vab];omega) (by omega)];simp only[Option.some.injEq,Prod.mk.injEq,and_true];obtain⟨a,b,d,n⟩:=c;simp only at h1 h2 h3 h4 h5 h6 h7 h8⊢;rw[Int.toNat_of_nonneg (by omega),Int.toNat_of_nonneg (by omega),Int.toNat_of_nonneg (by omega),Int.toNat_of_nonneg (by omega)]
theorem Z1Z {c:Nat} (hc:c<=2) (r:List UInt8):Qf (num c++r)=if c=0 then(if(decn r 4096).2≠0 then none else jnL (decn r 4096).1) else if c=1 then Z42 r else if(dec r 4096).2≠0 then none else match Q0 (dec r 4096).1 with|none=>none|some g=>jnL g:=by
 unfold Qf;rw[Y2 c 2 hc (by omega) r];all_goals rfl
theorem Z99 {g:List Int} (h:∀x∈g,0<=x/\x<=1099511627776):Q0 (txts g)=some g:=by
 induction g with
 |nil=>rfl
 |cons a r ih=>
  have ha:=h a Vap;have hr:=ih (λx hx=>h x (Vat _ hx));have h1:txts (a::r)=bs (num a.toNat)::txts r:=rfl
  have h2:Q0 (bs (num a.toNat)::txts r)=match rnum (toL (bs (num a.toNat))) 1099511627776 with
   |some (g,[])=>(Q0 (txts r)).map ((g:Int)::·)
   |_=>none:=rfl
  have h3:=Y2 a.toNat 1099511627776 (by omega) (by omega) [];rw[Va3] at h3;rw[h1,h2,Zd,h3,hr];simp only[Vcg,Option.some.injEq,List.cons.injEq,and_true];exact Int.toNat_of_nonneg ha.1
theorem Zcc (l:List Int):cod1 l=num 1++(num (Zn l).st.toNat++num (Zn l).f.toNat++num (Zn l).s.toNat++num (Zn l).n.toNat++text (bs (ZI (Z7 (XY (Zn l) l))))++ZI (Z7 (furL (Zn l) l))):=by
 unfold cod1;simp only[Vay]
theorem Ziw {l:List Int} (h:Ze l=true):(txts (Z7 l)).length<=4096/\∀s∈txts (Z7 l),s.size<=128:=by
 obtain⟨_,_,v3⟩:=Z9.1 h;refine⟨by rw[X5];unfold Z7;rw[ZX];exact v3,λs hs=>by have:=Z1Y _ s hs;omega⟩
theorem Zcd {c:Clk} {l:List Int} (hc:vclk c=true) (h:Ze l=true) (R:List UInt8):
  Z42 (num c.st.toNat++num c.f.toNat++num c.s.toNat++num c.n.toNat++text (bs (ZI (Z7 (XY c l))))++(ZI (Z7 (furL c l))++R))=finC c (Z7 (XY c l),0) (decn (ZI (Z7 (furL c l))++R) 4096):=by
 have hi:=(Yw.1 hc).1;unfold Z42;rw[ZfA hi (by have:=Yd (X2 hi l);omega)];simp only;rw[Z0k (X2 hi l)]
theorem Zce {l:List Int} (h:Ze l=true) (c:Nat) (hc:c<=2) (h1:c=1->2<=l.length):Qf (codT c l)=some l:=by
 have fE:c=0\/c=1\/c=2:=(by omega);rcases fE with rfl|rfl|rfl
 ·show Qf (num 0++ZI (Z7 l))=_;rw[Z1Z (by omega),Vaf rfl,Z0k h,Vad (by simp)];exact Z1f h
 ·show Qf (cod1 l)=_;have hv:=XJ h (h1 rfl);have hi:=(Yw.1 hv).1;rw[Zcc,Z1Z (by omega),Vad (by decide),Vaf rfl];have:=Zcd hv h [];rw[Va3] at this;rw[this,Z0k (Qr h)];unfold finC;rw[Vad (by simp[hv])];simp only;rw[Z1f (X2 hi l),Z1f (Qr h)];simp only;rw[ZhJ hi h]
 ·show Qf (num 2++(enc (txts (Z7 l))).1)=_;obtain⟨t1,t2⟩:=Ziw h;have MG:=Z6s t1 t2 4096;rw[Vad (by omega)] at MG;rw[Z1Z (by omega),Vad (by decide),Vad (by decide),MG,Vad (by simp)];simp only;rw[Z99 (Xi h)];exact Z1f h
theorem YR {l:List Int} (h:Ze l=true):∃c,c<=2/\(c=1->2<=l.length)/\encT l=(codT c l,0):=by
 unfold encT;rw[Vaf h];by_cases h2:l.length<2
 ·rw[Vaf h2];unfold mnT;split
  ·exact⟨2,by omega,by omega,rfl⟩
  ·exact⟨0,by omega,by omega,rfl⟩
 ·rw[Vad h2];obtain⟨z,hz⟩:∃z,mnT (cod0 l) (cod1 l)=z:=⟨_,rfl⟩;rw[hz];have h3:mnT z (cod2 l)=if(cod2 l).length<z.length then cod2 l else z:=rfl
  rw[h3];by_cases h4:(cod2 l).length<z.length
  ·rw[Vaf h4];exact⟨2,by omega,by omega,rfl⟩
  ·rw[Vad h4,<-hz];unfold mnT;by_cases h5:(cod1 l).length<(cod0 l).length
   ·rw[Vaf h5];exact⟨1,by omega,by omega,rfl⟩
   ·rw[Vad h5];exact⟨0,by omega,by omega,rfl⟩
theorem Z7U {l:List Int} (h:Ze l=false):encT l=([],2):=by
 unfold encT;rw[Vad (by rw[h];simp)]
theorem ZfB {l:List Int} (h:Ze l=true) (c:Nat) (hc:c<=2) (h1:c=1->2<=l.length) (most:Int):
  decT (codT c l) most=if(encT l).1≠codT c l then([],12) else if most<(l.length:Int) then([],2) else(l,0):=by
 have h2:(encT l).2=0:=(by obtain⟨c,_,_,he⟩:=YR h;rw[he]);unfold decT;rw[Zce h c hc h1];simp only;rw[h2];simp
theorem ZfC {l:List Int} (h:Ze l=true) (most:Int):decT (encT l).1 most=if most<(l.length:Int) then([],2) else(l,0):=by
 obtain⟨c,hc,h1,he⟩:=YR h;have:=ZfB h c hc h1 most;rw[he] at this⊢;simpa using this
theorem Zcf {l:List Int} (he:(encT l).2=0):Ze l=true:=by
 cases hv:Ze l with
 |true=>rfl
 |false=>rw[Z7U hv] at he;cases he
theorem Z20 (data:List UInt8) (most:Int):(decT data most=([],12)\/decT data most=([],2))\/∃l,decT data most=(l,0)/\encT l=(data,0)/\Ze l=true/\Qf data=some l/\(l.length:Int)<=most:=by
 unfold decT;match h:Qf data with
 |none=>exact .inl (.inl rfl)
 |some l=>
  simp only;by_cases h1:(encT l).2≠0\/(encT l).1≠data
  ·rw[Vaf h1];exact .inl (.inl rfl)
  ·rw[Vad h1]
   have h3:(encT l).2=0:=by
    rcases Vbm (encT l).2 with h|h
    ·exact h
    ·exact absurd (.inl (by omega)) h1
   have h4:(encT l).1=data:=by
    rcases Classical.em ((encT l).1=data) with h|h
    ·exact h
    ·exact absurd (.inr h) h1
   by_cases h2:most<(l.length:Int)
   ·rw[Vaf h2];exact .inl (.inr rfl)
   ·rw[Vad h2];exact .inr ⟨l,rfl,Prod.ext h4 h3,Zcf h3,rfl,by omega⟩
open Wv.Bc
def cbit (c:UInt8):List Bool:=[decide (2<=cd c),decide (cd c % 2=1)]
def Xc (v:List UInt8):List Bool:=v.flatMap cbit
def ZF (l:List ByteArray):List Bool:=l.flatMap (λv=>Xc (toL v))
theorem Qg (v:List UInt8):(Xc v).length=2*v.length:=by
 unfold Xc;induction v with
 |nil=>rfl
 |cons c r ih=>rw[Vb0,Vab,ih,Vaz];simp[cbit];omega
theorem Zcg {w:Int} {l:List ByteArray} (h:∀v∈l,vld w (toL v)=true):((ZF l).length:Int)=2*(l.length*w):=by
 unfold ZF;induction l with
 |nil=>simp
 |cons v r ih=>
  have hv:=(ZL.1 (h v Vap)).2;have i1:=ih (λx hx=>h x (Vat _ hx));rw[Vb0,Vab,Qg,Vaz];rw[Vch,i1,Vb1,hv,Vch,Vct];omega
def codP (l:List ByteArray):Option (List UInt8):=if 65536<(ZF l).length then none else some (num l.length++toL (Bit.bstr (ZF l)))
def codC (l:List ByteArray):List UInt8:=num l.length++if l=[] then[] else
 text (bs (shr (toL (l.getD 0 default))))++text (bs (shr (toL (Zw l))))++text (bs (ZI (Z7 (exI l (Zw l)))))++(enc (ZE (atI l (exI l (Zw l))))).1
def codM (w:Int) (l:List ByteArray):List UInt8:=(enc (ZE (mixL (bs (allV w 48)) l))).1
def codW (l:List ByteArray):List UInt8:=(enc (ZE l)).1
def codB (c:Nat) (w:Int) (l:List ByteArray):Option (List UInt8):=if c=0 then codP l else if c=1 then some (codC l) else if c=2 then some (codM w l) else some (codW l)
def Zch (c w:Int) (l:List ByteArray):List UInt8×Nat:=if c<0\/3<c then([],1) else if Zy w l=false then([],2) else match codB c.toNat w l with
 |none=>([],9)
 |some s=>(num c.toNat++s,0)
def bstB (w:Int) (l:List ByteArray):Nat->List UInt8
 |0=>[]
 |i+1=>match codB i w l with
  |none=>bstB w l i
  |some s=>if bstB w l i=[]\/(num i++s).length<(bstB w l i).length then num i++s else bstB w l i
def ZY (w:Int) (l:List ByteArray):List UInt8×Nat:=if Zy w l=false then([],2) else(bstB w l 4,0)
def valOf:Nat->List Bool->List UInt8
 |0,_=>[]
 |k+1,b=>ch (2*(b.getD 0 false).toNat+(b.getD 1 false).toNat)::valOf k (b.drop 2)
def QJ (w:Nat):Nat->List Bool->List ByteArray
 |0,_=>[]
 |n+1,b=>bs (valOf w b)::QJ w n (b.drop (2*w))
def Z21 (w:Int) (s:List UInt8):Option (List ByteArray):=match rnum s 4096 with
 |none=>none
 |some (n,r)=>match Bit.nrd (bs r) with
  |none=>none
  |some k=>if(k:Int)=2*n*w then some (QJ w.toNat n (Bit.rbits (bs r) k)) else none
def atS:Int->List Int->List Int
 |_,[]=>[]
 |last,g::r=>(last+1+g)::atS (last+1+g) r
def look:List Int->List ByteArray->Int->Option ByteArray
 |i::x,v::r,k=>if i=k then some v else look x r k
 |_,_,_=>none
def runB (x:List Int) (vs:List ByteArray) (st:ByteArray):Nat->Nat->ByteArray->Option (List ByteArray)
 |0,_,_=>some []
 |k+1,i,last=>match look x vs (i:Int) with
  |some v=>(runB x vs st k (i+1) v).map (v::·)
  |none=>if(addV (toL last) (toL st)).2=true then(runB x vs st k (i+1) (bs (addV (toL last) (toL st)).1)).map (bs (addV (toL last) (toL st)).1::·) else none
def YG (w:Int) (s:List UInt8):Option (List ByteArray):=match rnum s 4096 with
  |none=>none
  |some (n,s1)=>if n=0 then(if s1=[] then some [] else none) else match ZG s1 128 with
    |none=>none
    |some (f,s2)=>match ZG s2 128 with
      |none=>none
      |some (st,s3)=>match ZG s3 s3.length with
        |none=>none
        |some (a,s4)=>if(decn a 4096).2≠0\/(dec s4 4096).2≠0 then none else match extL w (dec s4 4096).1,extL w [bs f] with
          | some vs, some q => if (decn a 4096).1.length ≠ vs.length then none else
              if st≠[]/\(ext w st).2≠0 then none else
              if(∀g∈(decn a 4096).1,g<(n:Int)) then(runB (atS (-1) (decn a 4096).1) vs (bs (if st=[] then[] else(ext w st).1)) (n-1) 1 (q.getD 0 default)).map (q.getD 0 default::·) else none
          |_,_=>none
def Xm (w:Int) (s:List UInt8):Option (List ByteArray):=if(dec s 4096).2≠0 then none else extL w (dec s 4096).1
def Z22 (w:Int) (data:List UInt8):Option (List ByteArray):=match rnum data 3 with
 |none=>none
 |some (c,r)=>if c=0 then Z21 w r else if c=1 then YG w r else if c=2 then(Xm w r).map (Y8 (bs (allV w 48))) else Xm w r
def okB (w:Int) (data:List UInt8) (most:Int) (o:Option (List ByteArray)):List ByteArray×Nat:=match o with
 |none=>([],12)
 |some l=>if(ZY w l).2≠0\/(ZY w l).1≠data then([],12) else if most<(l.length:Int) then([],2) else(l,0)
def decB (w:Int) (data:List UInt8) (most:Int):List ByteArray×Nat:=if w<1\/128<w then([],1) else okB w data most (Z22 w data)
theorem ZfD {c:UInt8} (h:cd c<4) (r:List Bool):ch (2*((cbit c++r).getD 0 false).toNat+((cbit c++r).getD 1 false).toNat)=c/\(cbit c++r).drop 2=r:=by
 refine⟨?_,rfl⟩;have hc:=ZjT c h;rcases(show cd c=0\/cd c=1\/cd c=2\/cd c=3 by omega) with h0|h0|h0|h0
 all_goals
  rw[h0] at hc;unfold cbit;rw[h0];exact hc
theorem Z2Z:∀(v:List UInt8) (r:List Bool),(∀c∈v,cd c<4)->valOf v.length (Xc v++r)=v
 |[],r,_=>rfl
 |c::v,r,h=>by
  have hc:=h c Vap;have e:Xc (c::v)++r=cbit c++(Xc v++r):=(by unfold Xc;rw[Vb0,Vay]);obtain⟨h1,h2⟩:=ZfD hc (Xc v++r);rw[Vaz,e];show ch _::valOf v.length ((cbit c++(Xc v++r)).drop 2)=_;rw[h1,h2,Z2Z v r (λx hx=>h x (Vat _ hx))]
theorem Z23 (w:Nat):∀(l:List ByteArray) (r:List Bool),(∀v∈l,vld (w:Int) (toL v)=true)->QJ w l.length (ZF l++r)=l
 |[],r,_=>rfl
 |v::l,r,h=>by
  have hv:=ZL.1 (h v Vap);have hw:(toL v).length=w:=(by have:=hv.2;omega);have e:ZF (v::l)++r=Xc (toL v)++(ZF l++r):=(by unfold ZF;rw[Vb0,Vay]);rw[Vaz,e];show bs (valOf w _)::QJ w l.length (_:List Bool)=_;have h1:=Z2Z (toL v) (ZF l++r) (Zv.1 hv.1).1;rw[hw] at h1
  have h2:(Xc (toL v)++(ZF l++r)).drop (2*w)=ZF l++r:=by
   rw[<-hw,<-Qg];exact Vcm
  rw[h1,h2,Z23 w l r (λx hx=>h x (Vat _ hx)),Za]
theorem Z9a {w:Int} {l:List ByteArray} (h:Zy w l=true) {s:List UInt8} (hs:codP l=some s):Z21 w s=some l:=by
 obtain⟨h1,h2,h3,h4⟩:=Zz.1 h;unfold codP at hs;split at hs
 ·cases hs
 ·rename_i hb;injection hs with hs;subst hs;have cF:=Zcg h1;obtain⟨n1,n2⟩:=Bit.nrd_bstr (ZF l) (by omega);unfold Z21;rw[Y2 _ _ h4 (by omega)];simp only[Za];rw[n1];simp only;rw[Vaf (by rw[cF,Int.mul_assoc]),n2];have:=Z23 w.toNat l [] (λv hv=>by rw[Int.toNat_of_nonneg (by omega)];exact h1 v hv);rw[Va3] at this;rw[this]
theorem XO {l:List ByteArray} (h:l.length<=4096):(ZE l).length<=4096/\∀s∈ZE l,s.size<=128:=by
 unfold ZE;refine⟨by rw[Vag];exact h,λs hs=> ?_⟩;obtain⟨v,_,rfl⟩:=Va6.1 hs;rw[Z0];exact Y3 _
theorem Qh {l:List ByteArray} (h:l.length<=4096):dec (enc (ZE l)).1 4096=(ZE l,0)/\(enc (ZE l)).2=0:=by
 obtain⟨s1,s2⟩:=XO h;refine⟨?_,by obtain⟨c,_,he⟩:=Z0j s1 s2;rw[he]⟩;rw[Z6s s1 s2,Vad (by omega)]
theorem Z30 {w:Int} {l:List ByteArray} (h1:∀v∈l,vld w (toL v)=true) (h4:l.length<=4096):Xm w (enc (ZE l)).1=some l:=by
 unfold Xm;obtain⟨d1,_⟩:=Qh h4;rw[d1,Vad (by simp)];exact Z0B h1
theorem Zkr (x:List Int):∀last,atS last (gp last x)=x:=by
 induction x with
 |nil=>intro _;rfl
 |cons t r ih=>
  intro last;show(last+1+(t-last-1))::atS (last+1+(t-last-1)) (gp t r)=_;rw[show last+1+(t-last-1)=t by omega,ih]
theorem Zix (l:List ByteArray) (k:Int):∀x:List Int,look x (atI l x) k=if k∈x then some (l.getD k.toNat default) else none:=by
 intro x;induction x with
 |nil=>rfl
 |cons i r ih=>
  show(if i=k then some (l.getD i.toNat default) else look r (atI l r) k)=_;by_cases h:i=k
  ·rw[Vaf h,h,Vaf Vap]
  ·rw[Vad h,ih];by_cases h2:k∈r
   ·rw[Vaf h2,Vaf (Vat _ h2)]
   ·rw[Vad h2,Vad (λh3=>(Va9.1 h3).elim (λe=>h e.symm) h2)]
theorem Ziy {l:List ByteArray} {st:ByteArray} {i:Nat} (h1:1<=i) (h2:i<l.length):(i:Int)∈exI l st↔okA l st (i-1)=false:=by
 unfold exI exP;constructor
 ·intro h;obtain⟨j,hj,e⟩:=Va6.1 h;have:j=i-1:=(by omega);subst this;simpa using (List.mem_filter.1 hj).2
 ·intro h;refine Va6.2 ⟨i-1,List.mem_filter.2 ⟨List.mem_range.2 (by omega),by simp[h]⟩,by omega⟩
theorem ZfE (l:List ByteArray) (st:ByteArray):∀(k i:Nat),1<=i->i+k=l.length->runB (exI l st) (atI l (exI l st)) st k i (l.getD (i-1) default)=some (l.drop i):=by
 intro k;induction k with
 |zero=>intro i _ h;rw[Vbb (by omega)];rfl
 |succ k ih=>
  intro i h1 h2;have aX:i<l.length:=(by omega);have hd:l.drop i=l[i]::l.drop (i+1):=Va4 aX;have hg:l.getD i default=l[i]:=(by simp[List.getD,aX]);have hn:=ih (i+1) (by omega) (by omega);rw[Vb5,hg] at hn;unfold runB;rw[Zix];by_cases hm:(i:Int)∈exI l st
  ·rw[Vaf hm];simp only[Vav];rw[hg,hn,hd];rfl
  ·rw[Vad hm];simp only
   have bH:okA l st (i-1)=true:=by
    cases h:okA l st (i-1) with
    |true=>rfl
    |false=>exact absurd ((Ziy h1 aX).2 h) hm
   unfold okA at bH;rw[Vaq] at bH;rw[show i-1+1=i by omega,hg] at bH;rw[bH,Vaf rfl];simp only[Za];rw[hn,hd];rfl
theorem Z0l {l:List ByteArray} (h:l.length<=4096) (st:ByteArray):Ze (exI l st)=true:=by
 unfold exI;refine Z9.2 ⟨Z8G _ _ _,λt ht=> ?_,?_⟩
 ·have:=Zb8 t ht;omega
 ·have:=Z65 l st (l.length-1);omega
theorem Z24 (l:List ByteArray):(toL (Zw l)=[])\/(l≠[]/\Zy ((l.getD 0 default).size:Int) l=true/\knV (toL (Zw l))=true/\Zw l∈difs l):=by
 unfold Zw;by_cases h:l=[]\/Zy ((l.getD 0 default).size:Int) l=false
 ·rw[Vaf h];exact .inl rfl
 ·rw[Vad h];simp only[not_or,Bool.not_eq_false] at h
  have key:∀(ds:List ByteArray) (F:ByteArray->Nat) (p:ByteArray×Nat),(ds.foldl (Yk F) p).1=p.1\/(ds.foldl (Yk F) p).1∈ds:=by
   intro ds F;induction ds with
   |nil=>intro p;exact .inl rfl
   |cons a r ih=>
    intro p;rcases ih (Yk F p a) with h1|h1
    ·have e:(List.foldl (Yk F) p (a::r)).1=(Yk F p a).1:=h1;rw[e];by_cases hc:p.2<F a
     ·have e2:Yk F p a=(a,F a):=(by unfold Yk;rw[Vaf hc]);rw[e2];exact .inr Vap
     ·have e2:Yk F p a=p:=(by unfold Yk;rw[Vad hc]);rw[e2];exact .inl rfl
    ·exact .inr (Vat _ h1)
  rcases key (difs l) (λd=>(difs l).count d) (bs [],0) with h1|h1
  ·left;unfold stepOf;rw[h1];rfl
  ·right;exact⟨h.1,h.2,Zb6 _ h1,h1⟩
theorem Zlj {M:Int} {l:List Int} :∀ {last:Int},-1<=last->tv last l=true->(∀t∈l,t<=M)->∀g∈gp last l,g<=M:=by
 induction l with
 |nil=>intro _ _ _ _ g hg;cases hg
 |cons a r ih=>
  intro last h0 h hM g hg;obtain⟨h1,h2,h3⟩:=Qb.1 h;rcases Va9.1 hg with rfl|hg
  ·have:=hM a Vap;omega
  ·exact ih (by omega) h3 (λt ht=>hM t (Vat _ ht)) g hg
theorem Z7V {w:Int} {l:List ByteArray} (h:Zy w l=true):toL (Zw l)=[]\/(vld w (toL (Zw l))=true/\shr (toL (Zw l))≠[]):=by
 obtain⟨h1,h2,h3,h4⟩:=Zz.1 h;rcases Z24 l with h5|⟨h5,_,h6,h7⟩
 ·exact .inl h5
 ·right;refine⟨ZL.2 ⟨Z3x h6,?_⟩,(Zav _).2 (Z3x h6)⟩;unfold difs difP at h7;obtain⟨j,hj,e⟩:=List.mem_filterMap.1 h7;have tM:=List.mem_range.1 hj;unfold dAt at e;split at e
  ·rename_i hc;injection e with e;rw[<-e,Zd];have hk:=(Z2K (Prod.ext rfl hc)).2;rw[hk];have cP:j<l.length:=(by omega);have hg:l.getD j default=l[j]:=(by simp[List.getD,cP]);rw[hg];exact(ZL.1 (h1 _ (Vaj _))).2
  ·cases e
theorem Ziz (X:List UInt8):text (bs X)=num X.length++X:=rfl
theorem Zh5 {l:List ByteArray} {x:List Int} (h:∀i∈x,0<=i/\i<(l.length:Int)):∀v∈atI l x,v∈l:=by
 intro v hv;obtain⟨i,hi,rfl⟩:=Va6.1 hv;have:=h i hi;have hl:i.toNat<l.length:=(by omega);have hg:l.getD i.toNat default=l[i.toNat]:=(by simp[List.getD,hl]);rw[hg];exact Vaj _
theorem Zci {l:List ByteArray} {st:ByteArray} :∀i∈exI l st,0<=i/\i<(l.length:Int):=by
 intro i hi;have:=Zb8 i hi;unfold exI at hi;have h2:=Zb8 i hi;omega
theorem Z6t (l:List ByteArray) (st:ByteArray):(exI l st).length<=l.length-1:=Z65 _ _ _
theorem Z9b {w:Int} {l:List ByteArray} (h:Zy w l=true):YG w (codC l)=some l:=by
  obtain⟨h1,h2,h3,h4⟩:=Zz.1 h;unfold YG codC;rw[Y2 _ _ h4 (by omega)];simp only;by_cases h0:l=[]
  · subst h0
    rfl
  · rw[Vad h0,Vad (λe=>h0 (Vak e))]
    obtain⟨v0,r,hl⟩:∃v r,l=v::r:=by cases l with|nil=>exact absurd rfl h0|cons v r=>exact⟨v,r,rfl⟩
    have qZ:l.getD 0 default=v0:=(by rw[hl];rfl);have hv:=h1 v0 (by rw[hl];exact Vap);have sD:=Z0l h4 (Zw l);have dV:=Z6t l (Zw l);have oh:=Yd sD;simp only[Ziz,Vay];have k1:=Y3 (toL (l.getD 0 default));have k2:=Y3 (toL (Zw l));rw[Yo _ _ k1 (by omega)];simp only;rw[Yo _ _ k2 (by omega)];simp only;rw[Yo _ _ (by rw[Vab,Vab];omega) (by omega)];simp only;have kC:(atI l (exI l (Zw l))).length<=4096:=(by unfold atI;rw[Vag];omega);obtain⟨d1,_⟩:=Qh kC;rw[d1,Z0k sD,Vad (by simp)];simp only;rw[Z0B (λv bm=>h1 v (Zh5 Zci v bm))]
    have aT:extL w [bs (shr (toL (l.getD 0 default)))]=some [v0]:=by
      rw[qZ];exact Z0B (l:=[v0]) (λv bm=>by rw[Vax] at bm;rw[bm];exact hv)
    rw[aT];simp only;have rr:(Z7 (exI l (Zw l))).length=(atI l (exI l (Zw l))).length:=(by unfold Z7 atI;rw[ZX,Vag])
    have aq:¬(shr (toL (Zw l))≠[]/\(ext w (shr (toL (Zw l)))).2≠0):=by
      rintro⟨e1,e2⟩;rcases Z7V h with h5|⟨h5,_⟩
      · rw[h5] at e1;exact e1 rfl
      · have:=Z5Z (ZL.1 h5).1
        rw[(ZL.1 h5).2] at this;rw[this] at e2;exact e2 rfl
    have tY:bs (if shr (toL (Zw l))=[] then[] else(ext w (shr (toL (Zw l)))).1)=Zw l:=by
      rcases Z7V h with h5|⟨h5,h6⟩
      · rw[h5]
        have:Zw l=bs []:=(by rw[<-Za (Zw l),h5]);rw[this];rfl
      · rw[Vad h6]
        have:=Z5Z (ZL.1 h5).1;rw[(ZL.1 h5).2] at this;rw[this,Za]
    have AO:∀g∈Z7 (exI l (Zw l)),g<(l.length:Int):=by
      intro g hg;have vQ:=sD;unfold Ze at vQ;rw[Va0] at vQ;have:=Zlj (M:=(l.length:Int)-1) (by omega) vQ.1 (λt ht=>by have:=Zci t ht;omega) g hg;omega
    rw[Vad (by rw[rr];simp),Vad aq,Vaf AO,tY];have an:atS (-1) (Z7 (exI l (Zw l)))=exI l (Zw l):=Zkr _ _;rw[an]
    have ag:=ZfE l (Zw l) (l.length-1) 1 (by omega) (by(have:0<l.length:=by rw[hl];simp);omega)
    rw[Va7,qZ] at ag;show(runB _ _ _ _ _ v0).map (v0::·)=_;rw[ag,hl];rfl
theorem ZfF {w:Int} {l:List ByteArray} (h:Zy w l=true):(∀v∈mixL (bs (allV w 48)) l,vld w (toL v)=true)/\Y8 (bs (allV w 48)) (mixL (bs (allV w 48)) l)=l:=by
 obtain⟨h1,h2,h3,h4⟩:=Zz.1 h;exact Z8H (by rw[Zd];exact Zb9 h2 h3) h1
theorem Zcj {w:Int} {l:List ByteArray} (h:Zy w l=true) {c:Nat} (hc:c<=3) {s:List UInt8} (hs:codB c w l=some s):Z22 w (num c++s)=some l:=by
 obtain⟨h1,h2,h3,h4⟩:=Zz.1 h;unfold Z22;rw[Y2 _ _ hc (by omega)];simp only;rcases(show c=0\/c=1\/c=2\/c=3 by omega) with rfl|rfl|rfl|rfl
 ·rw[Vaf rfl];exact Z9a h hs
 ·rw[Vad (by decide),Vaf rfl];have:codB 1 w l=some (codC l):=rfl;rw[this] at hs;injection hs with hs;subst hs;exact Z9b h
 ·rw[Vad (by decide),Vad (by decide),Vaf rfl];have:codB 2 w l=some (codM w l):=rfl;rw[this] at hs;injection hs with hs;subst hs;obtain⟨m1,m2⟩:=ZfF h;unfold codM;rw[Z30 m1 (by rw[Z0b];exact h4)];show some (Y8 _ _)=_;rw[m2]
 ·rw[Vad (by decide),Vad (by decide),Vad (by decide)];have:codB 3 w l=some (codW l):=rfl;rw[this] at hs;injection hs with hs;subst hs;exact Z30 h1 h4
theorem Z31 (w:Int) (l:List ByteArray):∀k,bstB w l k=[]\/∃c s,c<k/\codB c w l=some s/\bstB w l k=num c++s:=by
 intro k;induction k with
 |zero=>exact .inl rfl
 |succ k ih=>
  have e:bstB w l (k+1)=match codB k w l with
   |none=>bstB w l k
   |some s=>if bstB w l k=[]\/(num k++s).length<(bstB w l k).length then num k++s else bstB w l k:=rfl
  rw[e];match hk:codB k w l with
  |none=>
   simp only;rcases ih with h|⟨c,s,h1,h2,h3⟩
   ·exact .inl h
   ·exact .inr ⟨c,s,by omega,h2,h3⟩
  |some s=>
   simp only;split
   ·exact .inr ⟨k,s,by omega,hk,rfl⟩
   ·rcases ih with h|⟨c,s',h1,h2,h3⟩
    ·exact .inl h
    ·exact .inr ⟨c,s',by omega,h2,h3⟩
theorem Zck (n:Nat) (s:List UInt8):num n++s≠[]:=λh=>by
 have:=congrArg List.length h;rw[Vab,Z8] at this;simp at this
theorem Z0J {w:Int} {l:List ByteArray} (h:Zy w l=true):∃c s,c<=3/\codB c w l=some s/\ZY w l=(num c++s,0):=by
 unfold ZY;rw[Vad (by rw[h];simp)];rcases Z31 w l 4 with h1|⟨c,s,h1,h2,h3⟩
 ·exfalso;have e:bstB w l 4=if bstB w l 3=[]\/(num 3++codW l).length<(bstB w l 3).length then num 3++codW l else bstB w l 3:=rfl
  rw[e] at h1;split at h1
  ·exact Zck _ _ h1
  ·rename_i h2;exact h2 (.inl h1)
 ·exact⟨c,s,by omega,h2,by rw[h3]⟩
theorem ZfG {w:Int} {l:List ByteArray} (h:Zy w l=false):ZY w l=([],2):=by unfold ZY;rw[Vaf h]
theorem Z9c {w:Int} {l:List ByteArray} (h:(ZY w l).2=0):Zy w l=true:=by
 cases hv:Zy w l with
 |true=>rfl
 |false=>rw[ZfG hv] at h;cases h
theorem ZfH {w:Int} {l:List ByteArray} (h:Zy w l=true) {c:Nat} (hc:c<=3) {s:List UInt8} (hs:codB c w l=some s) (most:Int):
  decB w (num c++s) most=if(ZY w l).1≠num c++s then([],12) else if most<(l.length:Int) then([],2) else(l,0):=by
 obtain⟨h1,h2,h3,h4⟩:=Zz.1 h;have h5:(ZY w l).2=0:=(by obtain⟨c,s,_,_,he⟩:=Z0J h;rw[he]);unfold decB okB;rw[Vad (by omega),Zcj h hc hs];simp only;rw[h5];simp
theorem ZfI {w:Int} {l:List ByteArray} (h:Zy w l=true) (most:Int):decB w (ZY w l).1 most=if most<(l.length:Int) then([],2) else(l,0):=by
 obtain⟨c,s,hc,hs,he⟩:=Z0J h;have:=ZfH h hc hs most;rw[he] at this⊢;simpa using this
theorem Z25 (w:Int) (data:List UInt8) (most:Int):((w<1\/128<w)/\decB w data most=([],1))\/(1<=w/\w<=128/\(decB w data most=([],12)\/decB w data most=([],2)))\/∃l,decB w data most=(l,0)/\ZY w l=(data,0)/\Zy w l=true/\(l.length:Int)<=most:=by
 unfold decB;by_cases hw:w<1\/128<w
 ·rw[Vaf hw];exact .inl ⟨hw,rfl⟩
 ·rw[Vad hw];right;unfold okB;match h:Z22 w data with
  |none=>exact .inl ⟨by omega,by omega,.inl rfl⟩
  |some l=>
   simp only;by_cases h1:(ZY w l).2≠0\/(ZY w l).1≠data
   ·rw[Vaf h1];exact .inl ⟨by omega,by omega,.inl rfl⟩
   ·rw[Vad h1];simp only[not_or,Decidable.not_not] at h1;by_cases h2:most<(l.length:Int)
    ·rw[Vaf h2];exact .inl ⟨by omega,by omega,.inr rfl⟩
    ·rw[Vad h2];exact .inr ⟨l,rfl,Prod.ext h1.2 h1.1,Z9c h1.1,by omega⟩
end Go.Proofs.YtchokmkfobandaaGreatDoor
namespace Go.Proofs.YtchokmkfobandaaGreatDoor
open Go.RowKit Go.Proofs Wv Wv.Vi Wv.Rc Wv.Mo Wv.Ru Wv.Bc
theorem Yf {w:World} {A:Option Addr} {l:List ByteArray} (h:At w A (svs l)) (i:Nat) (hi:i<l.length):∃b o,A=some ⟨b,o,none⟩/\b<w.heap.size/\w.cell? ⟨b,o+i,none⟩=some (.string l[i]):=
 h.get i _ (Ys l i hi)
theorem Z0K {w:World} {A:Option Addr} {l:List ByteArray} (ha:At w A (svs l)) (ad:∀s∈l,s.size<=1099511627776) (n cap:Nat) (hn:n=l.length) (hm:n<=9223372036854775807) (W:Int):
  Calls Tryz.prog 56 #[.int .i64 W,.slice A n cap] w λx w'=>x=.returned (.bool (Zy W l))/\Below w.heap.size w w':=by
 have Ha:=h_ ha
 have Hv:=h_ (λ(v:ByteArray) (hv:v∈l) W2=>(by
  have:=Z67 W (toL v) (by rw[Z1];exact ad v hv) W2;rw[Za] at this;exact this:Calls Tryz.prog 75 #[.int .i64 W,.string v] W2 λx w'=>x=.returned (.bool (vld W (toL v)))/\Below W2.heap.size W2 w'))
 have aD:=h_ (Vae w.heap.size w);have Hn:=h_ hn;clear ha ad hn;go_enter Tryz.func56,Tryz.ntmps56;go_wp2;go_loopw [9] (λs9 wr=>∃j:Nat,j<=n/\s9=.int .i64 (j:Int)/\Hid (∀v∈l.take j,vld W (toL v)=true)/\Hid (Below w.heap.size w wr)) (λs9 _=>(n-intOf s9).toNat);case atStart=>exact⟨0,Var _,rfl,h_ (by simp),aD⟩
 case round=>
  clear aD;obtain⟨j,hj,rfl,ao,hb⟩:=hrel;by_cases ab:j<n
  ·have cP:j<l.length:=(by rw[<-Hn.o];exact ab);obtain⟨b,o,rfl,cF,hc⟩:=Yf (Ha.o.below hb.o) j cP;have cL:=h_ (Hv.o l[j] (Vaj _));have cw:l.take (j+1)=l.take j++[l[j]]:=Vac cP;have nt:=h_ (Vaj cP);obtain⟨S,hS⟩:∃S,l[j]=S:=⟨_,rfl⟩;rw[hS] at hc cL cw nt;have gT:=h_ cw;clear cw hS cP;cases hv:vld W (toL S) with
   |true=>
    rw[hv] at cL
    have qc:=h_ (show ∀v∈l.take (j+1),vld W (toL v)=true from λv hm=>by
     rw[gT.o,Vba,Vax] at hm;rcases hm with hm|rfl
     ·exact ao.o v hm
     ·exact hv)
    clear ao gT hv;go_wp2_with fail;refine(cL.o _).mono ?_;rintro x w1 ⟨rfl,a7⟩;have ak:=h_ (hb.o.trans (a7.mono hb.o.size));clear a7 cL hb;go_wp2;refine⟨⟨j+1,ab,by go_num,qc,ak⟩,?_⟩;simp[intOf]<;>omega
   |false=>
    rw[hv] at cL
    have aI:=h_ (show Zy W l=false by
     cases h:Zy W l with
     |false=>rfl
     |true=>
      have:=(Zz.1 h).1 S nt.o;rw[hv] at this;cases this)
    clear ao gT hv;go_wp2_with fail;refine(cL.o _).mono ?_;rintro x w1 ⟨rfl,a7⟩;have ak:=h_ (hb.o.trans (a7.mono hb.o.size));clear a7 cL hb;go_wp2;go_returns;exact⟨by rw[aI.o];rfl,ak.o⟩
  ·have iB:j=n:=(by omega);have iG:=ao.o;rw[iB,Vai (by rw[Hn.o];exact UZz)] at iG
   have fu:Zy W l=(decide (1<=W)&&decide (W<=128)&&decide (n<=4096)):=by
    unfold Zy;rw[<-Hn.o,Vbp.2 iG,Bool.true_and]
   have aI:=h_ fu;clear ao iG fu Hv;by_cases h1:1<=W
   ·by_cases h2:W<=128
    ·by_cases h3:(n:Int)<=4096
     ·have I4:n<=4096:=(by omega);rw[Vam h1,Vam h2,Vam I4] at aI;go_wp2;go_returns;exact⟨by rw[aI.o];rfl,hb.o⟩
     ·have I4:¬n<=4096:=(by omega);rw[Vam h1,Vam h2,Vah I4] at aI;go_wp2;go_returns;exact⟨by rw[aI.o];rfl,hb.o⟩
    ·rw[Vam h1,Vah h2] at aI;go_wp2;go_returns;exact⟨by rw[aI.o];rfl,hb.o⟩
   ·rw[Vah h1] at aI;go_wp2;go_returns;exact⟨by rw[aI.o];rfl,hb.o⟩
theorem Z6u (l:List ByteArray):(svs l).length=l.length:=by unfold svs;rw[Vag]
def Qi (F:ByteArray->ByteArray) (l:List ByteArray) (i:Nat):List ByteArray:=(l.take i).map F++List.replicate (l.length-i) ⟨#[]⟩
theorem Z5g (F:ByteArray->ByteArray) (l:List ByteArray) (i:Nat) (hi:i<=l.length):(Qi F l i).length=l.length:=by
 unfold Qi;rw[Vab,Vag,Vau,Vaw];omega
theorem Z5h (F:ByteArray->ByteArray) (l:List ByteArray) (i:Nat) (hi:i<l.length):(Qi F l i).set i (F l[i])=Qi F l (i+1):=by
 have hz:((l.take i).map F).length=i:=(by rw[Vag,Vau];omega);unfold Qi;rw[Va8 _ _ (by omega),hz,Va7,Vac hi,Vbk,show l.length-i=(l.length-(i+1))+1 by omega,Vbg,List.set_cons_zero];simp
theorem Z5i (F:ByteArray->ByteArray) (l:List ByteArray):Qi F l l.length=l.map F:=by
 unfold Qi;rw[Vbx,Va7,List.replicate_zero,Va3]
theorem Zcl (F:ByteArray->ByteArray) (l:List ByteArray):(svs (Qi F l 0)).toArray=Array.replicate l.length (.string ⟨#[]⟩:Value):=by
 unfold Qi;rw[Vbw,List.map_nil,Vbz,Nat.sub_zero];unfold svs;rw[List.map_replicate];rfl
theorem Z26 {w:World} {g:Nat} {t:TypeId} {l:List ByteArray} (h:Bk w g t (svs l).toArray) (i:Nat) (x:ByteArray):Bk (w.setCell ⟨g,i,none⟩ (.string x)) g t (svs (l.set i x)).toArray:=by
 have:=h.put i (.string x);rw[List.setIfInBounds_toArray] at this;unfold svs at this⊢;rw[List.map_set];exact this
theorem Z0L {w:World} {A:Option Addr} {l:List ByteArray} (ha:At w A (svs l)) (ad:∀s∈l,s.size<=1099511627776) (n cap:Nat) (hn:n=l.length) (hm:n<=1099511627776):
  Calls Tryz.prog 169 #[.slice A n cap] w λx w'=>∃g,x=.returned (.slice (some ⟨g,0,none⟩) n n)/\w.heap.size<=g/\g<w'.heap.size/\At w' (some ⟨g,0,none⟩) (svs (ZE l))/\Below w.heap.size w w':=by
 have Ha:=h_ ha
 have Hv:=h_ (λ(v:ByteArray) (hv:v∈l) W2=>(by
  have:=Z2M (toL v) (by rw[Z1];exact ad v hv) W2;rw[Za] at this;exact this:Calls Tryz.prog 97 #[.string v] W2 λx w'=>x=.returned (.string (bs (shr (toL v))))/\Below W2.heap.size W2 w'))
 have bG:=Yi (P:=Tryz.prog) 64 9 (.string ⟨#[]⟩) 16 Tryz.underlying64 YC rfl (n:Int) n rfl (by omega) (by omega) w;have cg:=Bk.new w 9 (Array.replicate n (.string ⟨#[]⟩));have aD:=h_ (Zx w (.cells (Array.replicate n (.string ⟨#[]⟩)) 9));have fP:Array.replicate n (.string ⟨#[]⟩:Value)=(svs (Qi (λv=>bs (shr (toL v))) l 0)).toArray:=(by rw[hn,Zcl]);have jQ:=h_ fP;have dc:w.heap.size<(w.alloc (.cells (Array.replicate n (.string ⟨#[]⟩)) 9)).heap.size:=(by rw[World.size_alloc];omega);have dF:=h_ cg;have SQ:=h_ dc;have Hn:=h_ hn;generalize w.alloc (.cells (Array.replicate n (.string ⟨#[]⟩)) 9)=W0 at*;rw[jQ.o] at dF;clear ha ad hn cg fP dc jQ;go_enter Tryz.func169,Tryz.ntmps169;go_wp2;go_loopw [11] (λjU wr=>∃j:Nat,j<=n/\jU=.int .i64 (j:Int)/\Hid (Bk wr w.heap.size 9 (svs (Qi (λv=>bs (shr (toL v))) l j)).toArray)/\Hid (Below w.heap.size w wr)) (λjU _=>(n-intOf jU).toNat);case atStart=>exact⟨0,Var _,rfl,dF,aD⟩
 case round=>
  clear aD dF bG;obtain⟨j,hj,rfl,hk,hb⟩:=hrel;by_cases ab:j<n
  ·have cP:j<l.length:=(by rw[<-Hn.o];exact ab);obtain⟨b,o,rfl,cF,hc⟩:=Yf (Ha.o.below hb.o) j cP;have cL:=h_ (Hv.o l[j] (Vaj _));have aZ:=h_ (Z5h (λv=>bs (shr (toL v))) l j cP);have hlen:=Z5g (λv=>bs (shr (toL v))) l j (by omega);obtain⟨S,hS⟩:∃S,l[j]=S:=⟨_,rfl⟩;rw[hS] at hc cL aZ;obtain⟨T,hT⟩:∃T,bs (shr (toL S))=T:=⟨_,rfl⟩;rw[hT] at cL aZ;have av:=h_ (show j<(Qi (λv=>bs (shr (toL v))) l j).length by rw[hlen];exact cP);clear hS hT cP hlen;have dw:(j:Int)<(n:Int):=(by omega);have gx:(0:Int)<=(j:Int):=(by omega);go_wp2_with fail;refine(cL.o _).mono ?_;rintro x w1 ⟨rfl,a7⟩;have bk:=hk.o.below a7 hk.o.lt;have hcell:=bk.cell j;rw[Vbf,Ys _ _ av.o] at hcell;have fj:=bk.frozen j;have aj:=Z26 bk j T;rw[aZ.o] at aj;have az:=h_ aj;have ak:=h_ ((hb.o.trans (a7.mono hb.o.size)).setCell (p:=⟨w.heap.size,j,none⟩) UZz (.string T));generalize (Qi (λv=>bs (shr (toL v))) l j)[j]=OLD at*;clear a7 cL hb hk bk aj aZ av;go_wp2;refine⟨⟨j+1,ab,by go_num,az,ak⟩,?_⟩;simp[intOf]<;>omega
  ·have iB:j=n:=(by omega);have bk:=hk.o;rw[iB,Hn.o,Z5i] at bk;have ft:=h_ bk;clear bk hk Hv;go_wp2;go_returns;refine⟨_,rfl,UZz,ft.o.lt,?_,hb.o⟩;have:=ft.o.at_;rw[Vck] at this;exact this
theorem ZfJ {w:Int} {l:List ByteArray} (h:∀s∈l,(ext w (toL s)).2=0):extL w l=some (l.map (λs=>bs (ext w (toL s)).1)):=by
 induction l with
 |nil=>rfl
 |cons s r ih=>
  unfold extL;rw[Vaf (h s Vap),ih (λx hx=>h x (Vat _ hx))];rfl
theorem ZfK {w:Int} {l:List ByteArray} {s:ByteArray} (hs:s∈l) (h:(ext w (toL s)).2≠0):extL w l=none:=by
 induction l with
 |nil=>cases hs
 |cons a r ih=>
  unfold extL;by_cases ha:(ext w (toL a)).2=0
  ·rw[Vaf ha];rcases Va9.1 hs with rfl|hs
   ·exact absurd ha h
   ·rw[ih hs];rfl
  ·rw[Vad ha]
def LgR (w:World) (o:Option (List ByteArray)) (x:Ending) (w':World):Prop:=Below w.heap.size w w'/\match o with
 |none=>∃A,x=.returned (.tuple #[.slice A 0 0,.bool false])
 |some r=>∃g,x=.returned (.tuple #[.slice (some ⟨g,0,none⟩) r.length r.length,.bool true])/\w.heap.size<=g/\Bk w' g 9 (svs r).toArray
theorem Z0m {w:World} {A:Option Addr} {l:List ByteArray} (ha:At w A (svs l)) (ad:∀s∈l,s.size<=1099511627776) (n cap:Nat) (hn:n=l.length) (hm:n<=1099511627776) (W:Int):
  Calls Tryz.prog 206 #[.agg #[.int .i64 W],.slice A n cap] w λx w'=>LgR w (extL W l) x w':=by
 have bP:=Bk.new w 127 #[.int .i64 W];have aD:=Zx w (.cells #[.int .i64 W] 127);have bG:=Yi (P:=Tryz.prog) 64 9 (.string ⟨#[]⟩) 16 Tryz.underlying64 YC rfl (n:Int) n rfl (by omega) (by omega) (w.alloc (.cells #[.int .i64 W] 127));have cg:=Bk.new (w.alloc (.cells #[.int .i64 W] 127)) 9 (Array.replicate n (.string ⟨#[]⟩));have cq:=h_ (bP.alloc (.cells (Array.replicate n (.string ⟨#[]⟩)) 9));have a7:=h_ (aD.alloc aD.size (.cells (Array.replicate n (.string ⟨#[]⟩)) 9));have fP:Array.replicate n (.string ⟨#[]⟩:Value)=(svs (Qi (λs=>bs (ext W (toL s)).1) l 0)).toArray:=(by rw[hn,Zcl]);rw[World.size_alloc] at bG cg;have Ha:=h_ ha
 have Hv:=h_ (λ(v:ByteArray) (hv:v∈l) W2=>(by
  have:=Zi0 W (toL v) (by rw[Z1];exact ad v hv) W2;rw[Za] at this;exact this:Calls Tryz.prog 148 #[.int .i64 W,.string v] W2 λx w'=>x=.returned (.tuple #[.string (bs (ext W (toL v)).1),.int .i64 ((ext W (toL v)).2:Int)])/\Below W2.heap.size W2 w'))
 have jQ:=h_ fP;have dF:=h_ cg;have Hn:=h_ hn;generalize (w.alloc (.cells #[.int .i64 W] 127)).alloc (.cells (Array.replicate n (.string ⟨#[]⟩)) 9)=W0 at*;rw[jQ.o] at dF;clear ha ad hn cg fP jQ bP aD;go_enter Tryz.func206,Tryz.ntmps206;go_wp2;go_loopw [16] (λjW wr=>∃j:Nat,j<=n/\jW=.int .i64 (j:Int)/\Hid (∀s∈l.take j,(ext W (toL s)).2=0)/\Hid (Bk wr (w.heap.size+1) 9 (svs (Qi (λs=>bs (ext W (toL s)).1) l j)).toArray)/\Hid (Bk wr w.heap.size 127 #[.int .i64 W])/\Hid (Below w.heap.size w wr)) (λjW _=>(n-intOf jW).toNat);case atStart=>exact⟨0,Var _,rfl,h_ (by simp),dF,cq,a7⟩
 case round=>
  clear a7 dF bG cq;obtain⟨j,hj,rfl,ao,hk,fh,hb⟩:=hrel;by_cases ab:j<n
  ·have cP:j<l.length:=(by rw[<-Hn.o];exact ab);obtain⟨b,o,rfl,cF,hc⟩:=Yf (Ha.o.below hb.o) j cP;have cL:=h_ (Hv.o l[j] (Vaj _));have nt:=h_ (Vaj cP);have aZ:=h_ (Z5h (λs=>bs (ext W (toL s)).1) l j cP);have hlen:=Z5g (λs=>bs (ext W (toL s)).1) l j (by omega);have cw:l.take (j+1)=l.take j++[l[j]]:=Vac cP;obtain⟨S,hS⟩:∃S,l[j]=S:=⟨_,rfl⟩;rw[hS] at hc cL aZ cw nt;have gT:=h_ cw;have av:=h_ (show j<(Qi (λs=>bs (ext W (toL s)).1) l j).length by rw[hlen];exact cP);have vR:wr.cell? ⟨w.heap.size,0,none⟩=some (.int .i64 W):=fh.o.cell 0;obtain⟨T,hT⟩:∃T,bs (ext W (toL S)).1=T:=⟨_,rfl⟩;rw[hT] at cL aZ;clear hS hT cP hlen cw;have dw:(j:Int)<(n:Int):=(by omega);have gx:(0:Int)<=(j:Int):=(by omega);by_cases he:(ext W (toL S)).2=0
   ·rw[he] at cL
    have qc:=h_ (show ∀v∈l.take (j+1),(ext W (toL v)).2=0 from λv hm=>by
     rw[gT.o,Vba,Vax] at hm;rcases hm with hm|rfl
     ·exact ao.o v hm
     ·exact he)
    clear he gT nt ao;go_wp2_with fail;refine(cL.o _).mono ?_;rintro x w1 ⟨rfl,a7⟩;have bk:=hk.o.below a7 hk.o.lt;have qd:=h_ (fh.o.below a7 fh.o.lt);have hcell:=bk.cell j;rw[Vbf,Ys _ _ av.o] at hcell;have fj:=bk.frozen j;have aj:=Z26 bk j T;rw[aZ.o] at aj;have az:=h_ aj;have nL:=h_ (qd.o.off (p:=⟨w.heap.size+1,j,none⟩) (by simp) (.string T));have ak:=h_ ((hb.o.trans (a7.mono hb.o.size)).setCell (p:=⟨w.heap.size+1,j,none⟩) (by simp) (.string T));generalize (Qi (λs=>bs (ext W (toL s)).1) l j)[j]=OLD at*;clear a7 cL hb hk bk aj aZ av qd fh vR;go_wp2;refine⟨⟨j+1,ab,by go_num,qc,az,nL,ak⟩,?_⟩;simp[intOf]<;>omega
   ·have aI:=h_ (ZfK nt.o he);have ay:(((ext W (toL S)).2:Int) !=0)=true:=(by rw[Va1];omega);generalize ((ext W (toL S)).2:Int)=E at*;clear he gT nt ao aZ av;go_wp2_with fail;refine(cL.o _).mono ?_;rintro x w1 ⟨rfl,a7⟩;have ak:=h_ (hb.o.trans (a7.mono hb.o.size));clear a7 cL hb;go_wp2;go_returns;refine⟨ak.o,?_⟩;rw[aI.o];exact⟨none,rfl⟩
  ·have iB:j=n:=(by omega);have bk:=hk.o;rw[iB,Hn.o,Z5i] at bk;have ft:=h_ bk;have iG:=ao.o;rw[iB,Vai (by rw[Hn.o];exact UZz)] at iG;have aI:=h_ (ZfJ iG);have Hl:=h_ (show(l.map (λs=>bs (ext W (toL s)).1)).length=n by rw[Vag,Hn.o]);clear bk hk Hv ao iG;go_wp2;go_returns;refine⟨hb.o,?_⟩;rw[aI.o];exact⟨_,by rw[Hl.o];rfl,by omega,ft.o⟩
theorem Z9d {w:World} {A:Option Addr} {l:List ByteArray} (ha:At w A (svs l)) (ad:∀s∈l,s.size<=1099511627776) (n cap:Nat) (hn:n=l.length) (hm:n<=4096) (W:Int):
  Calls Tryz.prog 123 #[.agg #[.int .i64 W],.slice A n cap] w λx w'=>x=.returned (.tuple #[.string (bs (codW l)),.bool true])/\Below w.heap.size w w':=by
 have aD:=Zx w (.cells #[.int .i64 W] 127);have H1:=h_ (Z0L (ha.alloc (.cells #[.int .i64 W] 127)) ad n cap hn (by omega));have fK:n=(ZE l).length:=(by unfold ZE;rw[Vag];exact hn);have ow:=XO (l:=l) (by omega);have H2:=h_ (λW2 (B:Option Addr) (c:Nat) (h:At W2 B (svs (ZE l)))=>Yt h (λs hs=>by have:=ow.2 s hs;omega) n c fK (by omega));have cR:=Qh (l:=l) (by omega);have he:((enc (ZE l)).2:Int)=0:=(by rw[cR.2];rfl);unfold codW;unfold ERes at H2;rw[cR.2] at H2;have aP:=h_ aD;generalize bs (enc (ZE l)).1=SR at*;clear ha ad hn fK ow cR he aD;go_enter Tryz.func123,Tryz.ntmps123;go_wp2_with fail;refine(H1.o).mono ?_;rintro x w1 ⟨g,rfl,du,SV,an,a7⟩;have hb:=aP.o.trans (a7.mono aP.o.size);clear a7 H1 aP;have H3:=h_ (H2.o w1 _ n an);clear H2 an;go_wp2_with fail;refine(H3.o).mono ?_;rintro x w2 ⟨rfl,a8⟩;have aW:=hb.trans (a8.mono hb.size);clear hb a8 H3;go_wp2;go_returns;exact⟨rfl,aW⟩
end Go.Proofs.YtchokmkfobandaaGreatDoor
