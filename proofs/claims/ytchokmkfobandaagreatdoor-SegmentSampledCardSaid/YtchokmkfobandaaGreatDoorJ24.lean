import Derived.Test.YtchokmkfobandaaGreatDoorJ21
import Derived.Test.YtchokmkfobandaaGreatDoorJ13
set_option linter.unusedVariables false
set_option linter.unusedSimpArgs false
set_option maxRecDepth 100000
set_option maxHeartbeats 8000000
namespace Go.Proofs.YtchokmkfobandaaGreatDoor
open Go.RowKit Go.Proofs Wv Wv.Vi Wv.Rc Wv.Mo Wv.Ru
theorem Zfq {w:World} (data:ByteArray) (hd:data.size<=1000000000):
  Calls Tryz.prog 111 #[.string data] w λx w'=>Z2l w (YO (toL data)) x w':=by
 match h1:rnum (toL data) 1 with
 |none=>
  obtain⟨e,he,hn⟩:=Y1 h1;have hr:YO (toL data)=none:=(by unfold YO;rw[h1]);rw[hr];exact Z7R data (by omega) 0 data e data e hn (Xm he 4096) he UZz
 |some (c,s1)=>
  obtain⟨n1,cq,cC⟩:=Zp h1;match h2:rnum s1 4096 with
  |none=>
   obtain⟨e,he,hn⟩:=Y1 h2;have hr:YO (toL data)=none:=(by unfold YO;rw[h1];simp only;rw[h2]);rw[hr];exact Z7R data (by omega) c (bs s1) 0 (bs s1) e n1 hn he cC
  |some (n,s2)=>exact Zc8 data hd c n s1 s2 h1 h2
theorem Zip {c:Nat} {ws:List ByteArray} {A B:List Int×Nat} {l:List ByteArray} (h:fin c ws A B=some l):∃Z,ZD ws Z []=(l,0):=by
 unfold fin at h;obtain⟨Z,hZ⟩:∃Z,(if c=1 then(ZL A.1).1.map Int.ofNat else A.1).zip (B.1.map (· +1))=Z:=⟨_,rfl⟩;rw[hZ] at h;split at h
 ·cases h
 ·split at h
  ·cases h
  ·split at h
   ·cases h
   ·split at h
    ·rename_i h0;injection h with h;exact⟨_,Prod.ext h h0⟩
    ·cases h
theorem Zca {s:List UInt8} {l:List ByteArray} (h:YO s=some l):∃c ws A B n s2 s3,fin c ws A B=some l/\Y8 n s2=some (ws,s3):=by
 unfold YO at h;match h1:rnum s 1,h with
 |none,h=>cases h
 |some (c,s1),h=>
  simp only at h;match h2:rnum s1 4096,h with
  |none,h=>cases h
  |some (n,s2),h=>
   simp only at h;match h3:Y8 n s2,h with
   |none,h=>cases h
   |some (ws,s3),h=>
    simp only at h;match h4:ZH s3 s.length,h with
    |none,h=>cases h
    |some (a,s4),h=>exact⟨_,_,_,_,n,s2,s3,h,h3⟩
theorem Z6m (n:Nat):∀ {s:List UInt8} {ws:List ByteArray} {t:List UInt8},Y8 n s=some (ws,t)->∀x∈ws,x.size<=128:=by
 induction n with
 |zero=>
  intro s ws t h x hx;rw[Y8] at h;injection h with h;injection h with h1 h2;subst h1;cases hx
 |succ n ih=>
  intro s ws t h x hx;match h1:ZH s 128 with
  |none=>rw[Z56 h1] at h;cases h
  |some (a,u)=>
   rw[Z55 h1] at h;match h2:Y8 n u with
   |none=>rw[h2] at h;cases h
   |some (l,v)=>
    rw[h2] at h;injection h with h;injection h with h3 h4;subst h3;rcases Vba.1 hx with h5|h5
    ·rw[h5,Z0];exact(Z0F h1).2.2.2
    ·exact ih h2 x h5
theorem Z6n (d:List ByteArray) (hd:∀x∈d,x.size<=128) (Z:List (Int×Int)):∀acc:List ByteArray,(∀x∈acc,x.size<=128)->acc.length<=4096->(∀x∈(ZD d Z acc).1,x.size<=128)/\(ZD d Z acc).1.length<=4096:=by
 induction Z with
 |nil=>intro acc h1 h2;exact⟨h1,h2⟩
 |cons z Z ih=>
  intro acc h1 h2;rw[ZD];split
  ·exact⟨by simp,by simp⟩
  ·rename_i c1;split
   ·exact⟨by simp,by simp⟩
   ·refine ih _ (λx hx=> ?_) ?_
    ·rcases Va9.1 hx with h|h
     ·exact h1 x h
     ·rw[(Vcp.1 h).2];have:z.1.toNat<d.length:=(by omega);have e:d.getD z.1.toNat default=d[z.1.toNat]:=(by simp[List.getD,this]);rw[e];exact hd _ (Vak _)
    ·rw[Vab,Vaw];omega
theorem Z0G {s:List UInt8} {l:List ByteArray} (h:YO s=some l):(∀x∈l,x.size<=128)/\l.length<=4096:=by
 obtain⟨c,ws,A,B,n,s2,s3,h1,h2⟩:=Zca h;obtain⟨Z,hZ⟩:=Zip h1;have:=Z6n ws (Z6m n h2) Z [] (by simp) (by simp);rw[hZ] at this;exact this
theorem Qv {w:World} (data:ByteArray) (hd:data.size<=1000000000) (most:Int):
  Calls Tryz.prog 65 #[.string data,.int .i64 most] w λx w'=>TRes w (dec (toL data) most) x w':=by
 have H1:=h_ (Zfq (w:=w) data hd);unfold dec;match hr:YO (toL data) with
 |none=>
  rw[hr] at H1;simp only;clear hr hd;go_enter Tryz.func65,Tryz.ntmps65;go_wp2_with fail;refine(H1.o).mono ?_;rintro x w1 ⟨v,rfl,hs,hb⟩;simp only[Option.isSome_none];clear hs;go_wp2;go_returns;exact XM 12 hb
 |some l=>
  rw[hr] at H1;simp only;obtain⟨g1,g2⟩:=Z0G hr;have H2:=h_ (λW A cap (h:At W A (svs l))=>Ys h (λs hs=>by have:=g1 s hs;omega) l.length cap rfl (by omega));obtain⟨⟨X,xe⟩,hX⟩:∃x,enc l=x:=⟨_,rfl⟩;rw[hX] at H2⊢;simp only;clear hr hd hX g1;by_cases au:xe≠0\/X≠toL data
  ·rw[Vaf au]
   have q:((xe:Int) !=0)=true\/(((xe:Int) !=0)=false/\(((bs X).toList !=data.toList)=true/\((bs X).toList==data.toList)=false)):=by
    by_cases hx:xe=0
    ·right;have az:X≠toL data:=au.resolve_left (λh=>h hx)
     have h3:((bs X).toList==data.toList)=false:=by
      rw[QG,Vbp];intro h;exact az (by rw[<-h,Ze])
     refine⟨by rw[hx];rfl,by rw[bne,h3];rfl,h3⟩
    ·left;rw[Va0];omega
   clear au;rcases q with q|⟨q,q2,q3⟩
   all_goals
    go_enter Tryz.func65,Tryz.ntmps65;go_wp2_with fail;refine(H1.o).mono ?_;rintro x w1 ⟨v,rfl,hs,hb⟩;simp only[Option.isSome_some];obtain⟨A,cap,rfl,ak⟩:=hs l rfl;have H3:=h_ (H2.o _ _ cap ak);clear hs ak;go_wp2_with fail;refine(H3.o).mono ?_;rintro x w2 ⟨rfl,a8⟩;have aS:=hb.trans (a8.mono hb.size);go_wp2;go_returns;exact XM 12 aS
  ·rw[Vad au];have hx:xe=0:=(by omega)
   have kh:X=toL data:=by
    rcases Classical.em (X=toL data) with h|h
    ·exact h
    ·exact absurd (.inr h) au
   subst hx;subst kh;have q2:((bs (toL data)).toList !=data.toList)=false:=(by rw[Zc,Vb5]);have q3:((bs (toL data)).toList==data.toList)=true:=(by rw[Zc,beq_self_eq_true]);clear au;by_cases hm:most<(l.length:Int)
   ·rw[Vaf hm];go_enter Tryz.func65,Tryz.ntmps65;go_wp2_with fail;refine(H1.o).mono ?_;rintro x w1 ⟨v,rfl,hs,hb⟩;simp only[Option.isSome_some];obtain⟨A,cap,rfl,ak⟩:=hs l rfl;have H3:=h_ (H2.o _ _ cap ak);clear hs ak;go_wp2_with fail;refine(H3.o).mono ?_;rintro x w2 ⟨rfl,a8⟩;have aS:=hb.trans (a8.mono hb.size);go_wp2;go_returns;exact XM 2 aS
   ·rw[Vad hm];go_enter Tryz.func65,Tryz.ntmps65;go_wp2_with fail;refine(H1.o).mono ?_;rintro x w1 ⟨v,rfl,hs,hb⟩;simp only[Option.isSome_some];obtain⟨A,cap,rfl,ak⟩:=hs l rfl;have H3:=h_ (H2.o _ _ cap ak);have bD:=h_ ak;clear hs ak;go_wp2_with fail;refine(H3.o).mono ?_;rintro x w2 ⟨rfl,a8⟩;have aS:=hb.trans (a8.mono hb.size);have bL:=bD.o.below a8;go_wp2;go_returns;exact⟨_,rfl,⟨A,cap,rfl,bL⟩,aS⟩
theorem Zfr (c:Nat) (l:List ByteArray) (hl:l.length<=4096):(encA c l).length<9223372036854775808:=by
 have h1:=XN (Ya c l) (λv hv=>by have:=QZ c l hl v hv;omega);have h2:=Ym (dict l) l;rw[YB] at h1;show(encn (Ya c l)).length<_;omega
theorem Zcb {l:List ByteArray} (hl:l.length<=4096) (hs:∀s∈l,s.size<=128):enc l=(if(encB 1 l).length<(encB 0 l).length then encB 1 l else encB 0 l,0):=by
 unfold enc;rw[Vad]
 ·split<;>rfl
 ·rintro(h|⟨s,h1,h2⟩)
  ·omega
  ·have:=hs s h1;omega
theorem Z0g {l:List ByteArray} (hl:l.length<=4096) (hs:∀s∈l,s.size<=128):∃c,c<=1/\enc l=(encB c l,0):=by
 rw[Zcb hl hs];split
 ·exact⟨1,by omega,rfl⟩
 ·exact⟨0,by omega,rfl⟩
theorem Zfs {c:Nat} {l:List ByteArray} (hc:c<=1) (hl:l.length<=4096) (hs:∀s∈l,s.size<=128) (most:Int):
  dec (encB c l) most=if(enc l).1≠encB c l then([],12) else if most<(l.length:Int) then([],2) else(l,0):=by
 have h1:=Ze6 c hc l hl hs (Zfr c l hl);unfold dec;rw[h1];simp only;have h2:(enc l).2=0:=(by rw[Zcb hl hs]);rw[h2];simp
theorem Z6o {l:List ByteArray} (hl:l.length<=4096) (hs:∀s∈l,s.size<=128) (most:Int):
  dec (enc l).1 most=if most<(l.length:Int) then([],2) else(l,0):=by
 obtain⟨c,hc,he⟩:=Z0g hl hs;have:=Zfs hc hl hs most;rw[he] at this⊢;simpa using this
theorem Qw (data:List UInt8) (most:Int):(dec data most=([],12)\/dec data most=([],2))\/∃l,dec data most=(l,0)/\enc l=(data,0)/\YO data=some l/\(∀x∈l,x.size<=128)/\l.length<=4096:=by
 unfold dec;match h:YO data with
 |none=>exact .inl (.inl rfl)
 |some l=>
  simp only;obtain⟨g1,g2⟩:=Z0G h;by_cases h1:(enc l).2≠0\/(enc l).1≠data
  ·rw[Vaf h1];exact .inl (.inl rfl)
  ·rw[Vad h1];by_cases h2:most<(l.length:Int)
   ·rw[Vaf h2];exact .inl (.inr rfl)
   ·rw[Vad h2];refine .inr ⟨l,rfl,?_,rfl,g1,g2⟩
    have h3:(enc l).2=0:=by
     rcases Vbm (enc l).2 with h|h
     ·exact h
     ·exact absurd (.inl (by omega)) h1
    have h4:(enc l).1=data:=by
     rcases Classical.em ((enc l).1=data) with h|h
     ·exact h
     ·exact absurd (.inr h) h1
    exact Prod.ext h4 h3
open Wv.Tm
theorem Z98 (c:Nat) {l:List ByteArray} (hl:l.length<=4096) (hs:∀s∈l,s.size<=128):(encB c l).length<=2000000:=by
 have tN:=Yl l;have h1:=Z0E c (dict l) (dict l).length (Z1v hs) (by omega);have h2:=XN (Ya c l) (λv hv=>by have:=QZ c l hl v hv;omega);have h3:=XN (cnts l) (λv hv=>by have:=Z1w l hl v hv;omega);have h4:=kof9 (encA c l).length;have h5:=Ym (dict l) l;rw[YB] at h2;rw[XH] at h3
 have h6:encB c l=YK c (dict l) (dict l).length++(num (encA c l).length++encn (Ya c l))++encn (cnts l):=by
  unfold encB YK;rw[Vbx];rfl
 rw[h6,Vab,Vab,Vab];omega
theorem Xx {l:List ByteArray} (hl:l.length<=4096) (hs:∀s∈l,s.size<=128):(enc l).1.length<=2000000:=by
 obtain⟨c,hc,he⟩:=Z0g hl hs;rw[he];exact Z98 c hl hs
def ZJ (l:List Int):List UInt8:=encn (l.map Int.toNat)
def txts (l:List Int):List ByteArray:=l.map (λg=>bs (num g.toNat))
def cod0 (l:List Int):List UInt8:=num 0++ZJ (Z6 l)
def cod1 (l:List Int):List UInt8:=num 1++num (Zm l).st.toNat++num (Zm l).f.toNat++num (Zm l).s.toNat++num (Zm l).n.toNat++text (bs (ZJ (Z6 (XW (Zm l) l))))++ZJ (Z6 (furL (Zm l) l))
def cod2 (l:List Int):List UInt8:=num 2++(enc (txts (Z6 l))).1
def codT (c:Nat) (l:List Int):List UInt8:=if c=0 then cod0 l else if c=1 then cod1 l else cod2 l
def mnT (a b:List UInt8):List UInt8:=if b.length<a.length then b else a
def encT (l:List Int):List UInt8×Nat:=if Zf l=true then(if l.length<2 then mnT (cod0 l) (cod2 l) else mnT (mnT (cod0 l) (cod1 l)) (cod2 l),0) else([],2)
theorem Y9 {l:List Int} (h:Zf l=true):(ZJ (Z6 l)).length<=600000:=by
 obtain⟨_,_,v3⟩:=Z8.1 h;have hg:=Xj h
 have:=XN ((Z6 l).map Int.toNat) (λv hv=>by
  obtain⟨g,dm,rfl⟩:=Va6.1 hv;have:=hg g dm;omega)
 rw[Vag] at this;unfold Z6 at this;rw[ZV] at this;unfold ZJ Z6;omega
theorem Z1S (l:List Int):∀s∈txts l,s.size<=9:=by
 intro s hs;obtain⟨g,_,rfl⟩:=Va6.1 hs;rw[Z0,Z7];have:=Y5 g.toNat;omega
theorem X5 (l:List Int):(txts l).length=l.length:=by simp[txts]
theorem Z7T {l:List Int} (h:Zf l=true):(enc (txts (Z6 l))).2=0/\(enc (txts (Z6 l))).1.length<=2000000:=by
 obtain⟨_,_,v3⟩:=Z8.1 h;have hl:(txts (Z6 l)).length<=4096:=(by rw[X5];unfold Z6;rw[ZV];exact v3);have hs:∀s∈txts (Z6 l),s.size<=128:=λs hs=>(by have:=Z1S _ s hs;omega);exact⟨by obtain⟨c,_,he⟩:=Z0g hl hs;rw[he],Xx hl hs⟩
def rclk (s:List UInt8):Option (Clk×List UInt8×List UInt8):=
 match rnum s 1099511627776 with
 |none=>none
 |some (a,s1)=>
  match rnum s1 1099511627776 with
  |none=>none
  |some (b,s2)=>
   match rnum s2 1099511627776 with
   |none=>none
   |some (d,s3)=>
    match rnum s3 4096 with
    |none=>none
    |some (n,s4)=>
     match ZH s4 s4.length with
     |none=>none
     |some (x,t)=>some (⟨(a:Int),(b:Int),(d:Int),(n:Int)⟩,x,t)
def finC (c:Clk) (X Y:List Int×Nat):Option (List Int):=
 if vclk c=false\/X.2≠0\/Y.2≠0 then none
 else match jnL X.1,jnL Y.1 with
  |some m,some x=>some (rebL c m x)
  |_,_=>none
def Z3V (s:List UInt8):Option (List Int):=match rclk s with
 |none=>none
 |some (c,a,t)=>finC c (decn a 4096) (decn t 4096)
def XY:List ByteArray->Option (List Int)
 |[]=>some []
 |s::r=>match rnum (toL s) 1099511627776 with
  |some (g,[])=>(XY r).map ((g:Int)::·)
  |_=>none
def Qd (data:List UInt8):Option (List Int):=match rnum data 2 with
 |none=>none
 |some (c,r)=>
  if c=0 then(if(decn r 4096).2≠0 then none else jnL (decn r 4096).1)
  else if c=1 then Z3V r
  else if(dec r 4096).2≠0 then none else match XY (dec r 4096).1 with
   |none=>none
   |some g=>jnL g
def decT (data:List UInt8) (most:Int):List Int×Nat:=match Qd data with
 |none=>([],12)
 |some l=>if(encT l).2≠0\/(encT l).1≠data then([],12) else if most<(l.length:Int) then([],2) else(l,0)
def q1 (s:ByteArray):=numR s 0 1099511627776
def q2 (s:ByteArray):=numR (q1 s).2.1 (q1 s).2.2 1099511627776
def q3 (s:ByteArray):=numR (q2 s).2.1 (q2 s).2.2 1099511627776
def q4 (s:ByteArray):=numR (q3 s).2.1 (q3 s).2.2 4096
def q5 (s:ByteArray):=ZR (q4 s).2.1 (q4 s).2.2 ((q4 s).2.1.size:Int)
theorem Zft (s:List UInt8):((q5 (bs s)).2.2≠0/\rclk s=none)\/((q5 (bs s)).2.2=0/\∃x t,rclk s=some (⟨((q1 (bs s)).1:Int),((q2 (bs s)).1:Int),((q3 (bs s)).1:Int),((q4 (bs s)).1:Int)⟩,x,t)/\(q5 (bs s)).1=bs x/\(q5 (bs s)).2.1=bs t/\x.length<=s.length/\t.length<=s.length):=by
 unfold rclk;match h1:rnum s 1099511627776 with
 |none=>
  obtain⟨e,he,hn⟩:=Y1 h1;have e1:q1 (bs s)=(0,bs s,e):=hn;have e2:q2 (bs s)=(0,bs s,e):=(by unfold q2;rw[e1];exact Xm he _);have e3:q3 (bs s)=(0,bs s,e):=(by unfold q3;rw[e2];exact Xm he _);have e4:q4 (bs s)=(0,bs s,e):=(by unfold q4;rw[e3];exact Xm he _);have e5:q5 (bs s)=(bs [],bs s,e):=(by unfold q5;rw[e4];exact YF he _);rw[e5];exact .inl ⟨he,rfl⟩
 |some (a,s1)=>
  obtain⟨fR,dC,cC⟩:=Zp h1;have e1:q1 (bs s)=(a,bs s1,0):=fR;simp only;match h2:rnum s1 1099511627776 with
  |none=>
   obtain⟨e,he,hn⟩:=Y1 h2;have e2:q2 (bs s)=(0,bs s1,e):=(by unfold q2;rw[e1];exact hn);have e3:q3 (bs s)=(0,bs s1,e):=(by unfold q3;rw[e2];exact Xm he _);have e4:q4 (bs s)=(0,bs s1,e):=(by unfold q4;rw[e3];exact Xm he _);have e5:q5 (bs s)=(bs [],bs s1,e):=(by unfold q5;rw[e4];exact YF he _);rw[e5];exact .inl ⟨he,rfl⟩
  |some (b,s2)=>
   obtain⟨jz,eG,dt⟩:=Zp h2;have e2:q2 (bs s)=(b,bs s2,0):=(by unfold q2;rw[e1];exact jz);simp only;match h3:rnum s2 1099511627776 with
   |none=>
    obtain⟨e,he,hn⟩:=Y1 h3;have e3:q3 (bs s)=(0,bs s2,e):=(by unfold q3;rw[e2];exact hn);have e4:q4 (bs s)=(0,bs s2,e):=(by unfold q4;rw[e3];exact Xm he _);have e5:q5 (bs s)=(bs [],bs s2,e):=(by unfold q5;rw[e4];exact YF he _);rw[e5];exact .inl ⟨he,rfl⟩
   |some (d,s3)=>
    obtain⟨FO,I3,tV⟩:=Zp h3;have e3:q3 (bs s)=(d,bs s3,0):=(by unfold q3;rw[e2];exact FO);simp only;match h4:rnum s3 4096 with
    |none=>
     obtain⟨e,he,hn⟩:=Y1 h4;have e4:q4 (bs s)=(0,bs s3,e):=(by unfold q4;rw[e3];exact hn);have e5:q5 (bs s)=(bs [],bs s3,e):=(by unfold q5;rw[e4];exact YF he _);rw[e5];exact .inl ⟨he,rfl⟩
    |some (n,s4)=>
     obtain⟨bo,jB,eu⟩:=Zp h4;have e4:q4 (bs s)=(n,bs s4,0):=(by unfold q4;rw[e3];exact bo);simp only;match h5:ZH s4 s4.length with
     |none=>
      obtain⟨e,he,hn⟩:=Z54 h5;have e5:q5 (bs s)=(bs [],bs s4,e):=(by unfold q5;rw[e4];exact hn);rw[e5];exact .inl ⟨he,rfl⟩
     |some (x,t)=>
      obtain⟨Dv,Wg,MJ,_⟩:=Z0F h5;have e5:q5 (bs s)=(bs x,bs t,0):=(by unfold q5;rw[e4];exact Dv);rw[e1,e2,e3,e4,e5];exact .inr ⟨rfl,x,t,rfl,rfl,rfl,by omega,by omega⟩
theorem Ziq (s:ByteArray):(q1 s).2.1.size<=s.size/\(q2 s).2.1.size<=s.size/\(q3 s).2.1.size<=s.size/\(q4 s).2.1.size<=s.size:=by
 have a1:(q1 s).2.1.size<=s.size:=X1;have a2:(q2 s).2.1.size<=(q1 s).2.1.size:=X1;have a3:(q3 s).2.1.size<=(q2 s).2.1.size:=X1;have a4:(q4 s).2.1.size<=(q3 s).2.1.size:=X1;omega
theorem Zfu {l:List Int} (h:Zf l=true):((Z6 l).map Int.toNat).length<=4096/\(∀v∈(Z6 l).map Int.toNat,v<4611686018427387904)/\((Z6 l).map Int.toNat).map Int.ofNat=Z6 l:=by
 obtain⟨_,_,v3⟩:=Z8.1 h;have hg:=Xj h;refine⟨?_,?_,?_⟩
 ·rw[Vag];unfold Z6;rw[ZV];exact v3
 ·intro v hv;obtain⟨g,h1,rfl⟩:=Va6.1 hv;have:=hg g h1;omega
 ·rw[Vb8];conv=>rhs;rw[<-List.map_id (Z6 l)]
  apply List.map_congr_left;intro g h1;have:=hg g h1;simp only[Function.comp,id];exact Int.toNat_of_nonneg this.1
theorem Z0h {l:List Int} (h:Zf l=true):decn (ZJ (Z6 l)) 4096=(Z6 l,0):=by
 obtain⟨n1,n2,n3⟩:=Zfu h;have:=Z4i _ 4096 n1 (by omega) n2;rw[n3] at this;exact this
theorem Zfv {c:Clk} {X R:List UInt8} (hc:inC c) (hX:X.length<=1000000000):
  rclk (num c.st.toNat++num c.f.toNat++num c.s.toNat++num c.n.toNat++text (bs X)++R)=some (c,X,R):=by
 obtain⟨h1,h2,h3,h4,h5,h6,h7,h8⟩:=hc;unfold rclk text;simp only[Vay];rw[ZZ _ _ (by omega) (by omega)];simp only;rw[ZZ _ _ (by omega) (by omega)];simp only;rw[ZZ _ _ (by omega) (by omega)];simp only;rw[ZZ _ _ (by omega) (by omega)];simp only;have hs:(bs X).size=X.length:=Z0 X;rw[hs,Ze];rw[Yn X _ (by rw[Vab,Vab];omega) (by omega)];simp only[Option.some.injEq,Prod.mk.injEq,and_true];obtain⟨a,b,d,n⟩:=c;simp only at h1 h2 h3 h4 h5 h6 h7 h8⊢;rw[Int.toNat_of_nonneg (by omega),Int.toNat_of_nonneg (by omega),Int.toNat_of_nonneg (by omega),Int.toNat_of_nonneg (by omega)]
theorem Z1T {c:Nat} (hc:c<=2) (r:List UInt8):Qd (num c++r)=if c=0 then(if(decn r 4096).2≠0 then none else jnL (decn r 4096).1) else if c=1 then Z3V r else if(dec r 4096).2≠0 then none else match XY (dec r 4096).1 with|none=>none|some g=>jnL g:=by
 unfold Qd;rw[ZZ c 2 hc (by omega) r];all_goals rfl
theorem Z99 {g:List Int} (h:∀x∈g,0<=x/\x<=1099511627776):XY (txts g)=some g:=by
 induction g with
 |nil=>rfl
 |cons a r ih=>
  have ha:=h a Vap;have hr:=ih (λx hx=>h x (Var _ hx));have h1:txts (a::r)=bs (num a.toNat)::txts r:=rfl
  have h2:XY (bs (num a.toNat)::txts r)=match rnum (toL (bs (num a.toNat))) 1099511627776 with
   |some (g,[])=>(XY (txts r)).map ((g:Int)::·)
   |_=>none:=rfl
  have h3:=ZZ a.toNat 1099511627776 (by omega) (by omega) [];rw[Va3] at h3;rw[h1,h2,Ze,h3,hr];simp only[Vch,Option.some.injEq,List.cons.injEq,and_true];exact Int.toNat_of_nonneg ha.1
theorem Zcc (l:List Int):cod1 l=num 1++(num (Zm l).st.toNat++num (Zm l).f.toNat++num (Zm l).s.toNat++num (Zm l).n.toNat++text (bs (ZJ (Z6 (XW (Zm l) l))))++ZJ (Z6 (furL (Zm l) l))):=by
 unfold cod1;simp only[Vay]
theorem Zir {l:List Int} (h:Zf l=true):(txts (Z6 l)).length<=4096/\∀s∈txts (Z6 l),s.size<=128:=by
 obtain⟨_,_,v3⟩:=Z8.1 h;refine⟨by rw[X5];unfold Z6;rw[ZV];exact v3,λs hs=>by have:=Z1S _ s hs;omega⟩
theorem Zcd {c:Clk} {l:List Int} (hc:vclk c=true) (h:Zf l=true) (R:List UInt8):
  Z3V (num c.st.toNat++num c.f.toNat++num c.s.toNat++num c.n.toNat++text (bs (ZJ (Z6 (XW c l))))++(ZJ (Z6 (furL c l))++R))=finC c (Z6 (XW c l),0) (decn (ZJ (Z6 (furL c l))++R) 4096):=by
 have hi:=(Yv.1 hc).1;unfold Z3V;rw[Zfv hi (by have:=Y9 (X2 hi l);omega)];simp only;rw[Z0h (X2 hi l)]
theorem Zce {l:List Int} (h:Zf l=true) (c:Nat) (hc:c<=2) (h1:c=1->2<=l.length):Qd (codT c l)=some l:=by
 have fE:c=0\/c=1\/c=2:=(by omega);rcases fE with rfl|rfl|rfl
 ·show Qd (num 0++ZJ (Z6 l))=_;rw[Z1T (by omega),Vaf rfl,Z0h h,Vad (by simp)];exact Z1a h
 ·show Qd (cod1 l)=_;have hv:=XK h (h1 rfl);have hi:=(Yv.1 hv).1;rw[Zcc,Z1T (by omega),Vad (by decide),Vaf rfl];have:=Zcd hv h [];rw[Va3] at this;rw[this,Z0h (Qp h)];unfold finC;rw[Vad (by simp[hv])];simp only;rw[Z1a (X2 hi l),Z1a (Qp h)];simp only;rw[ZhE hi h]
 ·show Qd (num 2++(enc (txts (Z6 l))).1)=_;obtain⟨t1,t2⟩:=Zir h;have MK:=Z6o t1 t2 4096;rw[Vad (by omega)] at MK;rw[Z1T (by omega),Vad (by decide),Vad (by decide),MK,Vad (by simp)];simp only;rw[Z99 (Xj h)];exact Z1a h
theorem Xy {l:List Int} (h:Zf l=true):∃c,c<=2/\(c=1->2<=l.length)/\encT l=(codT c l,0):=by
 unfold encT;rw[Vaf h];by_cases h2:l.length<2
 ·rw[Vaf h2];unfold mnT;split
  ·exact⟨2,by omega,by omega,rfl⟩
  ·exact⟨0,by omega,by omega,rfl⟩
 ·rw[Vad h2];obtain⟨z,hz⟩:∃z,mnT (cod0 l) (cod1 l)=z:=⟨_,rfl⟩;rw[hz];have h3:mnT z (cod2 l)=if(cod2 l).length<z.length then cod2 l else z:=rfl
  rw[h3];by_cases h4:(cod2 l).length<z.length
  ·rw[Vaf h4];exact⟨2,by omega,by omega,rfl⟩
  ·rw[Vad h4,<-hz];unfold mnT;by_cases h5:(cod1 l).length<(cod0 l).length
   ·rw[Vaf h5];exact⟨1,by omega,by omega,rfl⟩
   ·rw[Vad h5];exact⟨0,by omega,by omega,rfl⟩
theorem Z7U {l:List Int} (h:Zf l=false):encT l=([],2):=by
 unfold encT;rw[Vad (by rw[h];simp)]
theorem Zfw {l:List Int} (h:Zf l=true) (c:Nat) (hc:c<=2) (h1:c=1->2<=l.length) (most:Int):
  decT (codT c l) most=if(encT l).1≠codT c l then([],12) else if most<(l.length:Int) then([],2) else(l,0):=by
 have h2:(encT l).2=0:=(by obtain⟨c,_,_,he⟩:=Xy h;rw[he]);unfold decT;rw[Zce h c hc h1];simp only;rw[h2];simp
theorem Zfx {l:List Int} (h:Zf l=true) (most:Int):decT (encT l).1 most=if most<(l.length:Int) then([],2) else(l,0):=by
 obtain⟨c,hc,h1,he⟩:=Xy h;have:=Zfw h c hc h1 most;rw[he] at this⊢;simpa using this
theorem Zcf {l:List Int} (he:(encT l).2=0):Zf l=true:=by
 cases hv:Zf l with
 |true=>rfl
 |false=>rw[Z7U hv] at he;cases he
theorem Z1U (data:List UInt8) (most:Int):(decT data most=([],12)\/decT data most=([],2))\/∃l,decT data most=(l,0)/\encT l=(data,0)/\Zf l=true/\Qd data=some l/\(l.length:Int)<=most:=by
 unfold decT;match h:Qd data with
 |none=>exact .inl (.inl rfl)
 |some l=>
  simp only;by_cases h1:(encT l).2≠0\/(encT l).1≠data
  ·rw[Vaf h1];exact .inl (.inl rfl)
  ·rw[Vad h1]
   have h3:(encT l).2=0:=by
    rcases Vbm (encT l).2 with h|h
    ·exact h
    ·exact absurd (.inl (by omega)) h1
   have h4:(encT l).1=data:=by
    rcases Classical.em ((encT l).1=data) with h|h
    ·exact h
    ·exact absurd (.inr h) h1
   by_cases h2:most<(l.length:Int)
   ·rw[Vaf h2];exact .inl (.inr rfl)
   ·rw[Vad h2];exact .inr ⟨l,rfl,Prod.ext h4 h3,Zcf h3,rfl,by omega⟩
open Wv.Bc
def cbit (c:UInt8):List Bool:=[decide (2<=cd c),decide (cd c % 2=1)]
def Xd (v:List UInt8):List Bool:=v.flatMap cbit
def ZG (l:List ByteArray):List Bool:=l.flatMap (λv=>Xd (toL v))
theorem Qe (v:List UInt8):(Xd v).length=2*v.length:=by
 unfold Xd;induction v with
 |nil=>rfl
 |cons c r ih=>rw[Vb0,Vab,ih,Vaz];simp[cbit];omega
theorem Zcg {w:Int} {l:List ByteArray} (h:∀v∈l,vld w (toL v)=true):((ZG l).length:Int)=2*(l.length*w):=by
 unfold ZG;induction l with
 |nil=>simp
 |cons v r ih=>
  have hv:=(ZM.1 (h v Vap)).2;have i1:=ih (λx hx=>h x (Var _ hx));rw[Vb0,Vab,Qe,Vaz];rw[Vcq,i1,Vb1,hv,Vcq,Vcu];omega
def codP (l:List ByteArray):Option (List UInt8):=if 65536<(ZG l).length then none else some (num l.length++toL (Bit.bstr (ZG l)))
def codC (l:List ByteArray):List UInt8:=num l.length++if l=[] then[] else
 text (bs (shr (toL (l.getD 0 default))))++text (bs (shr (toL (Zx l))))++text (bs (ZJ (Z6 (exI l (Zx l)))))++(enc (ZF (atI l (exI l (Zx l))))).1
def codM (w:Int) (l:List ByteArray):List UInt8:=(enc (ZF (mixL (bs (allV w 48)) l))).1
def codW (l:List ByteArray):List UInt8:=(enc (ZF l)).1
def codB (c:Nat) (w:Int) (l:List ByteArray):Option (List UInt8):=if c=0 then codP l else if c=1 then some (codC l) else if c=2 then some (codM w l) else some (codW l)
def Zch (c w:Int) (l:List ByteArray):List UInt8×Nat:=if c<0\/3<c then([],1) else if Zz w l=false then([],2) else match codB c.toNat w l with
 |none=>([],9)
 |some s=>(num c.toNat++s,0)
def bstB (w:Int) (l:List ByteArray):Nat->List UInt8
 |0=>[]
 |i+1=>match codB i w l with
  |none=>bstB w l i
  |some s=>if bstB w l i=[]\/(num i++s).length<(bstB w l i).length then num i++s else bstB w l i
def ZW (w:Int) (l:List ByteArray):List UInt8×Nat:=if Zz w l=false then([],2) else(bstB w l 4,0)
def valOf:Nat->List Bool->List UInt8
 |0,_=>[]
 |k+1,b=>ch (2*(b.getD 0 false).toNat+(b.getD 1 false).toNat)::valOf k (b.drop 2)
def QH (w:Nat):Nat->List Bool->List ByteArray
 |0,_=>[]
 |n+1,b=>bs (valOf w b)::QH w n (b.drop (2*w))
def Z1V (w:Int) (s:List UInt8):Option (List ByteArray):=match rnum s 4096 with
 |none=>none
 |some (n,r)=>match Bit.nrd (bs r) with
  |none=>none
  |some k=>if(k:Int)=2*n*w then some (QH w.toNat n (Bit.rbits (bs r) k)) else none
def atS:Int->List Int->List Int
 |_,[]=>[]
 |last,g::r=>(last+1+g)::atS (last+1+g) r
def look:List Int->List ByteArray->Int->Option ByteArray
 |i::x,v::r,k=>if i=k then some v else look x r k
 |_,_,_=>none
def runB (x:List Int) (vs:List ByteArray) (st:ByteArray):Nat->Nat->ByteArray->Option (List ByteArray)
 |0,_,_=>some []
 |k+1,i,last=>match look x vs (i:Int) with
  |some v=>(runB x vs st k (i+1) v).map (v::·)
  |none=>if(addV (toL last) (toL st)).2=true then(runB x vs st k (i+1) (bs (addV (toL last) (toL st)).1)).map (bs (addV (toL last) (toL st)).1::·) else none
def YG (w:Int) (s:List UInt8):Option (List ByteArray):=match rnum s 4096 with
  |none=>none
  |some (n,s1)=>if n=0 then(if s1=[] then some [] else none) else match ZH s1 128 with
    |none=>none
    |some (f,s2)=>match ZH s2 128 with
      |none=>none
      |some (st,s3)=>match ZH s3 s3.length with
        |none=>none
        |some (a,s4)=>if(decn a 4096).2≠0\/(dec s4 4096).2≠0 then none else match extL w (dec s4 4096).1,extL w [bs f] with
          | some vs, some q => if (decn a 4096).1.length ≠ vs.length then none else
              if st≠[]/\(ext w st).2≠0 then none else
              if(∀g∈(decn a 4096).1,g<(n:Int)) then(runB (atS (-1) (decn a 4096).1) vs (bs (if st=[] then[] else(ext w st).1)) (n-1) 1 (q.getD 0 default)).map (q.getD 0 default::·) else none
          |_,_=>none
def Xn (w:Int) (s:List UInt8):Option (List ByteArray):=if(dec s 4096).2≠0 then none else extL w (dec s 4096).1
def Z1W (w:Int) (data:List UInt8):Option (List ByteArray):=match rnum data 3 with
 |none=>none
 |some (c,r)=>if c=0 then Z1V w r else if c=1 then YG w r else if c=2 then(Xn w r).map (Y4 (bs (allV w 48))) else Xn w r
def okB (w:Int) (data:List UInt8) (most:Int) (o:Option (List ByteArray)):List ByteArray×Nat:=match o with
 |none=>([],12)
 |some l=>if(ZW w l).2≠0\/(ZW w l).1≠data then([],12) else if most<(l.length:Int) then([],2) else(l,0)
def decB (w:Int) (data:List UInt8) (most:Int):List ByteArray×Nat:=if w<1\/128<w then([],1) else okB w data most (Z1W w data)
theorem Zfy {c:UInt8} (h:cd c<4) (r:List Bool):ch (2*((cbit c++r).getD 0 false).toNat+((cbit c++r).getD 1 false).toNat)=c/\(cbit c++r).drop 2=r:=by
 refine⟨?_,rfl⟩;have hc:=ZjP c h;rcases(show cd c=0\/cd c=1\/cd c=2\/cd c=3 by omega) with h0|h0|h0|h0
 all_goals
  rw[h0] at hc;unfold cbit;rw[h0];exact hc
theorem Z2S:∀(v:List UInt8) (r:List Bool),(∀c∈v,cd c<4)->valOf v.length (Xd v++r)=v
 |[],r,_=>rfl
 |c::v,r,h=>by
  have hc:=h c Vap;have e:Xd (c::v)++r=cbit c++(Xd v++r):=(by unfold Xd;rw[Vb0,Vay]);obtain⟨h1,h2⟩:=Zfy hc (Xd v++r);rw[Vaz,e];show ch _::valOf v.length ((cbit c++(Xd v++r)).drop 2)=_;rw[h1,h2,Z2S v r (λx hx=>h x (Var _ hx))]
theorem Z1X (w:Nat):∀(l:List ByteArray) (r:List Bool),(∀v∈l,vld (w:Int) (toL v)=true)->QH w l.length (ZG l++r)=l
 |[],r,_=>rfl
 |v::l,r,h=>by
  have hv:=ZM.1 (h v Vap);have hw:(toL v).length=w:=(by have:=hv.2;omega);have e:ZG (v::l)++r=Xd (toL v)++(ZG l++r):=(by unfold ZG;rw[Vb0,Vay]);rw[Vaz,e];show bs (valOf w _)::QH w l.length (_:List Bool)=_;have h1:=Z2S (toL v) (ZG l++r) (Zv.1 hv.1).1;rw[hw] at h1
  have h2:(Xd (toL v)++(ZG l++r)).drop (2*w)=ZG l++r:=by
   rw[<-hw,<-Qe];exact Vcn
  rw[h1,h2,Z1X w l r (λx hx=>h x (Var _ hx)),Zc]
theorem Z9a {w:Int} {l:List ByteArray} (h:Zz w l=true) {s:List UInt8} (hs:codP l=some s):Z1V w s=some l:=by
 obtain⟨h1,h2,h3,h4⟩:=ZA.1 h;unfold codP at hs;split at hs
 ·cases hs
 ·rename_i hb;injection hs with hs;subst hs;have cD:=Zcg h1;obtain⟨n1,n2⟩:=Bit.nrd_bstr (ZG l) (by omega);unfold Z1V;rw[ZZ _ _ h4 (by omega)];simp only[Zc];rw[n1];simp only;rw[Vaf (by rw[cD,Int.mul_assoc]),n2];have:=Z1X w.toNat l [] (λv hv=>by rw[Int.toNat_of_nonneg (by omega)];exact h1 v hv);rw[Va3] at this;rw[this]
theorem XP {l:List ByteArray} (h:l.length<=4096):(ZF l).length<=4096/\∀s∈ZF l,s.size<=128:=by
 unfold ZF;refine⟨by rw[Vag];exact h,λs hs=> ?_⟩;obtain⟨v,_,rfl⟩:=Va6.1 hs;rw[Z0];exact Y0 _
theorem Qf {l:List ByteArray} (h:l.length<=4096):dec (enc (ZF l)).1 4096=(ZF l,0)/\(enc (ZF l)).2=0:=by
 obtain⟨s1,s2⟩:=XP h;refine⟨?_,by obtain⟨c,_,he⟩:=Z0g s1 s2;rw[he]⟩;rw[Z6o s1 s2,Vad (by omega)]
theorem Z2T {w:Int} {l:List ByteArray} (h1:∀v∈l,vld w (toL v)=true) (h4:l.length<=4096):Xn w (enc (ZF l)).1=some l:=by
 unfold Xn;obtain⟨d1,_⟩:=Qf h4;rw[d1,Vad (by simp)];exact Z0z h1
theorem Zkn (x:List Int):∀last,atS last (gp last x)=x:=by
 induction x with
 |nil=>intro _;rfl
 |cons t r ih=>
  intro last;show(last+1+(t-last-1))::atS (last+1+(t-last-1)) (gp t r)=_;rw[show last+1+(t-last-1)=t by omega,ih]
theorem Zis (l:List ByteArray) (k:Int):∀x:List Int,look x (atI l x) k=if k∈x then some (l.getD k.toNat default) else none:=by
 intro x;induction x with
 |nil=>rfl
 |cons i r ih=>
  show(if i=k then some (l.getD i.toNat default) else look r (atI l r) k)=_;by_cases h:i=k
  ·rw[Vaf h,h,Vaf Vap]
  ·rw[Vad h,ih];by_cases h2:k∈r
   ·rw[Vaf h2,Vaf (Var _ h2)]
   ·rw[Vad h2,Vad (λh3=>(Vba.1 h3).elim (λe=>h e.symm) h2)]
theorem Zit {l:List ByteArray} {st:ByteArray} {i:Nat} (h1:1<=i) (h2:i<l.length):(i:Int)∈exI l st↔okA l st (i-1)=false:=by
 unfold exI exP;constructor
 ·intro h;obtain⟨j,hj,e⟩:=Va6.1 h;have:j=i-1:=(by omega);subst this;simpa using (List.mem_filter.1 hj).2
 ·intro h;refine Va6.2 ⟨i-1,List.mem_filter.2 ⟨List.mem_range.2 (by omega),by simp[h]⟩,by omega⟩
theorem Zfz (l:List ByteArray) (st:ByteArray):∀(k i:Nat),1<=i->i+k=l.length->runB (exI l st) (atI l (exI l st)) st k i (l.getD (i-1) default)=some (l.drop i):=by
 intro k;induction k with
 |zero=>intro i _ h;rw[Vbf (by omega)];rfl
 |succ k ih=>
  intro i h1 h2;have bu:i<l.length:=(by omega);have hd:l.drop i=l[i]::l.drop (i+1):=Va4 bu;have hg:l.getD i default=l[i]:=(by simp[List.getD,bu]);have hn:=ih (i+1) (by omega) (by omega);rw[Vb7,hg] at hn;unfold runB;rw[Zis];by_cases hm:(i:Int)∈exI l st
  ·rw[Vaf hm];simp only[Vav];rw[hg,hn,hd];rfl
  ·rw[Vad hm];simp only
   have bH:okA l st (i-1)=true:=by
    cases h:okA l st (i-1) with
    |true=>rfl
    |false=>exact absurd ((Zit h1 bu).2 h) hm
   unfold okA at bH;rw[Vas] at bH;rw[show i-1+1=i by omega,hg] at bH;rw[bH,Vaf rfl];simp only[Zc];rw[hn,hd];rfl
theorem Z0i {l:List ByteArray} (h:l.length<=4096) (st:ByteArray):Zf (exI l st)=true:=by
 unfold exI;refine Z8.2 ⟨Z8F _ _ _,λt ht=> ?_,?_⟩
 ·have:=Zb7 t ht;omega
 ·have:=Z61 l st (l.length-1);omega
theorem Z1Y (l:List ByteArray):(toL (Zx l)=[])\/(l≠[]/\Zz ((l.getD 0 default).size:Int) l=true/\knV (toL (Zx l))=true/\Zx l∈difs l):=by
 unfold Zx;by_cases h:l=[]\/Zz ((l.getD 0 default).size:Int) l=false
 ·rw[Vaf h];exact .inl rfl
 ·rw[Vad h];simp only[not_or,Bool.not_eq_false] at h
  have key:∀(ds:List ByteArray) (F:ByteArray->Nat) (p:ByteArray×Nat),(ds.foldl (Yi F) p).1=p.1\/(ds.foldl (Yi F) p).1∈ds:=by
   intro ds F;induction ds with
   |nil=>intro p;exact .inl rfl
   |cons a r ih=>
    intro p;rcases ih (Yi F p a) with h1|h1
    ·have e:(List.foldl (Yi F) p (a::r)).1=(Yi F p a).1:=h1;rw[e];by_cases hc:p.2<F a
     ·have e2:Yi F p a=(a,F a):=(by unfold Yi;rw[Vaf hc]);rw[e2];exact .inr Vap
     ·have e2:Yi F p a=p:=(by unfold Yi;rw[Vad hc]);rw[e2];exact .inl rfl
    ·exact .inr (Var _ h1)
  rcases key (difs l) (λd=>(difs l).count d) (bs [],0) with h1|h1
  ·left;unfold stepOf;rw[h1];rfl
  ·right;exact⟨h.1,h.2,Zb5 _ h1,h1⟩
theorem Zlg {M:Int} {l:List Int} :∀ {last:Int},-1<=last->tv last l=true->(∀t∈l,t<=M)->∀g∈gp last l,g<=M:=by
 induction l with
 |nil=>intro _ _ _ _ g hg;cases hg
 |cons a r ih=>
  intro last h0 h hM g hg;obtain⟨h1,h2,h3⟩:=Q9.1 h;rcases Vba.1 hg with rfl|hg
  ·have:=hM a Vap;omega
  ·exact ih (by omega) h3 (λt ht=>hM t (Var _ ht)) g hg
theorem Z7V {w:Int} {l:List ByteArray} (h:Zz w l=true):toL (Zx l)=[]\/(vld w (toL (Zx l))=true/\shr (toL (Zx l))≠[]):=by
 obtain⟨h1,h2,h3,h4⟩:=ZA.1 h;rcases Z1Y l with h5|⟨h5,_,h6,h7⟩
 ·exact .inl h5
 ·right;refine⟨ZM.2 ⟨Z3p h6,?_⟩,(Zau _).2 (Z3p h6)⟩;unfold difs difP at h7;obtain⟨j,hj,e⟩:=List.mem_filterMap.1 h7;have tM:=List.mem_range.1 hj;unfold dAt at e;split at e
  ·rename_i hc;injection e with e;rw[<-e,Ze];have hk:=(Z2C (Prod.ext rfl hc)).2;rw[hk];have cN:j<l.length:=(by omega);have hg:l.getD j default=l[j]:=(by simp[List.getD,cN]);rw[hg];exact(ZM.1 (h1 _ (Vak _))).2
  ·cases e
theorem Ziu (X:List UInt8):text (bs X)=num X.length++X:=rfl
theorem Zh1 {l:List ByteArray} {x:List Int} (h:∀i∈x,0<=i/\i<(l.length:Int)):∀v∈atI l x,v∈l:=by
 intro v hv;obtain⟨i,hi,rfl⟩:=Va6.1 hv;have:=h i hi;have hl:i.toNat<l.length:=(by omega);have hg:l.getD i.toNat default=l[i.toNat]:=(by simp[List.getD,hl]);rw[hg];exact Vak _
theorem Zci {l:List ByteArray} {st:ByteArray} :∀i∈exI l st,0<=i/\i<(l.length:Int):=by
 intro i hi;have:=Zb7 i hi;unfold exI at hi;have h2:=Zb7 i hi;omega
theorem Z6p (l:List ByteArray) (st:ByteArray):(exI l st).length<=l.length-1:=Z61 _ _ _
theorem Z9b {w:Int} {l:List ByteArray} (h:Zz w l=true):YG w (codC l)=some l:=by
  obtain⟨h1,h2,h3,h4⟩:=ZA.1 h;unfold YG codC;rw[ZZ _ _ h4 (by omega)];simp only;by_cases h0:l=[]
  · subst h0
    rfl
  · rw[Vad h0,Vad (λe=>h0 (Vaj e))]
    obtain⟨v0,r,hl⟩:∃v r,l=v::r:=by cases l with|nil=>exact absurd rfl h0|cons v r=>exact⟨v,r,rfl⟩
    have qV:l.getD 0 default=v0:=(by rw[hl];rfl);have hv:=h1 v0 (by rw[hl];exact Vap);have sB:=Z0i h4 (Zx l);have dR:=Z6p l (Zx l);have od:=Y9 sB;simp only[Ziu,Vay];have k1:=Y0 (toL (l.getD 0 default));have k2:=Y0 (toL (Zx l));rw[Yn _ _ k1 (by omega)];simp only;rw[Yn _ _ k2 (by omega)];simp only;rw[Yn _ _ (by rw[Vab,Vab];omega) (by omega)];simp only;have kG:(atI l (exI l (Zx l))).length<=4096:=(by unfold atI;rw[Vag];omega);obtain⟨d1,_⟩:=Qf kG;rw[d1,Z0h sB,Vad (by simp)];simp only;rw[Z0z (λv bj=>h1 v (Zh1 Zci v bj))]
    have aQ:extL w [bs (shr (toL (l.getD 0 default)))]=some [v0]:=by
      rw[qV];exact Z0z (l:=[v0]) (λv bj=>by rw[Vax] at bj;rw[bj];exact hv)
    rw[aQ];simp only;have rp:(Z6 (exI l (Zx l))).length=(atI l (exI l (Zx l))).length:=(by unfold Z6 atI;rw[ZV,Vag])
    have al:¬(shr (toL (Zx l))≠[]/\(ext w (shr (toL (Zx l)))).2≠0):=by
      rintro⟨e1,e2⟩;rcases Z7V h with h5|⟨h5,_⟩
      · rw[h5] at e1;exact e1 rfl
      · have:=Z5V (ZM.1 h5).1
        rw[(ZM.1 h5).2] at this;rw[this] at e2;exact e2 rfl
    have tW:bs (if shr (toL (Zx l))=[] then[] else(ext w (shr (toL (Zx l)))).1)=Zx l:=by
      rcases Z7V h with h5|⟨h5,h6⟩
      · rw[h5]
        have:Zx l=bs []:=(by rw[<-Zc (Zx l),h5]);rw[this];rfl
      · rw[Vad h6]
        have:=Z5V (ZM.1 h5).1;rw[(ZM.1 h5).2] at this;rw[this,Zc]
    have AG:∀g∈Z6 (exI l (Zx l)),g<(l.length:Int):=by
      intro g hg;have vU:=sB;unfold Zf at vU;rw[Va1] at vU;have:=Zlg (M:=(l.length:Int)-1) (by omega) vU.1 (λt ht=>by have:=Zci t ht;omega) g hg;omega
    rw[Vad (by rw[rp];simp),Vad al,Vaf AG,tW];have ak:atS (-1) (Z6 (exI l (Zx l)))=exI l (Zx l):=Zkn _ _;rw[ak]
    have ag:=Zfz l (Zx l) (l.length-1) 1 (by omega) (by(have:0<l.length:=by rw[hl];simp);omega)
    rw[Va7,qV] at ag;show(runB _ _ _ _ _ v0).map (v0::·)=_;rw[ag,hl];rfl
theorem ZfA {w:Int} {l:List ByteArray} (h:Zz w l=true):(∀v∈mixL (bs (allV w 48)) l,vld w (toL v)=true)/\Y4 (bs (allV w 48)) (mixL (bs (allV w 48)) l)=l:=by
 obtain⟨h1,h2,h3,h4⟩:=ZA.1 h;exact Z8G (by rw[Ze];exact Zb8 h2 h3) h1
theorem Zcj {w:Int} {l:List ByteArray} (h:Zz w l=true) {c:Nat} (hc:c<=3) {s:List UInt8} (hs:codB c w l=some s):Z1W w (num c++s)=some l:=by
 obtain⟨h1,h2,h3,h4⟩:=ZA.1 h;unfold Z1W;rw[ZZ _ _ hc (by omega)];simp only;rcases(show c=0\/c=1\/c=2\/c=3 by omega) with rfl|rfl|rfl|rfl
 ·rw[Vaf rfl];exact Z9a h hs
 ·rw[Vad (by decide),Vaf rfl];have:codB 1 w l=some (codC l):=rfl;rw[this] at hs;injection hs with hs;subst hs;exact Z9b h
 ·rw[Vad (by decide),Vad (by decide),Vaf rfl];have:codB 2 w l=some (codM w l):=rfl;rw[this] at hs;injection hs with hs;subst hs;obtain⟨m1,m2⟩:=ZfA h;unfold codM;rw[Z2T m1 (by rw[Z08];exact h4)];show some (Y4 _ _)=_;rw[m2]
 ·rw[Vad (by decide),Vad (by decide),Vad (by decide)];have:codB 3 w l=some (codW l):=rfl;rw[this] at hs;injection hs with hs;subst hs;exact Z2T h1 h4
theorem Z2U (w:Int) (l:List ByteArray):∀k,bstB w l k=[]\/∃c s,c<k/\codB c w l=some s/\bstB w l k=num c++s:=by
 intro k;induction k with
 |zero=>exact .inl rfl
 |succ k ih=>
  have e:bstB w l (k+1)=match codB k w l with
   |none=>bstB w l k
   |some s=>if bstB w l k=[]\/(num k++s).length<(bstB w l k).length then num k++s else bstB w l k:=rfl
  rw[e];match hk:codB k w l with
  |none=>
   simp only;rcases ih with h|⟨c,s,h1,h2,h3⟩
   ·exact .inl h
   ·exact .inr ⟨c,s,by omega,h2,h3⟩
  |some s=>
   simp only;split
   ·exact .inr ⟨k,s,by omega,hk,rfl⟩
   ·rcases ih with h|⟨c,s',h1,h2,h3⟩
    ·exact .inl h
    ·exact .inr ⟨c,s',by omega,h2,h3⟩
theorem Zck (n:Nat) (s:List UInt8):num n++s≠[]:=λh=>by
 have:=congrArg List.length h;rw[Vab,Z7] at this;simp at this
theorem Z0H {w:Int} {l:List ByteArray} (h:Zz w l=true):∃c s,c<=3/\codB c w l=some s/\ZW w l=(num c++s,0):=by
 unfold ZW;rw[Vad (by rw[h];simp)];rcases Z2U w l 4 with h1|⟨c,s,h1,h2,h3⟩
 ·exfalso;have e:bstB w l 4=if bstB w l 3=[]\/(num 3++codW l).length<(bstB w l 3).length then num 3++codW l else bstB w l 3:=rfl
  rw[e] at h1;split at h1
  ·exact Zck _ _ h1
  ·rename_i h2;exact h2 (.inl h1)
 ·exact⟨c,s,by omega,h2,by rw[h3]⟩
theorem ZfB {w:Int} {l:List ByteArray} (h:Zz w l=false):ZW w l=([],2):=by unfold ZW;rw[Vaf h]
theorem Z9c {w:Int} {l:List ByteArray} (h:(ZW w l).2=0):Zz w l=true:=by
 cases hv:Zz w l with
 |true=>rfl
 |false=>rw[ZfB hv] at h;cases h
theorem ZfC {w:Int} {l:List ByteArray} (h:Zz w l=true) {c:Nat} (hc:c<=3) {s:List UInt8} (hs:codB c w l=some s) (most:Int):
  decB w (num c++s) most=if(ZW w l).1≠num c++s then([],12) else if most<(l.length:Int) then([],2) else(l,0):=by
 obtain⟨h1,h2,h3,h4⟩:=ZA.1 h;have h5:(ZW w l).2=0:=(by obtain⟨c,s,_,_,he⟩:=Z0H h;rw[he]);unfold decB okB;rw[Vad (by omega),Zcj h hc hs];simp only;rw[h5];simp
theorem ZfD {w:Int} {l:List ByteArray} (h:Zz w l=true) (most:Int):decB w (ZW w l).1 most=if most<(l.length:Int) then([],2) else(l,0):=by
 obtain⟨c,s,hc,hs,he⟩:=Z0H h;have:=ZfC h hc hs most;rw[he] at this⊢;simpa using this
theorem Z6q (w:Int) (data:List UInt8) (most:Int):((w<1\/128<w)/\decB w data most=([],1))\/(1<=w/\w<=128/\(decB w data most=([],12)\/decB w data most=([],2)))\/∃l,decB w data most=(l,0)/\ZW w l=(data,0)/\Zz w l=true/\(l.length:Int)<=most:=by
 unfold decB;by_cases hw:w<1\/128<w
 ·rw[Vaf hw];exact .inl ⟨hw,rfl⟩
 ·rw[Vad hw];right;unfold okB;match h:Z1W w data with
  |none=>exact .inl ⟨by omega,by omega,.inl rfl⟩
  |some l=>
   simp only;by_cases h1:(ZW w l).2≠0\/(ZW w l).1≠data
   ·rw[Vaf h1];exact .inl ⟨by omega,by omega,.inl rfl⟩
   ·rw[Vad h1];simp only[not_or,Decidable.not_not] at h1;by_cases h2:most<(l.length:Int)
    ·rw[Vaf h2];exact .inl ⟨by omega,by omega,.inr rfl⟩
    ·rw[Vad h2];exact .inr ⟨l,rfl,Prod.ext h1.2 h1.1,Z9c h1.1,by omega⟩
end Go.Proofs.YtchokmkfobandaaGreatDoor
namespace Go.Proofs.YtchokmkfobandaaGreatDoor
open Go.RowKit Go.Proofs Wv Wv.Vi Wv.Rc Wv.Mo Wv.Ru Wv.Bc
theorem Yb {w:World} {A:Option Addr} {l:List ByteArray} (h:At w A (svs l)) (i:Nat) (hi:i<l.length):∃b o,A=some ⟨b,o,none⟩/\b<w.heap.size/\w.cell? ⟨b,o+i,none⟩=some (.string l[i]):=
 h.get i _ (Yr l i hi)
theorem Z0I {w:World} {A:Option Addr} {l:List ByteArray} (ha:At w A (svs l)) (ad:∀s∈l,s.size<=1099511627776) (n cap:Nat) (hn:n=l.length) (hm:n<=9223372036854775807) (W:Int):
  Calls Tryz.prog 56 #[.int .i64 W,.slice A n cap] w λx w'=>x=.returned (.bool (Zz W l))/\Below w.heap.size w w':=by
 have Ha:=h_ ha
 have Hv:=h_ (λ(v:ByteArray) (hv:v∈l) W2=>(by
  have:=Z63 W (toL v) (by rw[Z1];exact ad v hv) W2;rw[Zc] at this;exact this:Calls Tryz.prog 75 #[.int .i64 W,.string v] W2 λx w'=>x=.returned (.bool (vld W (toL v)))/\Below W2.heap.size W2 w'))
 have aB:=h_ (Vae w.heap.size w);have Hn:=h_ hn;clear ha ad hn;go_enter Tryz.func56,Tryz.ntmps56;go_wp2;go_loopw [9] (λs9 wr=>∃j:Nat,j<=n/\s9=.int .i64 (j:Int)/\Hid (∀v∈l.take j,vld W (toL v)=true)/\Hid (Below w.heap.size w wr)) (λs9 _=>(n-intOf s9).toNat);case atStart=>exact⟨0,Vat _,rfl,h_ (by simp),aB⟩
 case round=>
  clear aB;obtain⟨j,hj,rfl,ar,hb⟩:=hrel;by_cases ab:j<n
  ·have cN:j<l.length:=(by rw[<-Hn.o];exact ab);obtain⟨b,o,rfl,cD,hc⟩:=Yb (Ha.o.below hb.o) j cN;have cI:=h_ (Hv.o l[j] (Vak _));have cw:l.take (j+1)=l.take j++[l[j]]:=Vac cN;have nk:=h_ (Vak cN);obtain⟨S,hS⟩:∃S,l[j]=S:=⟨_,rfl⟩;rw[hS] at hc cI cw nk;have gU:=h_ cw;clear cw hS cN;cases hv:vld W (toL S) with
   |true=>
    rw[hv] at cI
    have q7:=h_ (show ∀v∈l.take (j+1),vld W (toL v)=true from λv hm=>by
     rw[gU.o,Va9,Vax] at hm;rcases hm with hm|rfl
     ·exact ar.o v hm
     ·exact hv)
    clear ar gU hv;go_wp2_with fail;refine(cI.o _).mono ?_;rintro x w1 ⟨rfl,a7⟩;have an:=h_ (hb.o.trans (a7.mono hb.o.size));clear a7 cI hb;go_wp2;refine⟨⟨j+1,ab,by go_num,q7,an⟩,?_⟩;simp[intOf]<;>omega
   |false=>
    rw[hv] at cI
    have aG:=h_ (show Zz W l=false by
     cases h:Zz W l with
     |false=>rfl
     |true=>
      have:=(ZA.1 h).1 S nk.o;rw[hv] at this;cases this)
    clear ar gU hv;go_wp2_with fail;refine(cI.o _).mono ?_;rintro x w1 ⟨rfl,a7⟩;have an:=h_ (hb.o.trans (a7.mono hb.o.size));clear a7 cI hb;go_wp2;go_returns;exact⟨by rw[aG.o];rfl,an.o⟩
  ·have iB:j=n:=(by omega);have iG:=ar.o;rw[iB,Vah (by rw[Hn.o];exact UZz)] at iG
   have fp:Zz W l=(decide (1<=W)&&decide (W<=128)&&decide (n<=4096)):=by
    unfold Zz;rw[<-Hn.o,Vbv.2 iG,Bool.true_and]
   have aG:=h_ fp;clear ar iG fp Hv;by_cases h1:1<=W
   ·by_cases h2:W<=128
    ·by_cases h3:(n:Int)<=4096
     ·have I4:n<=4096:=(by omega);rw[Vao h1,Vao h2,Vao I4] at aG;go_wp2;go_returns;exact⟨by rw[aG.o];rfl,hb.o⟩
     ·have I4:¬n<=4096:=(by omega);rw[Vao h1,Vao h2,Vai I4] at aG;go_wp2;go_returns;exact⟨by rw[aG.o];rfl,hb.o⟩
    ·rw[Vao h1,Vai h2] at aG;go_wp2;go_returns;exact⟨by rw[aG.o];rfl,hb.o⟩
   ·rw[Vai h1] at aG;go_wp2;go_returns;exact⟨by rw[aG.o];rfl,hb.o⟩
theorem Z6r (l:List ByteArray):(svs l).length=l.length:=by unfold svs;rw[Vag]
def Qg (F:ByteArray->ByteArray) (l:List ByteArray) (i:Nat):List ByteArray:=(l.take i).map F++List.replicate (l.length-i) ⟨#[]⟩
theorem Z5a (F:ByteArray->ByteArray) (l:List ByteArray) (i:Nat) (hi:i<=l.length):(Qg F l i).length=l.length:=by
 unfold Qg;rw[Vab,Vag,Vau,Vaw];omega
theorem Z5b (F:ByteArray->ByteArray) (l:List ByteArray) (i:Nat) (hi:i<l.length):(Qg F l i).set i (F l[i])=Qg F l (i+1):=by
 have hz:((l.take i).map F).length=i:=(by rw[Vag,Vau];omega);unfold Qg;rw[Va8 _ _ (by omega),hz,Va7,Vac hi,Vbk,show l.length-i=(l.length-(i+1))+1 by omega,Vbg,List.set_cons_zero];simp
theorem Z5c (F:ByteArray->ByteArray) (l:List ByteArray):Qg F l l.length=l.map F:=by
 unfold Qg;rw[Vbx,Va7,List.replicate_zero,Va3]
theorem Zcl (F:ByteArray->ByteArray) (l:List ByteArray):(svs (Qg F l 0)).toArray=Array.replicate l.length (.string ⟨#[]⟩:Value):=by
 unfold Qg;rw[Vbw,List.map_nil,Vbz,Nat.sub_zero];unfold svs;rw[List.map_replicate];rfl
theorem Z1Z {w:World} {g:Nat} {t:TypeId} {l:List ByteArray} (h:Bk w g t (svs l).toArray) (i:Nat) (x:ByteArray):Bk (w.setCell ⟨g,i,none⟩ (.string x)) g t (svs (l.set i x)).toArray:=by
 have:=h.put i (.string x);rw[List.setIfInBounds_toArray] at this;unfold svs at this⊢;rw[List.map_set];exact this
theorem Z0J {w:World} {A:Option Addr} {l:List ByteArray} (ha:At w A (svs l)) (ad:∀s∈l,s.size<=1099511627776) (n cap:Nat) (hn:n=l.length) (hm:n<=1099511627776):
  Calls Tryz.prog 169 #[.slice A n cap] w λx w'=>∃g,x=.returned (.slice (some ⟨g,0,none⟩) n n)/\w.heap.size<=g/\g<w'.heap.size/\At w' (some ⟨g,0,none⟩) (svs (ZF l))/\Below w.heap.size w w':=by
 have Ha:=h_ ha
 have Hv:=h_ (λ(v:ByteArray) (hv:v∈l) W2=>(by
  have:=Z2F (toL v) (by rw[Z1];exact ad v hv) W2;rw[Zc] at this;exact this:Calls Tryz.prog 97 #[.string v] W2 λx w'=>x=.returned (.string (bs (shr (toL v))))/\Below W2.heap.size W2 w'))
 have bG:=Yg (P:=Tryz.prog) 64 9 (.string ⟨#[]⟩) 16 Tryz.underlying64 YC rfl (n:Int) n rfl (by omega) (by omega) w;have cj:=Bk.new w 9 (Array.replicate n (.string ⟨#[]⟩));have aB:=h_ (Zy w (.cells (Array.replicate n (.string ⟨#[]⟩)) 9));have fQ:Array.replicate n (.string ⟨#[]⟩:Value)=(svs (Qg (λv=>bs (shr (toL v))) l 0)).toArray:=(by rw[hn,Zcl]);have jX:=h_ fQ;have dP:w.heap.size<(w.alloc (.cells (Array.replicate n (.string ⟨#[]⟩)) 9)).heap.size:=(by rw[World.size_alloc];omega);have dy:=h_ cj;have Tc:=h_ dP;have Hn:=h_ hn;generalize w.alloc (.cells (Array.replicate n (.string ⟨#[]⟩)) 9)=W0 at*;rw[jX.o] at dy;clear ha ad hn cj fQ dP jX;go_enter Tryz.func169,Tryz.ntmps169;go_wp2;go_loopw [11] (λlr wr=>∃j:Nat,j<=n/\lr=.int .i64 (j:Int)/\Hid (Bk wr w.heap.size 9 (svs (Qg (λv=>bs (shr (toL v))) l j)).toArray)/\Hid (Below w.heap.size w wr)) (λlr _=>(n-intOf lr).toNat);case atStart=>exact⟨0,Vat _,rfl,dy,aB⟩
 case round=>
  clear aB dy bG;obtain⟨j,hj,rfl,hk,hb⟩:=hrel;by_cases ab:j<n
  ·have cN:j<l.length:=(by rw[<-Hn.o];exact ab);obtain⟨b,o,rfl,cD,hc⟩:=Yb (Ha.o.below hb.o) j cN;have cI:=h_ (Hv.o l[j] (Vak _));have aW:=h_ (Z5b (λv=>bs (shr (toL v))) l j cN);have hlen:=Z5a (λv=>bs (shr (toL v))) l j (by omega);obtain⟨S,hS⟩:∃S,l[j]=S:=⟨_,rfl⟩;rw[hS] at hc cI aW;obtain⟨T,hT⟩:∃T,bs (shr (toL S))=T:=⟨_,rfl⟩;rw[hT] at cI aW;have av:=h_ (show j<(Qg (λv=>bs (shr (toL v))) l j).length by rw[hlen];exact cN);clear hS hT cN hlen;have dp:(j:Int)<(n:Int):=(by omega);have gI:(0:Int)<=(j:Int):=(by omega);go_wp2_with fail;refine(cI.o _).mono ?_;rintro x w1 ⟨rfl,a7⟩;have aZ:=hk.o.below a7 hk.o.lt;have hcell:=aZ.cell j;rw[Vbe,Yr _ _ av.o] at hcell;have fi:=aZ.frozen j;have aj:=Z1Z aZ j T;rw[aW.o] at aj;have aA:=h_ aj;have an:=h_ ((hb.o.trans (a7.mono hb.o.size)).setCell (p:=⟨w.heap.size,j,none⟩) UZz (.string T));generalize (Qg (λv=>bs (shr (toL v))) l j)[j]=OLD at*;clear a7 cI hb hk aZ aj aW av;go_wp2;refine⟨⟨j+1,ab,by go_num,aA,an⟩,?_⟩;simp[intOf]<;>omega
  ·have iB:j=n:=(by omega);have aZ:=hk.o;rw[iB,Hn.o,Z5c] at aZ;have fo:=h_ aZ;clear aZ hk Hv;go_wp2;go_returns;refine⟨_,rfl,UZz,fo.o.lt,?_,hb.o⟩;have:=fo.o.at_;rw[Vcl] at this;exact this
theorem ZfE {w:Int} {l:List ByteArray} (h:∀s∈l,(ext w (toL s)).2=0):extL w l=some (l.map (λs=>bs (ext w (toL s)).1)):=by
 induction l with
 |nil=>rfl
 |cons s r ih=>
  unfold extL;rw[Vaf (h s Vap),ih (λx hx=>h x (Var _ hx))];rfl
theorem ZfF {w:Int} {l:List ByteArray} {s:ByteArray} (hs:s∈l) (h:(ext w (toL s)).2≠0):extL w l=none:=by
 induction l with
 |nil=>cases hs
 |cons a r ih=>
  unfold extL;by_cases ha:(ext w (toL a)).2=0
  ·rw[Vaf ha];rcases Vba.1 hs with rfl|hs
   ·exact absurd ha h
   ·rw[ih hs];rfl
  ·rw[Vad ha]
def LgR (w:World) (o:Option (List ByteArray)) (x:Ending) (w':World):Prop:=Below w.heap.size w w'/\match o with
 |none=>∃A,x=.returned (.tuple #[.slice A 0 0,.bool false])
 |some r=>∃g,x=.returned (.tuple #[.slice (some ⟨g,0,none⟩) r.length r.length,.bool true])/\w.heap.size<=g/\Bk w' g 9 (svs r).toArray
theorem Z0j {w:World} {A:Option Addr} {l:List ByteArray} (ha:At w A (svs l)) (ad:∀s∈l,s.size<=1099511627776) (n cap:Nat) (hn:n=l.length) (hm:n<=1099511627776) (W:Int):
  Calls Tryz.prog 206 #[.agg #[.int .i64 W],.slice A n cap] w λx w'=>LgR w (extL W l) x w':=by
 have bO:=Bk.new w 127 #[.int .i64 W];have aB:=Zy w (.cells #[.int .i64 W] 127);have bG:=Yg (P:=Tryz.prog) 64 9 (.string ⟨#[]⟩) 16 Tryz.underlying64 YC rfl (n:Int) n rfl (by omega) (by omega) (w.alloc (.cells #[.int .i64 W] 127));have cj:=Bk.new (w.alloc (.cells #[.int .i64 W] 127)) 9 (Array.replicate n (.string ⟨#[]⟩));have cq:=h_ (bO.alloc (.cells (Array.replicate n (.string ⟨#[]⟩)) 9));have a7:=h_ (aB.alloc aB.size (.cells (Array.replicate n (.string ⟨#[]⟩)) 9));have fQ:Array.replicate n (.string ⟨#[]⟩:Value)=(svs (Qg (λs=>bs (ext W (toL s)).1) l 0)).toArray:=(by rw[hn,Zcl]);rw[World.size_alloc] at bG cj;have Ha:=h_ ha
 have Hv:=h_ (λ(v:ByteArray) (hv:v∈l) W2=>(by
  have:=ZhV W (toL v) (by rw[Z1];exact ad v hv) W2;rw[Zc] at this;exact this:Calls Tryz.prog 148 #[.int .i64 W,.string v] W2 λx w'=>x=.returned (.tuple #[.string (bs (ext W (toL v)).1),.int .i64 ((ext W (toL v)).2:Int)])/\Below W2.heap.size W2 w'))
 have jX:=h_ fQ;have dy:=h_ cj;have Hn:=h_ hn;generalize (w.alloc (.cells #[.int .i64 W] 127)).alloc (.cells (Array.replicate n (.string ⟨#[]⟩)) 9)=W0 at*;rw[jX.o] at dy;clear ha ad hn cj fQ jX bO aB;go_enter Tryz.func206,Tryz.ntmps206;go_wp2;go_loopw [16] (λki wr=>∃j:Nat,j<=n/\ki=.int .i64 (j:Int)/\Hid (∀s∈l.take j,(ext W (toL s)).2=0)/\Hid (Bk wr (w.heap.size+1) 9 (svs (Qg (λs=>bs (ext W (toL s)).1) l j)).toArray)/\Hid (Bk wr w.heap.size 127 #[.int .i64 W])/\Hid (Below w.heap.size w wr)) (λki _=>(n-intOf ki).toNat);case atStart=>exact⟨0,Vat _,rfl,h_ (by simp),dy,cq,a7⟩
 case round=>
  clear a7 dy bG cq;obtain⟨j,hj,rfl,ar,hk,fg,hb⟩:=hrel;by_cases ab:j<n
  ·have cN:j<l.length:=(by rw[<-Hn.o];exact ab);obtain⟨b,o,rfl,cD,hc⟩:=Yb (Ha.o.below hb.o) j cN;have cI:=h_ (Hv.o l[j] (Vak _));have nk:=h_ (Vak cN);have aW:=h_ (Z5b (λs=>bs (ext W (toL s)).1) l j cN);have hlen:=Z5a (λs=>bs (ext W (toL s)).1) l j (by omega);have cw:l.take (j+1)=l.take j++[l[j]]:=Vac cN;obtain⟨S,hS⟩:∃S,l[j]=S:=⟨_,rfl⟩;rw[hS] at hc cI aW cw nk;have gU:=h_ cw;have av:=h_ (show j<(Qg (λs=>bs (ext W (toL s)).1) l j).length by rw[hlen];exact cN);have vV:wr.cell? ⟨w.heap.size,0,none⟩=some (.int .i64 W):=fg.o.cell 0;obtain⟨T,hT⟩:∃T,bs (ext W (toL S)).1=T:=⟨_,rfl⟩;rw[hT] at cI aW;clear hS hT cN hlen cw;have dp:(j:Int)<(n:Int):=(by omega);have gI:(0:Int)<=(j:Int):=(by omega);by_cases he:(ext W (toL S)).2=0
   ·rw[he] at cI
    have q7:=h_ (show ∀v∈l.take (j+1),(ext W (toL v)).2=0 from λv hm=>by
     rw[gU.o,Va9,Vax] at hm;rcases hm with hm|rfl
     ·exact ar.o v hm
     ·exact he)
    clear he gU nk ar;go_wp2_with fail;refine(cI.o _).mono ?_;rintro x w1 ⟨rfl,a7⟩;have aZ:=hk.o.below a7 hk.o.lt;have q8:=h_ (fg.o.below a7 fg.o.lt);have hcell:=aZ.cell j;rw[Vbe,Yr _ _ av.o] at hcell;have fi:=aZ.frozen j;have aj:=Z1Z aZ j T;rw[aW.o] at aj;have aA:=h_ aj;have nE:=h_ (q8.o.off (p:=⟨w.heap.size+1,j,none⟩) (by simp) (.string T));have an:=h_ ((hb.o.trans (a7.mono hb.o.size)).setCell (p:=⟨w.heap.size+1,j,none⟩) (by simp) (.string T));generalize (Qg (λs=>bs (ext W (toL s)).1) l j)[j]=OLD at*;clear a7 cI hb hk aZ aj aW av q8 fg vV;go_wp2;refine⟨⟨j+1,ab,by go_num,q7,aA,nE,an⟩,?_⟩;simp[intOf]<;>omega
   ·have aG:=h_ (ZfF nk.o he);have az:(((ext W (toL S)).2:Int) !=0)=true:=(by rw[Va0];omega);generalize ((ext W (toL S)).2:Int)=E at*;clear he gU nk ar aW av;go_wp2_with fail;refine(cI.o _).mono ?_;rintro x w1 ⟨rfl,a7⟩;have an:=h_ (hb.o.trans (a7.mono hb.o.size));clear a7 cI hb;go_wp2;go_returns;refine⟨an.o,?_⟩;rw[aG.o];exact⟨none,rfl⟩
  ·have iB:j=n:=(by omega);have aZ:=hk.o;rw[iB,Hn.o,Z5c] at aZ;have fo:=h_ aZ;have iG:=ar.o;rw[iB,Vah (by rw[Hn.o];exact UZz)] at iG;have aG:=h_ (ZfE iG);have Hl:=h_ (show(l.map (λs=>bs (ext W (toL s)).1)).length=n by rw[Vag,Hn.o]);clear aZ hk Hv ar iG;go_wp2;go_returns;refine⟨hb.o,?_⟩;rw[aG.o];exact⟨_,by rw[Hl.o];rfl,by omega,fo.o⟩
theorem Z9d {w:World} {A:Option Addr} {l:List ByteArray} (ha:At w A (svs l)) (ad:∀s∈l,s.size<=1099511627776) (n cap:Nat) (hn:n=l.length) (hm:n<=4096) (W:Int):
  Calls Tryz.prog 123 #[.agg #[.int .i64 W],.slice A n cap] w λx w'=>x=.returned (.tuple #[.string (bs (codW l)),.bool true])/\Below w.heap.size w w':=by
 have aB:=Zy w (.cells #[.int .i64 W] 127);have H1:=h_ (Z0J (ha.alloc (.cells #[.int .i64 W] 127)) ad n cap hn (by omega));have fJ:n=(ZF l).length:=(by unfold ZF;rw[Vag];exact hn);have om:=XP (l:=l) (by omega);have H2:=h_ (λW2 (B:Option Addr) (c:Nat) (h:At W2 B (svs (ZF l)))=>Ys h (λs hs=>by have:=om.2 s hs;omega) n c fJ (by omega));have cO:=Qf (l:=l) (by omega);have he:((enc (ZF l)).2:Int)=0:=(by rw[cO.2];rfl);unfold codW;unfold ERes at H2;rw[cO.2] at H2;have aL:=h_ aB;generalize bs (enc (ZF l)).1=SR at*;clear ha ad hn fJ om cO he aB;go_enter Tryz.func123,Tryz.ntmps123;go_wp2_with fail;refine(H1.o).mono ?_;rintro x w1 ⟨g,rfl,dm,Td,ak,a7⟩;have hb:=aL.o.trans (a7.mono aL.o.size);clear a7 H1 aL;have H3:=h_ (H2.o w1 _ n ak);clear H2 ak;go_wp2_with fail;refine(H3.o).mono ?_;rintro x w2 ⟨rfl,a8⟩;have aS:=hb.trans (a8.mono hb.size);clear hb a8 H3;go_wp2;go_returns;exact⟨rfl,aS⟩
end Go.Proofs.YtchokmkfobandaaGreatDoor
