import Derived.Test.YtchokmkfobandaaGreatDoorJ23
import Derived.Test.YtchokmkfobandaaGreatDoorJ14
set_option linter.unusedVariables false
set_option linter.unusedSimpArgs false
set_option maxRecDepth 100000
set_option maxHeartbeats 8000000
namespace Go.Proofs.YtchokmkfobandaaGreatDoor
open Go.RowKit Go.Proofs Wv Wv.Vi Wv.Rc Wv.Mo Wv.Ru
theorem Zj9 {w:World} (data:ByteArray) (hd:data.size<=1000000000):
  Calls Tryz.prog 111 #[.string data] w λx w'=>Z6g w (Z1J (toL data)) x w':=by
 match h1:rnum (toL data) 1 with
 |none=>
  obtain⟨e,he,hn⟩:=Z11 h1;have hr:Z1J (toL data)=none:=(by unfold Z1J;rw[h1]);rw[hr];exact ZbN data (by omega) 0 data e data e hn (Z2j he 4096) he (Nat.le_refl _)
 |some (c,s1)=>
  obtain⟨n1,bY,cj⟩:=Z0l h1;match h2:rnum s1 4096 with
  |none=>
   obtain⟨e,he,hn⟩:=Z11 h2;have hr:Z1J (toL data)=none:=(by unfold Z1J;rw[h1];simp only;rw[h2]);rw[hr];exact ZbN data (by omega) c (bs s1) 0 (bs s1) e n1 hn he cj
  |some (n,s2)=>exact Zg1 data hd c n s1 s2 h1 h2
theorem Zm1 {c:Nat} {ws:List ByteArray} {A B:List Int×Nat} {l:List ByteArray} (h:fin c ws A B=some l):∃Z,Z0D ws Z []=(l,0):=by
 unfold fin at h;obtain⟨Z,hZ⟩:∃Z,(if c=1 then(Z0K A.1).1.map Int.ofNat else A.1).zip (B.1.map (· +1))=Z:=⟨_,rfl⟩;rw[hZ] at h;split at h
 ·cases h
 ·split at h
  ·cases h
  ·split at h
   ·cases h
   ·split at h
    ·rename_i h0;injection h with h;exact⟨_,Prod.ext h h0⟩
    ·cases h
theorem Zg6 {s:List UInt8} {l:List ByteArray} (h:Z1J s=some l):∃c ws A B n s2 s3,fin c ws A B=some l/\Z18 n s2=some (ws,s3):=by
 unfold Z1J at h;match h1:rnum s 1,h with
 |none,h=>cases h
 |some (c,s1),h=>
  simp only at h;match h2:rnum s1 4096,h with
  |none,h=>cases h
  |some (n,s2),h=>
   simp only at h;match h3:Z18 n s2,h with
   |none,h=>cases h
   |some (ws,s3),h=>
    simp only at h;match h4:Z0H s3 s.length,h with
    |none,h=>cases h
    |some (a,s4),h=>exact⟨_,_,_,_,n,s2,s3,h,h3⟩
theorem Zaj (n:Nat):∀ {s:List UInt8} {ws:List ByteArray} {t:List UInt8},Z18 n s=some (ws,t)->∀x∈ws,x.size<=128:=by
 induction n with
 |zero=>
  intro s ws t h x hx;rw[Z18] at h;injection h with h;injection h with h1 h2;subst h1;cases hx
 |succ n ih=>
  intro s ws t h x hx;match h1:Z0H s 128 with
  |none=>rw[Z97 h1] at h;cases h
  |some (a,u)=>
   rw[Z96 h1] at h;match h2:Z18 n u with
   |none=>rw[h2] at h;cases h
   |some (l,v)=>
    rw[h2] at h;injection h with h;injection h with h3 h4;subst h3;rcases List.mem_cons.1 hx with h5|h5
    ·rw[h5,Z00];exact(Z4F h1).2.2.2
    ·exact ih h2 x h5
theorem Zak (d:List ByteArray) (hd:∀x∈d,x.size<=128) (Z:List (Int×Int)):∀acc:List ByteArray,(∀x∈acc,x.size<=128)->acc.length<=4096->(∀x∈(Z0D d Z acc).1,x.size<=128)/\(Z0D d Z acc).1.length<=4096:=by
 induction Z with
 |nil=>intro acc h1 h2;exact⟨h1,h2⟩
 |cons z Z ih=>
  intro acc h1 h2;rw[Z0D];split
  ·exact⟨by simp,by simp⟩
  ·rename_i c1;split
   ·exact⟨by simp,by simp⟩
   ·refine ih _ (λx hx=> ?_) ?_
    ·rcases List.mem_append.1 hx with h|h
     ·exact h1 x h
     ·rw[(List.mem_replicate.1 h).2];have:z.1.toNat<d.length:=(by omega);have e:d.getD z.1.toNat default=d[z.1.toNat]:=(by simp[List.getD,this]);rw[e];exact hd _ (List.getElem_mem _)
    ·rw[List.length_append,List.length_replicate];omega
theorem Z4G {s:List UInt8} {l:List ByteArray} (h:Z1J s=some l):(∀x∈l,x.size<=128)/\l.length<=4096:=by
 obtain⟨c,ws,A,B,n,s2,s3,h1,h2⟩:=Zg6 h;obtain⟨Z,hZ⟩:=Zm1 h1;have:=Zak ws (Zaj n h2) Z [] (by simp) (by simp);rw[hZ] at this;exact this
theorem Z3u {w:World} (data:ByteArray) (hd:data.size<=1000000000) (most:Int):
  Calls Tryz.prog 65 #[.string data,.int .i64 most] w λx w'=>TRes w (dec (toL data) most) x w':=by
 have H1:=h_ (Zj9 (w:=w) data hd);unfold dec;match hr:Z1J (toL data) with
 |none=>
  rw[hr] at H1;simp only;clear hr hd;go_enter Tryz.func65,Tryz.ntmps65;go_wp2_with fail;refine(H1.o).mono ?_;rintro x w1 ⟨v,rfl,hs,hb⟩;simp only[Option.isSome_none];clear hs;go_wp2;go_returns;exact Z2N 12 hb
 |some l=>
  rw[hr] at H1;simp only;obtain⟨g1,g2⟩:=Z4G hr;have H2:=h_ (λW A cap (h:At W A (svs l))=>Z1N h (λs hs=>by have:=g1 s hs;omega) l.length cap rfl (by omega));obtain⟨⟨X,xe⟩,hX⟩:∃x,enc l=x:=⟨_,rfl⟩;rw[hX] at H2⊢;simp only;clear hr hd hX g1;by_cases aZ:xe≠0\/X≠toL data
  ·rw[if_pos aZ]
   have q:((xe:Int) !=0)=true\/(((xe:Int) !=0)=false/\(((bs X).toList !=data.toList)=true/\((bs X).toList==data.toList)=false)):=by
    by_cases hx:xe=0
    ·right;have ay:X≠toL data:=aZ.resolve_left (λh=>h hx)
     have h3:((bs X).toList==data.toList)=false:=by
      rw[Z3F,decide_eq_false_iff_not];intro h;exact ay (by rw[<-h,Z0d])
     refine⟨by rw[hx];rfl,by rw[bne,h3];rfl,h3⟩
    ·left;rw[bne_iff_ne];omega
   clear aZ;rcases q with q|⟨q,q2,q3⟩
   all_goals
    go_enter Tryz.func65,Tryz.ntmps65;go_wp2_with fail;refine(H1.o).mono ?_;rintro x w1 ⟨v,rfl,hs,hb⟩;simp only[Option.isSome_some];obtain⟨A,cap,rfl,ak⟩:=hs l rfl;have H3:=h_ (H2.o _ _ cap ak);clear hs ak;go_wp2_with fail;refine(H3.o).mono ?_;rintro x w2 ⟨rfl,a8⟩;have aQ:=hb.trans (a8.mono hb.size);go_wp2;go_returns;exact Z2N 12 aQ
  ·rw[if_neg aZ];have hx:xe=0:=(by omega)
   have vh:X=toL data:=by
    rcases Classical.em (X=toL data) with h|h
    ·exact h
    ·exact absurd (.inr h) aZ
   subst hx;subst vh;have q2:((bs (toL data)).toList !=data.toList)=false:=(by rw[Z09,bne_self_eq_false]);have q3:((bs (toL data)).toList==data.toList)=true:=(by rw[Z09,beq_self_eq_true]);clear aZ;by_cases hm:most<(l.length:Int)
   ·rw[if_pos hm];go_enter Tryz.func65,Tryz.ntmps65;go_wp2_with fail;refine(H1.o).mono ?_;rintro x w1 ⟨v,rfl,hs,hb⟩;simp only[Option.isSome_some];obtain⟨A,cap,rfl,ak⟩:=hs l rfl;have H3:=h_ (H2.o _ _ cap ak);clear hs ak;go_wp2_with fail;refine(H3.o).mono ?_;rintro x w2 ⟨rfl,a8⟩;have aQ:=hb.trans (a8.mono hb.size);go_wp2;go_returns;exact Z2N 2 aQ
   ·rw[if_neg hm];go_enter Tryz.func65,Tryz.ntmps65;go_wp2_with fail;refine(H1.o).mono ?_;rintro x w1 ⟨v,rfl,hs,hb⟩;simp only[Option.isSome_some];obtain⟨A,cap,rfl,ak⟩:=hs l rfl;have H3:=h_ (H2.o _ _ cap ak);have bd:=h_ ak;clear hs ak;go_wp2_with fail;refine(H3.o).mono ?_;rintro x w2 ⟨rfl,a8⟩;have aQ:=hb.trans (a8.mono hb.size);have bL:=bd.o.below a8;go_wp2;go_returns;exact⟨_,rfl,⟨A,cap,rfl,bL⟩,aQ⟩
theorem Zja (c:Nat) (l:List ByteArray) (hl:l.length<=4096):(encA c l).length<9223372036854775808:=by
 have h1:=Z2O (Z1b c l) (λv hv=>by have:=Z3Y c l hl v hv;omega);have h2:=Z1l (dict l) l;rw[Z1w] at h1;show(encn (Z1b c l)).length<_;omega
theorem Zg7 {l:List ByteArray} (hl:l.length<=4096) (hs:∀s∈l,s.size<=128):enc l=(if(encB 1 l).length<(encB 0 l).length then encB 1 l else encB 0 l,0):=by
 unfold enc;rw[if_neg]
 ·split<;>rfl
 ·rintro(h|⟨s,h1,h2⟩)
  ·omega
  ·have:=hs s h1;omega
theorem Z4g {l:List ByteArray} (hl:l.length<=4096) (hs:∀s∈l,s.size<=128):∃c,c<=1/\enc l=(encB c l,0):=by
 rw[Zg7 hl hs];split
 ·exact⟨1,by omega,rfl⟩
 ·exact⟨0,by omega,rfl⟩
theorem Zjb {c:Nat} {l:List ByteArray} (hc:c<=1) (hl:l.length<=4096) (hs:∀s∈l,s.size<=128) (most:Int):
  dec (encB c l) most=if(enc l).1≠encB c l then([],12) else if most<(l.length:Int) then([],2) else(l,0):=by
 have h1:=ZhP c hc l hl hs (Zja c l hl);unfold dec;rw[h1];simp only;have h2:(enc l).2=0:=(by rw[Zg7 hl hs]);rw[h2];simp
theorem Zal {l:List ByteArray} (hl:l.length<=4096) (hs:∀s∈l,s.size<=128) (most:Int):
  dec (enc l).1 most=if most<(l.length:Int) then([],2) else(l,0):=by
 obtain⟨c,hc,he⟩:=Z4g hl hs;have:=Zjb hc hl hs most;rw[he] at this⊢;simpa using this
theorem Z2x (data:List UInt8) (most:Int):(dec data most=([],12)\/dec data most=([],2))\/∃l,dec data most=(l,0)/\enc l=(data,0)/\Z1J data=some l/\(∀x∈l,x.size<=128)/\l.length<=4096:=by
 unfold dec;match h:Z1J data with
 |none=>exact .inl (.inl rfl)
 |some l=>
  simp only;obtain⟨g1,g2⟩:=Z4G h;by_cases h1:(enc l).2≠0\/(enc l).1≠data
  ·rw[if_pos h1];exact .inl (.inl rfl)
  ·rw[if_neg h1];by_cases h2:most<(l.length:Int)
   ·rw[if_pos h2];exact .inl (.inr rfl)
   ·rw[if_neg h2];refine .inr ⟨l,rfl,?_,rfl,g1,g2⟩
    have h3:(enc l).2=0:=by
     rcases Nat.eq_zero_or_pos (enc l).2 with h|h
     ·exact h
     ·exact absurd (.inl (by omega)) h1
    have h4:(enc l).1=data:=by
     rcases Classical.em ((enc l).1=data) with h|h
     ·exact h
     ·exact absurd (.inr h) h1
    exact Prod.ext h4 h3
def l4:List ByteArray:=[⟨#[97]⟩,⟨#[97]⟩,⟨#[98]⟩,⟨#[97]⟩]
open Wv.Tm
theorem Zd0 (c:Nat) {l:List ByteArray} (hl:l.length<=4096) (hs:∀s∈l,s.size<=128):(encB c l).length<=2000000:=by
 have sX:=Z1k l;have h1:=Z4E c (dict l) (dict l).length (Z5s hs) (by omega);have h2:=Z2O (Z1b c l) (λv hv=>by have:=Z3Y c l hl v hv;omega);have h3:=Z2O (cnts l) (λv hv=>by have:=Z5t l hl v hv;omega);have h4:=kof9 (encA c l).length;have h5:=Z1l (dict l) l;rw[Z1w] at h2;rw[Z2I] at h3
 have h6:encB c l=Z1F c (dict l) (dict l).length++(num (encA c l).length++encn (Z1b c l))++encn (cnts l):=by
  unfold encB Z1F;rw[List.take_length];rfl
 rw[h6,List.length_append,List.length_append,List.length_append];omega
theorem Z2y {l:List ByteArray} (hl:l.length<=4096) (hs:∀s∈l,s.size<=128):(enc l).1.length<=2000000:=by
 obtain⟨c,hc,he⟩:=Z4g hl hs;rw[he];exact Zd0 c hl hs
def Z0J (l:List Int):List UInt8:=encn (l.map Int.toNat)
def txts (l:List Int):List ByteArray:=l.map (λg=>bs (num g.toNat))
def cod0 (l:List Int):List UInt8:=num 0++Z0J (Z06 l)
def cod1 (l:List Int):List UInt8:=num 1++num (Z0j l).st.toNat++num (Z0j l).f.toNat++num (Z0j l).s.toNat++num (Z0j l).n.toNat++text (bs (Z0J (Z06 (Z2X (Z0j l) l))))++Z0J (Z06 (furL (Z0j l) l))
def cod2 (l:List Int):List UInt8:=num 2++(enc (txts (Z06 l))).1
def codT (c:Nat) (l:List Int):List UInt8:=if c=0 then cod0 l else if c=1 then cod1 l else cod2 l
def mnT (a b:List UInt8):List UInt8:=if b.length<a.length then b else a
def encT (l:List Int):List UInt8×Nat:=if Z0e l=true then(if l.length<2 then mnT (cod0 l) (cod2 l) else mnT (mnT (cod0 l) (cod1 l)) (cod2 l),0) else([],2)
theorem Z19 {l:List Int} (h:Z0e l=true):(Z0J (Z06 l)).length<=600000:=by
 obtain⟨_,_,v3⟩:=Z08.1 h;have hg:=Z2g h
 have:=Z2O ((Z06 l).map Int.toNat) (λv hv=>by
  obtain⟨g,df,rfl⟩:=List.mem_map.1 hv;have:=hg g df;omega)
 rw[List.length_map] at this;unfold Z06 at this;rw[Z0W] at this;unfold Z0J Z06;omega
theorem Z5P (l:List Int):∀s∈txts l,s.size<=9:=by
 intro s hs;obtain⟨g,_,rfl⟩:=List.mem_map.1 hs;rw[Z00,Z07];have:=Z15 g.toNat;omega
theorem Z21 (l:List Int):(txts l).length=l.length:=by simp[txts]
theorem ZbP {l:List Int} (h:Z0e l=true):(enc (txts (Z06 l))).2=0/\(enc (txts (Z06 l))).1.length<=2000000:=by
 obtain⟨_,_,v3⟩:=Z08.1 h;have hl:(txts (Z06 l)).length<=4096:=(by rw[Z21];unfold Z06;rw[Z0W];exact v3);have hs:∀s∈txts (Z06 l),s.size<=128:=λs hs=>(by have:=Z5P _ s hs;omega);exact⟨by obtain⟨c,_,he⟩:=Z4g hl hs;rw[he],Z2y hl hs⟩
def rclk (s:List UInt8):Option (Clk×List UInt8×List UInt8):=
 match rnum s 1099511627776 with
 |none=>none
 |some (a,s1)=>
  match rnum s1 1099511627776 with
  |none=>none
  |some (b,s2)=>
   match rnum s2 1099511627776 with
   |none=>none
   |some (d,s3)=>
    match rnum s3 4096 with
    |none=>none
    |some (n,s4)=>
     match Z0H s4 s4.length with
     |none=>none
     |some (x,t)=>some (⟨(a:Int),(b:Int),(d:Int),(n:Int)⟩,x,t)
def finC (c:Clk) (X Y:List Int×Nat):Option (List Int):=
 if vclk c=false\/X.2≠0\/Y.2≠0 then none
 else match jnL X.1,jnL Y.1 with
  |some m,some x=>some (rebL c m x)
  |_,_=>none
def Z7U (s:List UInt8):Option (List Int):=match rclk s with
 |none=>none
 |some (c,a,t)=>finC c (decn a 4096) (decn t 4096)
def Z30:List ByteArray->Option (List Int)
 |[]=>some []
 |s::r=>match rnum (toL s) 1099511627776 with
  |some (g,[])=>(Z30 r).map ((g:Int)::·)
  |_=>none
def Z3c (data:List UInt8):Option (List Int):=match rnum data 2 with
 |none=>none
 |some (c,r)=>
  if c=0 then(if(decn r 4096).2≠0 then none else jnL (decn r 4096).1)
  else if c=1 then Z7U r
  else if(dec r 4096).2≠0 then none else match Z30 (dec r 4096).1 with
   |none=>none
   |some g=>jnL g
def decT (data:List UInt8) (most:Int):List Int×Nat:=match Z3c data with
 |none=>([],12)
 |some l=>if(encT l).2≠0\/(encT l).1≠data then([],12) else if most<(l.length:Int) then([],2) else(l,0)
def q1 (s:ByteArray):=numR s 0 1099511627776
def q2 (s:ByteArray):=numR (q1 s).2.1 (q1 s).2.2 1099511627776
def q3 (s:ByteArray):=numR (q2 s).2.1 (q2 s).2.2 1099511627776
def q4 (s:ByteArray):=numR (q3 s).2.1 (q3 s).2.2 4096
def q5 (s:ByteArray):=Z0S (q4 s).2.1 (q4 s).2.2 ((q4 s).2.1.size:Int)
theorem Zjc (s:List UInt8):((q5 (bs s)).2.2≠0/\rclk s=none)\/((q5 (bs s)).2.2=0/\∃x t,rclk s=some (⟨((q1 (bs s)).1:Int),((q2 (bs s)).1:Int),((q3 (bs s)).1:Int),((q4 (bs s)).1:Int)⟩,x,t)/\(q5 (bs s)).1=bs x/\(q5 (bs s)).2.1=bs t/\x.length<=s.length/\t.length<=s.length):=by
 unfold rclk;match h1:rnum s 1099511627776 with
 |none=>
  obtain⟨e,he,hn⟩:=Z11 h1;have e1:q1 (bs s)=(0,bs s,e):=hn;have e2:q2 (bs s)=(0,bs s,e):=(by unfold q2;rw[e1];exact Z2j he _);have e3:q3 (bs s)=(0,bs s,e):=(by unfold q3;rw[e2];exact Z2j he _);have e4:q4 (bs s)=(0,bs s,e):=(by unfold q4;rw[e3];exact Z2j he _);have e5:q5 (bs s)=(bs [],bs s,e):=(by unfold q5;rw[e4];exact Z1A he _);rw[e5];exact .inl ⟨he,rfl⟩
 |some (a,s1)=>
  obtain⟨fF,dh,cj⟩:=Z0l h1;have e1:q1 (bs s)=(a,bs s1,0):=fF;simp only;match h2:rnum s1 1099511627776 with
  |none=>
   obtain⟨e,he,hn⟩:=Z11 h2;have e2:q2 (bs s)=(0,bs s1,e):=(by unfold q2;rw[e1];exact hn);have e3:q3 (bs s)=(0,bs s1,e):=(by unfold q3;rw[e2];exact Z2j he _);have e4:q4 (bs s)=(0,bs s1,e):=(by unfold q4;rw[e3];exact Z2j he _);have e5:q5 (bs s)=(bs [],bs s1,e):=(by unfold q5;rw[e4];exact Z1A he _);rw[e5];exact .inl ⟨he,rfl⟩
  |some (b,s2)=>
   obtain⟨jj,eA,cZ⟩:=Z0l h2;have e2:q2 (bs s)=(b,bs s2,0):=(by unfold q2;rw[e1];exact jj);simp only;match h3:rnum s2 1099511627776 with
   |none=>
    obtain⟨e,he,hn⟩:=Z11 h3;have e3:q3 (bs s)=(0,bs s2,e):=(by unfold q3;rw[e2];exact hn);have e4:q4 (bs s)=(0,bs s2,e):=(by unfold q4;rw[e3];exact Z2j he _);have e5:q5 (bs s)=(bs [],bs s2,e):=(by unfold q5;rw[e4];exact Z1A he _);rw[e5];exact .inl ⟨he,rfl⟩
   |some (d,s3)=>
    obtain⟨EX,Gx,R6⟩:=Z0l h3;have e3:q3 (bs s)=(d,bs s3,0):=(by unfold q3;rw[e2];exact EX);simp only;match h4:rnum s3 4096 with
    |none=>
     obtain⟨e,he,hn⟩:=Z11 h4;have e4:q4 (bs s)=(0,bs s3,e):=(by unfold q4;rw[e3];exact hn);have e5:q5 (bs s)=(bs [],bs s3,e):=(by unfold q5;rw[e4];exact Z1A he _);rw[e5];exact .inl ⟨he,rfl⟩
    |some (n,s4)=>
     obtain⟨bu,xm,fV⟩:=Z0l h4;have e4:q4 (bs s)=(n,bs s4,0):=(by unfold q4;rw[e3];exact bu);simp only;match h5:Z0H s4 s4.length with
     |none=>
      obtain⟨e,he,hn⟩:=Z95 h5;have e5:q5 (bs s)=(bs [],bs s4,e):=(by unfold q5;rw[e4];exact hn);rw[e5];exact .inl ⟨he,rfl⟩
     |some (x,t)=>
      obtain⟨CJ,UB,Mp,_⟩:=Z4F h5;have e5:q5 (bs s)=(bs x,bs t,0):=(by unfold q5;rw[e4];exact CJ);rw[e1,e2,e3,e4,e5];exact .inr ⟨rfl,x,t,rfl,rfl,rfl,by omega,by omega⟩
theorem Zm2 (s:ByteArray):(q1 s).2.1.size<=s.size/\(q2 s).2.1.size<=s.size/\(q3 s).2.1.size<=s.size/\(q4 s).2.1.size<=s.size:=by
 have a1:(q1 s).2.1.size<=s.size:=Z1W;have a2:(q2 s).2.1.size<=(q1 s).2.1.size:=Z1W;have a3:(q3 s).2.1.size<=(q2 s).2.1.size:=Z1W;have a4:(q4 s).2.1.size<=(q3 s).2.1.size:=Z1W;omega
theorem Zjd {l:List Int} (h:Z0e l=true):((Z06 l).map Int.toNat).length<=4096/\(∀v∈(Z06 l).map Int.toNat,v<4611686018427387904)/\((Z06 l).map Int.toNat).map Int.ofNat=Z06 l:=by
 obtain⟨_,_,v3⟩:=Z08.1 h;have hg:=Z2g h;refine⟨?_,?_,?_⟩
 ·rw[List.length_map];unfold Z06;rw[Z0W];exact v3
 ·intro v hv;obtain⟨g,h1,rfl⟩:=List.mem_map.1 hv;have:=hg g h1;omega
 ·rw[List.map_map];conv=>rhs;rw[<-List.map_id (Z06 l)]
  apply List.map_congr_left;intro g h1;have:=hg g h1;simp only[Function.comp,id];exact Int.toNat_of_nonneg this.1
theorem Z4h {l:List Int} (h:Z0e l=true):decn (Z0J (Z06 l)) 4096=(Z06 l,0):=by
 obtain⟨n1,n2,n3⟩:=Zjd h;have:=Z8i _ 4096 n1 (by omega) n2;rw[n3] at this;exact this
theorem Zje {c:Clk} {X R:List UInt8} (hc:inC c) (hX:X.length<=1000000000):
  rclk (num c.st.toNat++num c.f.toNat++num c.s.toNat++num c.n.toNat++text (bs X)++R)=some (c,X,R):=by
 obtain⟨h1,h2,h3,h4,h5,h6,h7,h8⟩:=hc;unfold rclk text;simp only[List.append_assoc];rw[Z0Z _ _ (by omega) (by omega)];simp only;rw[Z0Z _ _ (by omega) (by omega)];simp only;rw[Z0Z _ _ (by omega) (by omega)];simp only;rw[Z0Z _ _ (by omega) (by omega)];simp only;have hs:(bs X).size=X.length:=Z00 X;rw[hs,Z0d];rw[Z1m X _ (by rw[List.length_append,List.length_append];omega) (by omega)];simp only[Option.some.injEq,Prod.mk.injEq,and_true];obtain⟨a,b,d,n⟩:=c;simp only at h1 h2 h3 h4 h5 h6 h7 h8⊢;rw[Int.toNat_of_nonneg (by omega),Int.toNat_of_nonneg (by omega),Int.toNat_of_nonneg (by omega),Int.toNat_of_nonneg (by omega)]
theorem Z5Q {c:Nat} (hc:c<=2) (r:List UInt8):Z3c (num c++r)=if c=0 then(if(decn r 4096).2≠0 then none else jnL (decn r 4096).1) else if c=1 then Z7U r else if(dec r 4096).2≠0 then none else match Z30 (dec r 4096).1 with|none=>none|some g=>jnL g:=by
 unfold Z3c;rw[Z0Z c 2 hc (by omega) r];all_goals rfl
theorem Zd1 {g:List Int} (h:∀x∈g,0<=x/\x<=1099511627776):Z30 (txts g)=some g:=by
 induction g with
 |nil=>rfl
 |cons a r ih=>
  have ha:=h a List.mem_cons_self;have hr:=ih (λx hx=>h x (List.mem_cons_of_mem _ hx));have h1:txts (a::r)=bs (num a.toNat)::txts r:=rfl
  have h2:Z30 (bs (num a.toNat)::txts r)=match rnum (toL (bs (num a.toNat))) 1099511627776 with
   |some (g,[])=>(Z30 (txts r)).map ((g:Int)::·)
   |_=>none:=rfl
  have h3:=Z0Z a.toNat 1099511627776 (by omega) (by omega) [];rw[List.append_nil] at h3;rw[h1,h2,Z0d,h3,hr];simp only[Option.map_some,Option.some.injEq,List.cons.injEq,and_true];exact Int.toNat_of_nonneg ha.1
theorem Zg8 (l:List Int):cod1 l=num 1++(num (Z0j l).st.toNat++num (Z0j l).f.toNat++num (Z0j l).s.toNat++num (Z0j l).n.toNat++text (bs (Z0J (Z06 (Z2X (Z0j l) l))))++Z0J (Z06 (furL (Z0j l) l))):=by
 unfold cod1;simp only[List.append_assoc]
theorem Zm3 {l:List Int} (h:Z0e l=true):(txts (Z06 l)).length<=4096/\∀s∈txts (Z06 l),s.size<=128:=by
 obtain⟨_,_,v3⟩:=Z08.1 h;refine⟨by rw[Z21];unfold Z06;rw[Z0W];exact v3,λs hs=>by have:=Z5P _ s hs;omega⟩
theorem Zg9 {c:Clk} {l:List Int} (hc:vclk c=true) (h:Z0e l=true) (R:List UInt8):
  Z7U (num c.st.toNat++num c.f.toNat++num c.s.toNat++num c.n.toNat++text (bs (Z0J (Z06 (Z2X c l))))++(Z0J (Z06 (furL c l))++R))=finC c (Z06 (Z2X c l),0) (decn (Z0J (Z06 (furL c l))++R) 4096):=by
 have hi:=(Z1r.1 hc).1;unfold Z7U;rw[Zje hi (by have:=Z19 (Z1Y hi l);omega)];simp only;rw[Z4h (Z1Y hi l)]
theorem Zga {l:List Int} (h:Z0e l=true) (c:Nat) (hc:c<=2) (h1:c=1->2<=l.length):Z3c (codT c l)=some l:=by
 have fl:c=0\/c=1\/c=2:=(by omega);rcases fl with rfl|rfl|rfl
 ·show Z3c (num 0++Z0J (Z06 l))=_;rw[Z5Q (by omega),if_pos rfl,Z4h h,if_neg (by simp)];exact Z57 h
 ·show Z3c (cod1 l)=_;have hv:=Z2L h (h1 rfl);have hi:=(Z1r.1 hv).1;rw[Zg8,Z5Q (by omega),if_neg (by decide),if_pos rfl];have:=Zg9 hv h [];rw[List.append_nil] at this;rw[this,Z4h (Z3o h)];unfold finC;rw[if_neg (by simp[hv])];simp only;rw[Z57 (Z1Y hi l),Z57 (Z3o h)];simp only;rw[Zle hi h]
 ·show Z3c (num 2++(enc (txts (Z06 l))).1)=_;obtain⟨t1,t2⟩:=Zm3 h;have Mq:=Zal t1 t2 4096;rw[if_neg (by omega)] at Mq;rw[Z5Q (by omega),if_neg (by decide),if_neg (by decide),Mq,if_neg (by simp)];simp only;rw[Zd1 (Z2g h)];exact Z57 h
theorem Z2z {l:List Int} (h:Z0e l=true):∃c,c<=2/\(c=1->2<=l.length)/\encT l=(codT c l,0):=by
 unfold encT;rw[if_pos h];by_cases h2:l.length<2
 ·rw[if_pos h2];unfold mnT;split
  ·exact⟨2,by omega,by omega,rfl⟩
  ·exact⟨0,by omega,by omega,rfl⟩
 ·rw[if_neg h2];obtain⟨z,hz⟩:∃z,mnT (cod0 l) (cod1 l)=z:=⟨_,rfl⟩;rw[hz];have h3:mnT z (cod2 l)=if(cod2 l).length<z.length then cod2 l else z:=rfl
  rw[h3];by_cases h4:(cod2 l).length<z.length
  ·rw[if_pos h4];exact⟨2,by omega,by omega,rfl⟩
  ·rw[if_neg h4,<-hz];unfold mnT;by_cases h5:(cod1 l).length<(cod0 l).length
   ·rw[if_pos h5];exact⟨1,by omega,by omega,rfl⟩
   ·rw[if_neg h5];exact⟨0,by omega,by omega,rfl⟩
theorem ZbQ {l:List Int} (h:Z0e l=false):encT l=([],2):=by
 unfold encT;rw[if_neg (by rw[h];simp)]
theorem Zjf {l:List Int} (h:Z0e l=true) (c:Nat) (hc:c<=2) (h1:c=1->2<=l.length) (most:Int):
  decT (codT c l) most=if(encT l).1≠codT c l then([],12) else if most<(l.length:Int) then([],2) else(l,0):=by
 have h2:(encT l).2=0:=(by obtain⟨c,_,_,he⟩:=Z2z h;rw[he]);unfold decT;rw[Zga h c hc h1];simp only;rw[h2];simp
theorem Zjg {l:List Int} (h:Z0e l=true) (most:Int):decT (encT l).1 most=if most<(l.length:Int) then([],2) else(l,0):=by
 obtain⟨c,hc,h1,he⟩:=Z2z h;have:=Zjf h c hc h1 most;rw[he] at this⊢;simpa using this
theorem Zgb {l:List Int} (he:(encT l).2=0):Z0e l=true:=by
 cases hv:Z0e l with
 |true=>rfl
 |false=>rw[ZbQ hv] at he;cases he
theorem Z3P (data:List UInt8) (most:Int):(decT data most=([],12)\/decT data most=([],2))\/∃l,decT data most=(l,0)/\encT l=(data,0)/\Z0e l=true/\Z3c data=some l/\(l.length:Int)<=most:=by
 unfold decT;match h:Z3c data with
 |none=>exact .inl (.inl rfl)
 |some l=>
  simp only;by_cases h1:(encT l).2≠0\/(encT l).1≠data
  ·rw[if_pos h1];exact .inl (.inl rfl)
  ·rw[if_neg h1]
   have h3:(encT l).2=0:=by
    rcases Nat.eq_zero_or_pos (encT l).2 with h|h
    ·exact h
    ·exact absurd (.inl (by omega)) h1
   have h4:(encT l).1=data:=by
    rcases Classical.em ((encT l).1=data) with h|h
    ·exact h
    ·exact absurd (.inr h) h1
   by_cases h2:most<(l.length:Int)
   ·rw[if_pos h2];exact .inl (.inr rfl)
   ·rw[if_neg h2];exact .inr ⟨l,rfl,Prod.ext h4 h3,Zgb h3,rfl,by omega⟩
open Wv.Bc
def cbit (c:UInt8):List Bool:=[decide (2<=cd c),decide (cd c % 2=1)]
def Z2a (v:List UInt8):List Bool:=v.flatMap cbit
def Z0G (l:List ByteArray):List Bool:=l.flatMap (λv=>Z2a (toL v))
theorem Z3d (v:List UInt8):(Z2a v).length=2*v.length:=by
 unfold Z2a;induction v with
 |nil=>rfl
 |cons c r ih=>rw[List.flatMap_cons,List.length_append,ih,List.length_cons];simp[cbit];omega
theorem Zgc {w:Int} {l:List ByteArray} (h:∀v∈l,vld w (toL v)=true):((Z0G l).length:Int)=2*(l.length*w):=by
 unfold Z0G;induction l with
 |nil=>simp
 |cons v r ih=>
  have hv:=(Z0L.1 (h v List.mem_cons_self)).2;have i1:=ih (λx hx=>h x (List.mem_cons_of_mem _ hx));rw[List.flatMap_cons,List.length_append,Z3d,List.length_cons];rw[Int.natCast_add,i1,Int.natCast_mul,hv,Int.natCast_add,Int.add_mul];omega
def codP (l:List ByteArray):Option (List UInt8):=if 65536<(Z0G l).length then none else some (num l.length++toL (Bit.bstr (Z0G l)))
def codC (l:List ByteArray):List UInt8:=num l.length++if l=[] then[] else
 text (bs (shr (toL (l.getD 0 default))))++text (bs (shr (toL (Z0x l))))++text (bs (Z0J (Z06 (exI l (Z0x l)))))++(enc (Z0F (atI l (exI l (Z0x l))))).1
def codM (w:Int) (l:List ByteArray):List UInt8:=(enc (Z0F (mixL (bs (allV w 48)) l))).1
def codW (l:List ByteArray):List UInt8:=(enc (Z0F l)).1
def codB (c:Nat) (w:Int) (l:List ByteArray):Option (List UInt8):=if c=0 then codP l else if c=1 then some (codC l) else if c=2 then some (codM w l) else some (codW l)
def Zgd (c w:Int) (l:List ByteArray):List UInt8×Nat:=if c<0\/3<c then([],1) else if Z0z w l=false then([],2) else match codB c.toNat w l with
 |none=>([],9)
 |some s=>(num c.toNat++s,0)
def bstB (w:Int) (l:List ByteArray):Nat->List UInt8
 |0=>[]
 |i+1=>match codB i w l with
  |none=>bstB w l i
  |some s=>if bstB w l i=[]\/(num i++s).length<(bstB w l i).length then num i++s else bstB w l i
def Z12 (w:Int) (l:List ByteArray):List UInt8×Nat:=if Z0z w l=false then([],2) else(bstB w l 4,0)
def valOf:Nat->List Bool->List UInt8
 |0,_=>[]
 |k+1,b=>ch (2*(b.getD 0 false).toNat+(b.getD 1 false).toNat)::valOf k (b.drop 2)
def Z3G (w:Nat):Nat->List Bool->List ByteArray
 |0,_=>[]
 |n+1,b=>bs (valOf w b)::Z3G w n (b.drop (2*w))
def Z5R (w:Int) (s:List UInt8):Option (List ByteArray):=match rnum s 4096 with
 |none=>none
 |some (n,r)=>match Bit.nrd (bs r) with
  |none=>none
  |some k=>if(k:Int)=2*n*w then some (Z3G w.toNat n (Bit.rbits (bs r) k)) else none
def atS:Int->List Int->List Int
 |_,[]=>[]
 |last,g::r=>(last+1+g)::atS (last+1+g) r
def look:List Int->List ByteArray->Int->Option ByteArray
 |i::x,v::r,k=>if i=k then some v else look x r k
 |_,_,_=>none
def runB (x:List Int) (vs:List ByteArray) (st:ByteArray):Nat->Nat->ByteArray->Option (List ByteArray)
 |0,_,_=>some []
 |k+1,i,last=>match look x vs (i:Int) with
  |some v=>(runB x vs st k (i+1) v).map (v::·)
  |none=>if(addV (toL last) (toL st)).2=true then(runB x vs st k (i+1) (bs (addV (toL last) (toL st)).1)).map (bs (addV (toL last) (toL st)).1::·) else none
def Z1B (w:Int) (s:List UInt8):Option (List ByteArray):=match rnum s 4096 with
  |none=>none
  |some (n,s1)=>if n=0 then(if s1=[] then some [] else none) else match Z0H s1 128 with
    |none=>none
    |some (f,s2)=>match Z0H s2 128 with
      |none=>none
      |some (st,s3)=>match Z0H s3 s3.length with
        |none=>none
        |some (a,s4)=>if(decn a 4096).2≠0\/(dec s4 4096).2≠0 then none else match extL w (dec s4 4096).1,extL w [bs f] with
          | some vs, some q => if (decn a 4096).1.length ≠ vs.length then none else
              if st≠[]/\(ext w st).2≠0 then none else
              if(∀g∈(decn a 4096).1,g<(n:Int)) then(runB (atS (-1) (decn a 4096).1) vs (bs (if st=[] then[] else(ext w st).1)) (n-1) 1 (q.getD 0 default)).map (q.getD 0 default::·) else none
          |_,_=>none
def Z2k (w:Int) (s:List UInt8):Option (List ByteArray):=if(dec s 4096).2≠0 then none else extL w (dec s 4096).1
def Z5S (w:Int) (data:List UInt8):Option (List ByteArray):=match rnum data 3 with
 |none=>none
 |some (c,r)=>if c=0 then Z5R w r else if c=1 then Z1B w r else if c=2 then(Z2k w r).map (Z14 (bs (allV w 48))) else Z2k w r
def okB (w:Int) (data:List UInt8) (most:Int) (o:Option (List ByteArray)):List ByteArray×Nat:=match o with
 |none=>([],12)
 |some l=>if(Z12 w l).2≠0\/(Z12 w l).1≠data then([],12) else if most<(l.length:Int) then([],2) else(l,0)
def decB (w:Int) (data:List UInt8) (most:Int):List ByteArray×Nat:=if w<1\/128<w then([],1) else okB w data most (Z5S w data)
theorem Zjh {c:UInt8} (h:cd c<4) (r:List Bool):ch (2*((cbit c++r).getD 0 false).toNat+((cbit c++r).getD 1 false).toNat)=c/\(cbit c++r).drop 2=r:=by
 refine⟨?_,rfl⟩;have hc:=Znl c h;rcases(show cd c=0\/cd c=1\/cd c=2\/cd c=3 by omega) with h0|h0|h0|h0
 all_goals
  rw[h0] at hc;unfold cbit;rw[h0];exact hc
theorem Z6M:∀(v:List UInt8) (r:List Bool),(∀c∈v,cd c<4)->valOf v.length (Z2a v++r)=v
 |[],r,_=>rfl
 |c::v,r,h=>by
  have hc:=h c List.mem_cons_self;have e:Z2a (c::v)++r=cbit c++(Z2a v++r):=(by unfold Z2a;rw[List.flatMap_cons,List.append_assoc]);obtain⟨h1,h2⟩:=Zjh hc (Z2a v++r);rw[List.length_cons,e];show ch _::valOf v.length ((cbit c++(Z2a v++r)).drop 2)=_;rw[h1,h2,Z6M v r (λx hx=>h x (List.mem_cons_of_mem _ hx))]
theorem Z5T (w:Nat):∀(l:List ByteArray) (r:List Bool),(∀v∈l,vld (w:Int) (toL v)=true)->Z3G w l.length (Z0G l++r)=l
 |[],r,_=>rfl
 |v::l,r,h=>by
  have hv:=Z0L.1 (h v List.mem_cons_self);have hw:(toL v).length=w:=(by have:=hv.2;omega);have e:Z0G (v::l)++r=Z2a (toL v)++(Z0G l++r):=(by unfold Z0G;rw[List.flatMap_cons,List.append_assoc]);rw[List.length_cons,e];show bs (valOf w _)::Z3G w l.length (_:List Bool)=_;have h1:=Z6M (toL v) (Z0G l++r) (Z0t.1 hv.1).1;rw[hw] at h1
  have h2:(Z2a (toL v)++(Z0G l++r)).drop (2*w)=Z0G l++r:=by
   rw[<-hw,<-Z3d];exact List.drop_left
  rw[h1,h2,Z5T w l r (λx hx=>h x (List.mem_cons_of_mem _ hx)),Z09]
theorem Zd2 {w:Int} {l:List ByteArray} (h:Z0z w l=true) {s:List UInt8} (hs:codP l=some s):Z5R w s=some l:=by
 obtain⟨h1,h2,h3,h4⟩:=Z0A.1 h;unfold codP at hs;split at hs
 ·cases hs
 ·rename_i hb;injection hs with hs;subst hs;have cl:=Zgc h1;obtain⟨n1,n2⟩:=Bit.nrd_bstr (Z0G l) (by omega);unfold Z5R;rw[Z0Z _ _ h4 (by omega)];simp only[Z09];rw[n1];simp only;rw[if_pos (by rw[cl,Int.mul_assoc]),n2];have:=Z5T w.toNat l [] (λv hv=>by rw[Int.toNat_of_nonneg (by omega)];exact h1 v hv);rw[List.append_nil] at this;rw[this]
theorem Z2Q {l:List ByteArray} (h:l.length<=4096):(Z0F l).length<=4096/\∀s∈Z0F l,s.size<=128:=by
 unfold Z0F;refine⟨by rw[List.length_map];exact h,λs hs=> ?_⟩;obtain⟨v,_,rfl⟩:=List.mem_map.1 hs;rw[Z00];exact Z10 _
theorem Z3e {l:List ByteArray} (h:l.length<=4096):dec (enc (Z0F l)).1 4096=(Z0F l,0)/\(enc (Z0F l)).2=0:=by
 obtain⟨s1,s2⟩:=Z2Q h;refine⟨?_,by obtain⟨c,_,he⟩:=Z4g s1 s2;rw[he]⟩;rw[Zal s1 s2,if_neg (by omega)]
theorem Z6N {w:Int} {l:List ByteArray} (h1:∀v∈l,vld w (toL v)=true) (h4:l.length<=4096):Z2k w (enc (Z0F l)).1=some l:=by
 unfold Z2k;obtain⟨d1,_⟩:=Z3e h4;rw[d1,if_neg (by simp)];exact Z4z h1
theorem ZnV (x:List Int):∀last,atS last (gp last x)=x:=by
 induction x with
 |nil=>intro _;rfl
 |cons t r ih=>
  intro last;show(last+1+(t-last-1))::atS (last+1+(t-last-1)) (gp t r)=_;rw[show last+1+(t-last-1)=t by omega,ih]
theorem Zm4 (l:List ByteArray) (k:Int):∀x:List Int,look x (atI l x) k=if k∈x then some (l.getD k.toNat default) else none:=by
 intro x;induction x with
 |nil=>rfl
 |cons i r ih=>
  show(if i=k then some (l.getD i.toNat default) else look r (atI l r) k)=_;by_cases h:i=k
  ·rw[if_pos h,h,if_pos List.mem_cons_self]
  ·rw[if_neg h,ih];by_cases h2:k∈r
   ·rw[if_pos h2,if_pos (List.mem_cons_of_mem _ h2)]
   ·rw[if_neg h2,if_neg (λh3=>(List.mem_cons.1 h3).elim (λe=>h e.symm) h2)]
theorem Zm5 {l:List ByteArray} {st:ByteArray} {i:Nat} (h1:1<=i) (h2:i<l.length):(i:Int)∈exI l st↔okA l st (i-1)=false:=by
 unfold exI exP;constructor
 ·intro h;obtain⟨j,hj,e⟩:=List.mem_map.1 h;have:j=i-1:=(by omega);subst this;simpa using (List.mem_filter.1 hj).2
 ·intro h;refine List.mem_map.2 ⟨i-1,List.mem_filter.2 ⟨List.mem_range.2 (by omega),by simp[h]⟩,by omega⟩
theorem Zji (l:List ByteArray) (st:ByteArray):∀(k i:Nat),1<=i->i+k=l.length->runB (exI l st) (atI l (exI l st)) st k i (l.getD (i-1) default)=some (l.drop i):=by
 intro k;induction k with
 |zero=>intro i _ h;rw[List.drop_eq_nil_of_le (by omega)];rfl
 |succ k ih=>
  intro i h1 h2;have bz:i<l.length:=(by omega);have hd:l.drop i=l[i]::l.drop (i+1):=List.drop_eq_getElem_cons bz;have hg:l.getD i default=l[i]:=(by simp[List.getD,bz]);have hn:=ih (i+1) (by omega) (by omega);rw[Nat.add_sub_cancel,hg] at hn;unfold runB;rw[Zm4];by_cases hm:(i:Int)∈exI l st
  ·rw[if_pos hm];simp only[Int.toNat_natCast];rw[hg,hn,hd];rfl
  ·rw[if_neg hm];simp only
   have bG:okA l st (i-1)=true:=by
    cases h:okA l st (i-1) with
    |true=>rfl
    |false=>exact absurd ((Zm5 h1 bz).2 h) hm
   unfold okA at bG;rw[decide_eq_true_iff] at bG;rw[show i-1+1=i by omega,hg] at bG;rw[bG,if_pos rfl];simp only[Z09];rw[hn,hd];rfl
theorem Z4i {l:List ByteArray} (h:l.length<=4096) (st:ByteArray):Z0e (exI l st)=true:=by
 unfold exI;refine Z08.2 ⟨Zcy _ _ _,λt ht=> ?_,?_⟩
 ·have:=Zf1 t ht;omega
 ·have:=Z9X l st (l.length-1);omega
theorem Z5U (l:List ByteArray):(toL (Z0x l)=[])\/(l≠[]/\Z0z ((l.getD 0 default).size:Int) l=true/\knV (toL (Z0x l))=true/\Z0x l∈difs l):=by
 unfold Z0x;by_cases h:l=[]\/Z0z ((l.getD 0 default).size:Int) l=false
 ·rw[if_pos h];exact .inl rfl
 ·rw[if_neg h];simp only[not_or,Bool.not_eq_false] at h
  have key:∀(ds:List ByteArray) (F:ByteArray->Nat) (p:ByteArray×Nat),(ds.foldl (Z1i F) p).1=p.1\/(ds.foldl (Z1i F) p).1∈ds:=by
   intro ds F;induction ds with
   |nil=>intro p;exact .inl rfl
   |cons a r ih=>
    intro p;rcases ih (Z1i F p a) with h1|h1
    ·have e:(List.foldl (Z1i F) p (a::r)).1=(Z1i F p a).1:=h1;rw[e];by_cases hc:p.2<F a
     ·have e2:Z1i F p a=(a,F a):=(by unfold Z1i;rw[if_pos hc]);rw[e2];exact .inr List.mem_cons_self
     ·have e2:Z1i F p a=p:=(by unfold Z1i;rw[if_neg hc]);rw[e2];exact .inl rfl
    ·exact .inr (List.mem_cons_of_mem _ h1)
  rcases key (difs l) (λd=>(difs l).count d) (bs [],0) with h1|h1
  ·left;unfold stepOf;rw[h1];rfl
  ·right;exact⟨h.1,h.2,ZeZ _ h1,h1⟩
theorem ZoQ {M:Int} {l:List Int} :∀ {last:Int},-1<=last->tv last l=true->(∀t∈l,t<=M)->∀g∈gp last l,g<=M:=by
 induction l with
 |nil=>intro _ _ _ _ g hg;cases hg
 |cons a r ih=>
  intro last h0 h hM g hg;obtain⟨h1,h2,h3⟩:=Z38.1 h;rcases List.mem_cons.1 hg with rfl|hg
  ·have:=hM a List.mem_cons_self;omega
  ·exact ih (by omega) h3 (λt ht=>hM t (List.mem_cons_of_mem _ ht)) g hg
theorem ZbR {w:Int} {l:List ByteArray} (h:Z0z w l=true):toL (Z0x l)=[]\/(vld w (toL (Z0x l))=true/\shr (toL (Z0x l))≠[]):=by
 obtain⟨h1,h2,h3,h4⟩:=Z0A.1 h;rcases Z5U l with h5|⟨h5,_,h6,h7⟩
 ·exact .inl h5
 ·right;refine⟨Z0L.2 ⟨Z7n h6,?_⟩,(Zeo _).2 (Z7n h6)⟩;unfold difs difP at h7;obtain⟨j,hj,e⟩:=List.mem_filterMap.1 h7;have sW:=List.mem_range.1 hj;unfold dAt at e;split at e
  ·rename_i hc;injection e with e;rw[<-e,Z0d];have hk:=(Z6x (Prod.ext rfl hc)).2;rw[hk];have cK:j<l.length:=(by omega);have hg:l.getD j default=l[j]:=(by simp[List.getD,cK]);rw[hg];exact(Z0L.1 (h1 _ (List.getElem_mem _))).2
  ·cases e
theorem Zm6 (X:List UInt8):text (bs X)=num X.length++X:=rfl
theorem ZkB {l:List ByteArray} {x:List Int} (h:∀i∈x,0<=i/\i<(l.length:Int)):∀v∈atI l x,v∈l:=by
 intro v hv;obtain⟨i,hi,rfl⟩:=List.mem_map.1 hv;have:=h i hi;have hl:i.toNat<l.length:=(by omega);have hg:l.getD i.toNat default=l[i.toNat]:=(by simp[List.getD,hl]);rw[hg];exact List.getElem_mem _
theorem Zge {l:List ByteArray} {st:ByteArray} :∀i∈exI l st,0<=i/\i<(l.length:Int):=by
 intro i hi;have:=Zf1 i hi;unfold exI at hi;have h2:=Zf1 i hi;omega
theorem Zam (l:List ByteArray) (st:ByteArray):(exI l st).length<=l.length-1:=Z9X _ _ _
theorem Zd3 {w:Int} {l:List ByteArray} (h:Z0z w l=true):Z1B w (codC l)=some l:=by
  obtain⟨h1,h2,h3,h4⟩:=Z0A.1 h;unfold Z1B codC;rw[Z0Z _ _ h4 (by omega)];simp only;by_cases h0:l=[]
  · subst h0
    rfl
  · rw[if_neg h0,if_neg (λe=>h0 (List.eq_nil_of_length_eq_zero e))]
    obtain⟨v0,r,hl⟩:∃v r,l=v::r:=by cases l with|nil=>exact absurd rfl h0|cons v r=>exact⟨v,r,rfl⟩
    have ml:l.getD 0 default=v0:=(by rw[hl];rfl);have hv:=h1 v0 (by rw[hl];exact List.mem_cons_self);have rT:=Z4i h4 (Z0x l);have dM:=Zam l (Z0x l);have nP:=Z19 rT;simp only[Zm6,List.append_assoc];have k1:=Z10 (toL (l.getD 0 default));have k2:=Z10 (toL (Z0x l));rw[Z1m _ _ k1 (by omega)];simp only;rw[Z1m _ _ k2 (by omega)];simp only;rw[Z1m _ _ (by rw[List.length_append,List.length_append];omega) (by omega)];simp only;have jY:(atI l (exI l (Z0x l))).length<=4096:=(by unfold atI;rw[List.length_map];omega);obtain⟨d1,_⟩:=Z3e jY;rw[d1,Z4h rT,if_neg (by simp)];simp only;rw[Z4z (λv bj=>h1 v (ZkB Zge v bj))]
    have aN:extL w [bs (shr (toL (l.getD 0 default)))]=some [v0]:=by
      rw[ml];exact Z4z (l:=[v0]) (λv bj=>by rw[List.mem_singleton] at bj;rw[bj];exact hv)
    rw[aN];simp only;have qO:(Z06 (exI l (Z0x l))).length=(atI l (exI l (Z0x l))).length:=(by unfold Z06 atI;rw[Z0W,List.length_map])
    have au:¬(shr (toL (Z0x l))≠[]/\(ext w (shr (toL (Z0x l)))).2≠0):=by
      rintro⟨e1,e2⟩;rcases ZbR h with h5|⟨h5,_⟩
      · rw[h5] at e1;exact e1 rfl
      · have:=Z9R (Z0L.1 h5).1
        rw[(Z0L.1 h5).2] at this;rw[this] at e2;exact e2 rfl
    have tm:bs (if shr (toL (Z0x l))=[] then[] else(ext w (shr (toL (Z0x l)))).1)=Z0x l:=by
      rcases ZbR h with h5|⟨h5,h6⟩
      · rw[h5]
        have:Z0x l=bs []:=(by rw[<-Z09 (Z0x l),h5]);rw[this];rfl
      · rw[if_neg h6]
        have:=Z9R (Z0L.1 h5).1;rw[(Z0L.1 h5).2] at this;rw[this,Z09]
    have zO:∀g∈Z06 (exI l (Z0x l)),g<(l.length:Int):=by
      intro g hg;have vi:=rT;unfold Z0e at vi;rw[Bool.and_eq_true] at vi;have:=ZoQ (M:=(l.length:Int)-1) (by omega) vi.1 (λt ht=>by have:=Zge t ht;omega) g hg;omega
    rw[if_neg (by rw[qO];simp),if_neg au,if_pos zO,tm];have ak:atS (-1) (Z06 (exI l (Z0x l)))=exI l (Z0x l):=ZnV _ _;rw[ak]
    have ag:=Zji l (Z0x l) (l.length-1) 1 (by omega) (by(have:0<l.length:=by rw[hl];simp);omega)
    rw[Nat.sub_self,ml] at ag;show(runB _ _ _ _ _ v0).map (v0::·)=_;rw[ag,hl];rfl
theorem Zjj {w:Int} {l:List ByteArray} (h:Z0z w l=true):(∀v∈mixL (bs (allV w 48)) l,vld w (toL v)=true)/\Z14 (bs (allV w 48)) (mixL (bs (allV w 48)) l)=l:=by
 obtain⟨h1,h2,h3,h4⟩:=Z0A.1 h;exact Zcz (by rw[Z0d];exact Zf2 h2 h3) h1
theorem Zgf {w:Int} {l:List ByteArray} (h:Z0z w l=true) {c:Nat} (hc:c<=3) {s:List UInt8} (hs:codB c w l=some s):Z5S w (num c++s)=some l:=by
 obtain⟨h1,h2,h3,h4⟩:=Z0A.1 h;unfold Z5S;rw[Z0Z _ _ hc (by omega)];simp only;rcases(show c=0\/c=1\/c=2\/c=3 by omega) with rfl|rfl|rfl|rfl
 ·rw[if_pos rfl];exact Zd2 h hs
 ·rw[if_neg (by decide),if_pos rfl];have:codB 1 w l=some (codC l):=rfl;rw[this] at hs;injection hs with hs;subst hs;exact Zd3 h
 ·rw[if_neg (by decide),if_neg (by decide),if_pos rfl];have:codB 2 w l=some (codM w l):=rfl;rw[this] at hs;injection hs with hs;subst hs;obtain⟨m1,m2⟩:=Zjj h;unfold codM;rw[Z6N m1 (by rw[Z47];exact h4)];show some (Z14 _ _)=_;rw[m2]
 ·rw[if_neg (by decide),if_neg (by decide),if_neg (by decide)];have:codB 3 w l=some (codW l):=rfl;rw[this] at hs;injection hs with hs;subst hs;exact Z6N h1 h4
theorem Z6O (w:Int) (l:List ByteArray):∀k,bstB w l k=[]\/∃c s,c<k/\codB c w l=some s/\bstB w l k=num c++s:=by
 intro k;induction k with
 |zero=>exact .inl rfl
 |succ k ih=>
  have e:bstB w l (k+1)=match codB k w l with
   |none=>bstB w l k
   |some s=>if bstB w l k=[]\/(num k++s).length<(bstB w l k).length then num k++s else bstB w l k:=rfl
  rw[e];match hk:codB k w l with
  |none=>
   simp only;rcases ih with h|⟨c,s,h1,h2,h3⟩
   ·exact .inl h
   ·exact .inr ⟨c,s,by omega,h2,h3⟩
  |some s=>
   simp only;split
   ·exact .inr ⟨k,s,by omega,hk,rfl⟩
   ·rcases ih with h|⟨c,s',h1,h2,h3⟩
    ·exact .inl h
    ·exact .inr ⟨c,s',by omega,h2,h3⟩
theorem Zgg (n:Nat) (s:List UInt8):num n++s≠[]:=λh=>by
 have:=congrArg List.length h;rw[List.length_append,Z07] at this;simp at this
theorem Z4H {w:Int} {l:List ByteArray} (h:Z0z w l=true):∃c s,c<=3/\codB c w l=some s/\Z12 w l=(num c++s,0):=by
 unfold Z12;rw[if_neg (by rw[h];simp)];rcases Z6O w l 4 with h1|⟨c,s,h1,h2,h3⟩
 ·exfalso;have e:bstB w l 4=if bstB w l 3=[]\/(num 3++codW l).length<(bstB w l 3).length then num 3++codW l else bstB w l 3:=rfl
  rw[e] at h1;split at h1
  ·exact Zgg _ _ h1
  ·rename_i h2;exact h2 (.inl h1)
 ·exact⟨c,s,by omega,h2,by rw[h3]⟩
theorem Zjk {w:Int} {l:List ByteArray} (h:Z0z w l=false):Z12 w l=([],2):=by unfold Z12;rw[if_pos h]
theorem Zd4 {w:Int} {l:List ByteArray} (h:(Z12 w l).2=0):Z0z w l=true:=by
 cases hv:Z0z w l with
 |true=>rfl
 |false=>rw[Zjk hv] at h;cases h
theorem Zjl {w:Int} {l:List ByteArray} (h:Z0z w l=true) {c:Nat} (hc:c<=3) {s:List UInt8} (hs:codB c w l=some s) (most:Int):
  decB w (num c++s) most=if(Z12 w l).1≠num c++s then([],12) else if most<(l.length:Int) then([],2) else(l,0):=by
 obtain⟨h1,h2,h3,h4⟩:=Z0A.1 h;have h5:(Z12 w l).2=0:=(by obtain⟨c,s,_,_,he⟩:=Z4H h;rw[he]);unfold decB okB;rw[if_neg (by omega),Zgf h hc hs];simp only;rw[h5];simp
theorem Zjm {w:Int} {l:List ByteArray} (h:Z0z w l=true) (most:Int):decB w (Z12 w l).1 most=if most<(l.length:Int) then([],2) else(l,0):=by
 obtain⟨c,s,hc,hs,he⟩:=Z4H h;have:=Zjl h hc hs most;rw[he] at this⊢;simpa using this
theorem Z5V (w:Int) (data:List UInt8) (most:Int):((w<1\/128<w)/\decB w data most=([],1))\/(1<=w/\w<=128/\(decB w data most=([],12)\/decB w data most=([],2)))\/∃l,decB w data most=(l,0)/\Z12 w l=(data,0)/\Z0z w l=true/\(l.length:Int)<=most:=by
 unfold decB;by_cases hw:w<1\/128<w
 ·rw[if_pos hw];exact .inl ⟨hw,rfl⟩
 ·rw[if_neg hw];right;unfold okB;match h:Z5S w data with
  |none=>exact .inl ⟨by omega,by omega,.inl rfl⟩
  |some l=>
   simp only;by_cases h1:(Z12 w l).2≠0\/(Z12 w l).1≠data
   ·rw[if_pos h1];exact .inl ⟨by omega,by omega,.inl rfl⟩
   ·rw[if_neg h1];simp only[not_or,Decidable.not_not] at h1;by_cases h2:most<(l.length:Int)
    ·rw[if_pos h2];exact .inl ⟨by omega,by omega,.inr rfl⟩
    ·rw[if_neg h2];exact .inr ⟨l,rfl,Prod.ext h1.2 h1.1,Zd4 h1.1,by omega⟩
end Go.Proofs.YtchokmkfobandaaGreatDoor
namespace Go.Proofs.YtchokmkfobandaaGreatDoor
open Go.RowKit Go.Proofs Wv Wv.Vi Wv.Rc Wv.Mo Wv.Ru Wv.Bc
theorem Z1c {w:World} {A:Option Addr} {l:List ByteArray} (h:At w A (svs l)) (i:Nat) (hi:i<l.length):∃b o,A=some ⟨b,o,none⟩/\b<w.heap.size/\w.cell? ⟨b,o+i,none⟩=some (.string l[i]):=
 h.get i _ (Z1p l i hi)
theorem Z4I {w:World} {A:Option Addr} {l:List ByteArray} (ha:At w A (svs l)) (ad:∀s∈l,s.size<=1099511627776) (n cap:Nat) (hn:n=l.length) (hm:n<=9223372036854775807) (W:Int):
  Calls Tryz.prog 56 #[.int .i64 W,.slice A n cap] w λx w'=>x=.returned (.bool (Z0z W l))/\Below w.heap.size w w':=by
 have Ha:=h_ ha
 have Hv:=h_ (λ(v:ByteArray) (hv:v∈l) W2=>(by
  have:=Z9Z W (toL v) (by rw[Z01];exact ad v hv) W2;rw[Z09] at this;exact this:Calls Tryz.prog 75 #[.int .i64 W,.string v] W2 λx w'=>x=.returned (.bool (vld W (toL v)))/\Below W2.heap.size W2 w'))
 have aA:=h_ (Below.refl w.heap.size w);have Hn:=h_ hn;clear ha ad hn;go_enter Tryz.func56,Tryz.ntmps56;go_wp2;go_loopw [9] (λs9 wr=>∃j:Nat,j<=n/\s9=.int .i64 (j:Int)/\Hid (∀v∈l.take j,vld W (toL v)=true)/\Hid (Below w.heap.size w wr)) (λs9 _=>(n-intOf s9).toNat);case atStart=>exact⟨0,Nat.zero_le _,rfl,h_ (by simp),aA⟩
 case round=>
  clear aA;obtain⟨j,hj,rfl,ar,hb⟩:=hrel;by_cases ab:j<n
  ·have cK:j<l.length:=(by rw[<-Hn.o];exact ab);obtain⟨b,o,rfl,cl,hc⟩:=Z1c (Ha.o.below hb.o) j cK;have cC:=h_ (Hv.o l[j] (List.getElem_mem _));have bZ:l.take (j+1)=l.take j++[l[j]]:=List.take_succ_eq_append_getElem cK;have mR:=h_ (List.getElem_mem cK);obtain⟨S,hS⟩:∃S,l[j]=S:=⟨_,rfl⟩;rw[hS] at hc cC bZ mR;have gI:=h_ bZ;clear bZ hS cK;cases hv:vld W (toL S) with
   |true=>
    rw[hv] at cC
    have pG:=h_ (show ∀v∈l.take (j+1),vld W (toL v)=true from λv hm=>by
     rw[gI.o,List.mem_append,List.mem_singleton] at hm;rcases hm with hm|rfl
     ·exact ar.o v hm
     ·exact hv)
    clear ar gI hv;go_wp2_with fail;refine(cC.o _).mono ?_;rintro x w1 ⟨rfl,a7⟩;have al:=h_ (hb.o.trans (a7.mono hb.o.size));clear a7 cC hb;go_wp2;refine⟨⟨j+1,ab,by go_num,pG,al⟩,?_⟩;simp[intOf]<;>omega
   |false=>
    rw[hv] at cC
    have aD:=h_ (show Z0z W l=false by
     cases h:Z0z W l with
     |false=>rfl
     |true=>
      have:=(Z0A.1 h).1 S mR.o;rw[hv] at this;cases this)
    clear ar gI hv;go_wp2_with fail;refine(cC.o _).mono ?_;rintro x w1 ⟨rfl,a7⟩;have al:=h_ (hb.o.trans (a7.mono hb.o.size));clear a7 cC hb;go_wp2;go_returns;exact⟨by rw[aD.o];rfl,al.o⟩
  ·have im:j=n:=(by omega);have iy:=ar.o;rw[im,List.take_of_length_le (by rw[Hn.o];exact Nat.le_refl _)] at iy
   have fa:Z0z W l=(decide (1<=W)&&decide (W<=128)&&decide (n<=4096)):=by
    unfold Z0z;rw[<-Hn.o,List.all_eq_true.2 iy,Bool.true_and]
   have aD:=h_ fa;clear ar iy fa Hv;by_cases h1:1<=W
   ·by_cases h2:W<=128
    ·by_cases h3:(n:Int)<=4096
     ·have Gy:n<=4096:=(by omega);rw[decide_eq_true h1,decide_eq_true h2,decide_eq_true Gy] at aD;go_wp2;go_returns;exact⟨by rw[aD.o];rfl,hb.o⟩
     ·have Gy:¬n<=4096:=(by omega);rw[decide_eq_true h1,decide_eq_true h2,decide_eq_false Gy] at aD;go_wp2;go_returns;exact⟨by rw[aD.o];rfl,hb.o⟩
    ·rw[decide_eq_true h1,decide_eq_false h2] at aD;go_wp2;go_returns;exact⟨by rw[aD.o];rfl,hb.o⟩
   ·rw[decide_eq_false h1] at aD;go_wp2;go_returns;exact⟨by rw[aD.o];rfl,hb.o⟩
theorem Zan (l:List ByteArray):(svs l).length=l.length:=by unfold svs;rw[List.length_map]
def Z3f (F:ByteArray->ByteArray) (l:List ByteArray) (i:Nat):List ByteArray:=(l.take i).map F++List.replicate (l.length-i) ⟨#[]⟩
theorem Z9c (F:ByteArray->ByteArray) (l:List ByteArray) (i:Nat) (hi:i<=l.length):(Z3f F l i).length=l.length:=by
 unfold Z3f;rw[List.length_append,List.length_map,List.length_take,List.length_replicate];omega
theorem Z9d (F:ByteArray->ByteArray) (l:List ByteArray) (i:Nat) (hi:i<l.length):(Z3f F l i).set i (F l[i])=Z3f F l (i+1):=by
 have hz:((l.take i).map F).length=i:=(by rw[List.length_map,List.length_take];omega);unfold Z3f;rw[List.set_append_right _ _ (by omega),hz,Nat.sub_self,List.take_succ_eq_append_getElem hi,List.map_append,show l.length-i=(l.length-(i+1))+1 by omega,List.replicate_succ,List.set_cons_zero];simp
theorem Z9e (F:ByteArray->ByteArray) (l:List ByteArray):Z3f F l l.length=l.map F:=by
 unfold Z3f;rw[List.take_length,Nat.sub_self,List.replicate_zero,List.append_nil]
theorem Zgh (F:ByteArray->ByteArray) (l:List ByteArray):(svs (Z3f F l 0)).toArray=Array.replicate l.length (.string ⟨#[]⟩:Value):=by
 unfold Z3f;rw[List.take_zero,List.map_nil,List.nil_append,Nat.sub_zero];unfold svs;rw[List.map_replicate];rfl
theorem Z5W {w:World} {g:Nat} {t:TypeId} {l:List ByteArray} (h:Bk w g t (svs l).toArray) (i:Nat) (x:ByteArray):Bk (w.setCell ⟨g,i,none⟩ (.string x)) g t (svs (l.set i x)).toArray:=by
 have:=h.put i (.string x);rw[List.setIfInBounds_toArray] at this;unfold svs at this⊢;rw[List.map_set];exact this
theorem Z4J {w:World} {A:Option Addr} {l:List ByteArray} (ha:At w A (svs l)) (ad:∀s∈l,s.size<=1099511627776) (n cap:Nat) (hn:n=l.length) (hm:n<=1099511627776):
  Calls Tryz.prog 169 #[.slice A n cap] w λx w'=>∃g,x=.returned (.slice (some ⟨g,0,none⟩) n n)/\w.heap.size<=g/\g<w'.heap.size/\At w' (some ⟨g,0,none⟩) (svs (Z0F l))/\Below w.heap.size w w':=by
 have Ha:=h_ ha
 have Hv:=h_ (λ(v:ByteArray) (hv:v∈l) W2=>(by
  have:=Z6z (toL v) (by rw[Z01];exact ad v hv) W2;rw[Z09] at this;exact this:Calls Tryz.prog 97 #[.string v] W2 λx w'=>x=.returned (.string (bs (shr (toL v))))/\Below W2.heap.size W2 w'))
 have bE:=Z1g (P:=Tryz.prog) 64 9 (.string ⟨#[]⟩) 16 Tryz.underlying64 Z1x rfl (n:Int) n rfl (by omega) (by omega) w;have bU:=Bk.new w 9 (Array.replicate n (.string ⟨#[]⟩));have aA:=h_ (Z0y w (.cells (Array.replicate n (.string ⟨#[]⟩)) 9));have fE:Array.replicate n (.string ⟨#[]⟩:Value)=(svs (Z3f (λv=>bs (shr (toL v))) l 0)).toArray:=(by rw[hn,Zgh]);have jJ:=h_ fE;have dL:w.heap.size<(w.alloc (.cells (Array.replicate n (.string ⟨#[]⟩)) 9)).heap.size:=(by rw[World.size_alloc];omega);have dw:=h_ bU;have R7:=h_ dL;have Hn:=h_ hn;generalize w.alloc (.cells (Array.replicate n (.string ⟨#[]⟩)) 9)=W0 at*;rw[jJ.o] at dw;clear ha ad hn bU fE dL jJ;go_enter Tryz.func169,Tryz.ntmps169;go_wp2;go_loopw [11] (λkK wr=>∃j:Nat,j<=n/\kK=.int .i64 (j:Int)/\Hid (Bk wr w.heap.size 9 (svs (Z3f (λv=>bs (shr (toL v))) l j)).toArray)/\Hid (Below w.heap.size w wr)) (λkK _=>(n-intOf kK).toNat);case atStart=>exact⟨0,Nat.zero_le _,rfl,dw,aA⟩
 case round=>
  clear aA dw bE;obtain⟨j,hj,rfl,hk,hb⟩:=hrel;by_cases ab:j<n
  ·have cK:j<l.length:=(by rw[<-Hn.o];exact ab);obtain⟨b,o,rfl,cl,hc⟩:=Z1c (Ha.o.below hb.o) j cK;have cC:=h_ (Hv.o l[j] (List.getElem_mem _));have aT:=h_ (Z9d (λv=>bs (shr (toL v))) l j cK);have hlen:=Z9c (λv=>bs (shr (toL v))) l j (by omega);obtain⟨S,hS⟩:∃S,l[j]=S:=⟨_,rfl⟩;rw[hS] at hc cC aT;obtain⟨T,hT⟩:∃T,bs (shr (toL S))=T:=⟨_,rfl⟩;rw[hT] at cC aT;have aq:=h_ (show j<(Z3f (λv=>bs (shr (toL v))) l j).length by rw[hlen];exact cK);clear hS hT cK hlen;have di:(j:Int)<(n:Int):=(by omega);have hU:(0:Int)<=(j:Int):=(by omega);go_wp2_with fail;refine(cC.o _).mono ?_;rintro x w1 ⟨rfl,a7⟩;have aP:=hk.o.below a7 hk.o.lt;have hcell:=aP.cell j;rw[List.getElem?_toArray,Z1p _ _ aq.o] at hcell;have eU:=aP.frozen j;have aj:=Z5W aP j T;rw[aT.o] at aj;have av:=h_ aj;have al:=h_ ((hb.o.trans (a7.mono hb.o.size)).setCell (p:=⟨w.heap.size,j,none⟩) (Nat.le_refl _) (.string T));generalize (Z3f (λv=>bs (shr (toL v))) l j)[j]=OLD at*;clear a7 cC hb hk aP aj aT aq;go_wp2;refine⟨⟨j+1,ab,by go_num,av,al⟩,?_⟩;simp[intOf]<;>omega
  ·have im:j=n:=(by omega);have aP:=hk.o;rw[im,Hn.o,Z9e] at aP;have fP:=h_ aP;clear aP hk Hv;go_wp2;go_returns;refine⟨_,rfl,Nat.le_refl _,fP.o.lt,?_,hb.o⟩;have:=fP.o.at_;rw[List.toList_toArray] at this;exact this
theorem Zjn {w:Int} {l:List ByteArray} (h:∀s∈l,(ext w (toL s)).2=0):extL w l=some (l.map (λs=>bs (ext w (toL s)).1)):=by
 induction l with
 |nil=>rfl
 |cons s r ih=>
  unfold extL;rw[if_pos (h s List.mem_cons_self),ih (λx hx=>h x (List.mem_cons_of_mem _ hx))];rfl
theorem Zjo {w:Int} {l:List ByteArray} {s:ByteArray} (hs:s∈l) (h:(ext w (toL s)).2≠0):extL w l=none:=by
 induction l with
 |nil=>cases hs
 |cons a r ih=>
  unfold extL;by_cases ha:(ext w (toL a)).2=0
  ·rw[if_pos ha];rcases List.mem_cons.1 hs with rfl|hs
   ·exact absurd ha h
   ·rw[ih hs];rfl
  ·rw[if_neg ha]
def LgR (w:World) (o:Option (List ByteArray)) (x:Ending) (w':World):Prop:=Below w.heap.size w w'/\match o with
 |none=>∃A,x=.returned (.tuple #[.slice A 0 0,.bool false])
 |some r=>∃g,x=.returned (.tuple #[.slice (some ⟨g,0,none⟩) r.length r.length,.bool true])/\w.heap.size<=g/\Bk w' g 9 (svs r).toArray
theorem Z4j {w:World} {A:Option Addr} {l:List ByteArray} (ha:At w A (svs l)) (ad:∀s∈l,s.size<=1099511627776) (n cap:Nat) (hn:n=l.length) (hm:n<=1099511627776) (W:Int):
  Calls Tryz.prog 206 #[.agg #[.int .i64 W],.slice A n cap] w λx w'=>LgR w (extL W l) x w':=by
 have bN:=Bk.new w 127 #[.int .i64 W];have aA:=Z0y w (.cells #[.int .i64 W] 127);have bE:=Z1g (P:=Tryz.prog) 64 9 (.string ⟨#[]⟩) 16 Tryz.underlying64 Z1x rfl (n:Int) n rfl (by omega) (by omega) (w.alloc (.cells #[.int .i64 W] 127));have bU:=Bk.new (w.alloc (.cells #[.int .i64 W] 127)) 9 (Array.replicate n (.string ⟨#[]⟩));have bY:=h_ (bN.alloc (.cells (Array.replicate n (.string ⟨#[]⟩)) 9));have a7:=h_ (aA.alloc aA.size (.cells (Array.replicate n (.string ⟨#[]⟩)) 9));have fE:Array.replicate n (.string ⟨#[]⟩:Value)=(svs (Z3f (λs=>bs (ext W (toL s)).1) l 0)).toArray:=(by rw[hn,Zgh]);rw[World.size_alloc] at bE bU;have Ha:=h_ ha
 have Hv:=h_ (λ(v:ByteArray) (hv:v∈l) W2=>(by
  have:=Zlv W (toL v) (by rw[Z01];exact ad v hv) W2;rw[Z09] at this;exact this:Calls Tryz.prog 148 #[.int .i64 W,.string v] W2 λx w'=>x=.returned (.tuple #[.string (bs (ext W (toL v)).1),.int .i64 ((ext W (toL v)).2:Int)])/\Below W2.heap.size W2 w'))
 have jJ:=h_ fE;have dw:=h_ bU;have Hn:=h_ hn;generalize (w.alloc (.cells #[.int .i64 W] 127)).alloc (.cells (Array.replicate n (.string ⟨#[]⟩)) 9)=W0 at*;rw[jJ.o] at dw;clear ha ad hn bU fE jJ bN aA;go_enter Tryz.func206,Tryz.ntmps206;go_wp2;go_loopw [16] (λiz wr=>∃j:Nat,j<=n/\iz=.int .i64 (j:Int)/\Hid (∀s∈l.take j,(ext W (toL s)).2=0)/\Hid (Bk wr (w.heap.size+1) 9 (svs (Z3f (λs=>bs (ext W (toL s)).1) l j)).toArray)/\Hid (Bk wr w.heap.size 127 #[.int .i64 W])/\Hid (Below w.heap.size w wr)) (λiz _=>(n-intOf iz).toNat);case atStart=>exact⟨0,Nat.zero_le _,rfl,h_ (by simp),dw,bY,a7⟩
 case round=>
  clear a7 dw bE bY;obtain⟨j,hj,rfl,ar,hk,eR,hb⟩:=hrel;by_cases ab:j<n
  ·have cK:j<l.length:=(by rw[<-Hn.o];exact ab);obtain⟨b,o,rfl,cl,hc⟩:=Z1c (Ha.o.below hb.o) j cK;have cC:=h_ (Hv.o l[j] (List.getElem_mem _));have mR:=h_ (List.getElem_mem cK);have aT:=h_ (Z9d (λs=>bs (ext W (toL s)).1) l j cK);have hlen:=Z9c (λs=>bs (ext W (toL s)).1) l j (by omega);have bZ:l.take (j+1)=l.take j++[l[j]]:=List.take_succ_eq_append_getElem cK;obtain⟨S,hS⟩:∃S,l[j]=S:=⟨_,rfl⟩;rw[hS] at hc cC aT bZ mR;have gI:=h_ bZ;have aq:=h_ (show j<(Z3f (λs=>bs (ext W (toL s)).1) l j).length by rw[hlen];exact cK);have vj:wr.cell? ⟨w.heap.size,0,none⟩=some (.int .i64 W):=eR.o.cell 0;obtain⟨T,hT⟩:∃T,bs (ext W (toL S)).1=T:=⟨_,rfl⟩;rw[hT] at cC aT;clear hS hT cK hlen bZ;have di:(j:Int)<(n:Int):=(by omega);have hU:(0:Int)<=(j:Int):=(by omega);by_cases he:(ext W (toL S)).2=0
   ·rw[he] at cC
    have pG:=h_ (show ∀v∈l.take (j+1),(ext W (toL v)).2=0 from λv hm=>by
     rw[gI.o,List.mem_append,List.mem_singleton] at hm;rcases hm with hm|rfl
     ·exact ar.o v hm
     ·exact he)
    clear he gI mR ar;go_wp2_with fail;refine(cC.o _).mono ?_;rintro x w1 ⟨rfl,a7⟩;have aP:=hk.o.below a7 hk.o.lt;have pH:=h_ (eR.o.below a7 eR.o.lt);have hcell:=aP.cell j;rw[List.getElem?_toArray,Z1p _ _ aq.o] at hcell;have eU:=aP.frozen j;have aj:=Z5W aP j T;rw[aT.o] at aj;have av:=h_ aj;have ni:=h_ (pH.o.off (p:=⟨w.heap.size+1,j,none⟩) (by simp) (.string T));have al:=h_ ((hb.o.trans (a7.mono hb.o.size)).setCell (p:=⟨w.heap.size+1,j,none⟩) (by simp) (.string T));generalize (Z3f (λs=>bs (ext W (toL s)).1) l j)[j]=OLD at*;clear a7 cC hb hk aP aj aT aq pH eR vj;go_wp2;refine⟨⟨j+1,ab,by go_num,pG,av,ni,al⟩,?_⟩;simp[intOf]<;>omega
   ·have aD:=h_ (Zjo mR.o he);have ay:(((ext W (toL S)).2:Int) !=0)=true:=(by rw[bne_iff_ne];omega);generalize ((ext W (toL S)).2:Int)=E at*;clear he gI mR ar aT aq;go_wp2_with fail;refine(cC.o _).mono ?_;rintro x w1 ⟨rfl,a7⟩;have al:=h_ (hb.o.trans (a7.mono hb.o.size));clear a7 cC hb;go_wp2;go_returns;refine⟨al.o,?_⟩;rw[aD.o];exact⟨none,rfl⟩
  ·have im:j=n:=(by omega);have aP:=hk.o;rw[im,Hn.o,Z9e] at aP;have fP:=h_ aP;have iy:=ar.o;rw[im,List.take_of_length_le (by rw[Hn.o];exact Nat.le_refl _)] at iy;have aD:=h_ (Zjn iy);have Hl:=h_ (show(l.map (λs=>bs (ext W (toL s)).1)).length=n by rw[List.length_map,Hn.o]);clear aP hk Hv ar iy;go_wp2;go_returns;refine⟨hb.o,?_⟩;rw[aD.o];exact⟨_,by rw[Hl.o];rfl,by omega,fP.o⟩
theorem Zd5 {w:World} {A:Option Addr} {l:List ByteArray} (ha:At w A (svs l)) (ad:∀s∈l,s.size<=1099511627776) (n cap:Nat) (hn:n=l.length) (hm:n<=4096) (W:Int):
  Calls Tryz.prog 123 #[.agg #[.int .i64 W],.slice A n cap] w λx w'=>x=.returned (.tuple #[.string (bs (codW l)),.bool true])/\Below w.heap.size w w':=by
 have aA:=Z0y w (.cells #[.int .i64 W] 127);have H1:=h_ (Z4J (ha.alloc (.cells #[.int .i64 W] 127)) ad n cap hn (by omega));have gT:n=(Z0F l).length:=(by unfold Z0F;rw[List.length_map];exact hn);have nV:=Z2Q (l:=l) (by omega);have H2:=h_ (λW2 (B:Option Addr) (c:Nat) (h:At W2 B (svs (Z0F l)))=>Z1N h (λs hs=>by have:=nV.2 s hs;omega) n c gT (by omega));have cF:=Z3e (l:=l) (by omega);have he:((enc (Z0F l)).2:Int)=0:=(by rw[cF.2];rfl);unfold codW;unfold ERes at H2;rw[cF.2] at H2;have aI:=h_ aA;generalize bs (enc (Z0F l)).1=SR at*;clear ha ad hn gT nV cF he aA;go_enter Tryz.func123,Tryz.ntmps123;go_wp2_with fail;refine(H1.o).mono ?_;rintro x w1 ⟨g,rfl,df,R8,ak,a7⟩;have hb:=aI.o.trans (a7.mono aI.o.size);clear a7 H1 aI;have H3:=h_ (H2.o w1 _ n ak);clear H2 ak;go_wp2_with fail;refine(H3.o).mono ?_;rintro x w2 ⟨rfl,a8⟩;have aQ:=hb.trans (a8.mono hb.size);clear hb a8 H3;go_wp2;go_returns;exact⟨rfl,aQ⟩
end Go.Proofs.YtchokmkfobandaaGreatDoor
