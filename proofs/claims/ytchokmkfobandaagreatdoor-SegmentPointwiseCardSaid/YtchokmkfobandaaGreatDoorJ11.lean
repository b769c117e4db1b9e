import Derived.Test.YtchokmkfobandaaGreatDoorJ08
set_option linter.unusedVariables false
set_option linter.unusedSimpArgs false
set_option maxRecDepth 100000
set_option maxHeartbeats 8000000
namespace Wv.Bc
def cd (c:UInt8):Nat:=if c=48 then 0 else if c=49 then 1 else if c=120 then 2 else if c=122 then 3 else 4
def ch (n:Nat):UInt8:=if n=0 then 48 else if n=1 then 49 else if n=2 then 120 else 122
theorem Z56 (c:UInt8):(c=48/\cd c=0)\/(c=49/\cd c=1)\/(c=120/\cd c=2)\/(c=122/\cd c=3)\/(c≠48/\c≠49/\c≠120/\c≠122/\cd c=4):=by
 unfold cd;by_cases h1:c=48
 ·exact .inl ⟨h1,by rw[if_pos h1]⟩
 ·rw[if_neg h1];by_cases h2:c=49
  ·exact .inr (.inl ⟨h2,by rw[if_pos h2]⟩)
  ·rw[if_neg h2];by_cases h3:c=120
   ·exact .inr (.inr (.inl ⟨h3,by rw[if_pos h3]⟩))
   ·rw[if_neg h3];by_cases h4:c=122
    ·exact .inr (.inr (.inr (.inl ⟨h4,by rw[if_pos h4]⟩)))
    ·exact .inr (.inr (.inr (.inr ⟨h1,h2,h3,h4,by rw[if_neg h4]⟩)))
theorem Znk (c:UInt8):cd c<=4:=by rcases Z56 c with ⟨_,h⟩|⟨_,h⟩|⟨_,h⟩|⟨_,h⟩|⟨_,_,_,_,h⟩<;>omega
theorem Zlc (n:Nat) (h:n<4):cd (ch n)=n:=by
 rcases(show n=0\/n=1\/n=2\/n=3 by omega) with rfl|rfl|rfl|rfl<;>decide
theorem Znl (c:UInt8) (h:cd c<4):ch (cd c)=c:=by
 rcases Z56 c with ⟨rfl,_⟩|⟨rfl,_⟩|⟨rfl,_⟩|⟨rfl,_⟩|⟨_,_,_,_,h4⟩
 ·decide
 ·decide
 ·decide
 ·decide
 ·omega
def isC (c:UInt8):Bool:=decide (cd c<4)
def isV (v:List UInt8):Bool:=v.all isC&& !v.isEmpty&&decide (v.length<=128)
def knV (v:List UInt8):Bool:=isV v&&v.all (λc=>decide (cd c<2))
def vld (w:Int) (v:List UInt8):Bool:=isV v&&decide ((v.length:Int)=w)
theorem Z0t {v:List UInt8} :isV v=true↔(∀c∈v,cd c<4)/\v≠[]/\v.length<=128:=by
 unfold isV isC;rw[Bool.and_eq_true,Bool.and_eq_true,List.all_eq_true,decide_eq_true_iff,and_assoc];cases v<;>simp
theorem Z1o {v:List UInt8} :knV v=true↔(∀c∈v,cd c<2)/\v≠[]/\v.length<=128:=by
 unfold knV;rw[Bool.and_eq_true,Z0t,List.all_eq_true];constructor
 ·rintro⟨⟨h1,h2,h3⟩,h4⟩;exact⟨λc hc=>by simpa using h4 c hc,h2,h3⟩
 ·rintro⟨h1,h2,h3⟩;exact⟨⟨λc hc=>by have:=h1 c hc;omega,h2,h3⟩,λc hc=>by simpa using h1 c hc⟩
theorem Z7n {v:List UInt8} (h:knV v=true):isV v=true:=by unfold knV at h;rw[Bool.and_eq_true] at h;exact h.1
theorem Z0L {w:Int} {v:List UInt8} :vld w v=true↔isV v=true/\(v.length:Int)=w:=by
 unfold vld;rw[Bool.and_eq_true,decide_eq_true_iff]
def allV (w:Int) (c:UInt8):List UInt8:=if w<1\/128<w\/isC c=false then[] else List.replicate w.toNat c
def fr (c:UInt8):UInt8:=if c=49 then 48 else c
theorem ZoB (c:UInt8):fr (fr c)=fr c:=by
 unfold fr;by_cases h:c=49
 ·rw[if_pos h];rfl
 ·rw[if_neg h,if_neg h]
theorem ZoC {c:UInt8} (h:cd c<4):cd (fr c)<4:=by
 unfold fr;split
 ·decide
 ·exact h
def ext (w:Int) (s:List UInt8):List UInt8×Nat:=
 if w<1\/128<w then([],1) else match s with
  |[]=>([],3)
  |c::t=>if(c::t).all isC=false then([],3) else if w<((c::t).length:Int) then([],8) else(List.replicate (w.toNat-(c::t).length) (fr c)++(c::t),0)
def shq:List UInt8->List UInt8
 |a::b::r=>if a=fr b then shq (b::r) else a::b::r
 |l=>l
def shr (v:List UInt8):List UInt8:=if isV v=true then shq v else[]
theorem Z5z (a b:UInt8) (r:List UInt8):shq (a::b::r)=if a=fr b then shq (b::r) else a::b::r:=rfl
theorem Z7o:∀(v:List UInt8),v≠[]->∃k c t,shq v=c::t/\v=List.replicate k (fr c)++(c::t)
 |[],h=>absurd rfl h
 |[a],_=>⟨0,a,[],rfl,rfl⟩
 |a::b::r,_=>by
  obtain⟨k,c,t,h1,h2⟩:=Z7o (b::r) (by simp);rw[Z5z];by_cases h:a=fr b
  ·rw[if_pos h];refine⟨k+1,c,t,h1,?_⟩
   have hb:fr b=fr c:=by
    cases k with
    |zero=>simp only[List.replicate_zero,List.nil_append] at h2;injection h2 with h3 _;rw[h3]
    |succ k=>rw[List.replicate_succ,List.cons_append] at h2;injection h2 with h3 _;rw[h3,ZoB]
   rw[List.replicate_succ,List.cons_append,<-h2,h,hb]
  ·rw[if_neg h];exact⟨0,a,b::r,rfl,rfl⟩
theorem Z9R {v:List UInt8} (h:isV v=true):ext (v.length:Int) (shr v)=(v,0):=by
 obtain⟨h1,h2,h3⟩:=Z0t.1 h;obtain⟨k,c,t,e1,e2⟩:=Z7o v h2;have hl:=congrArg List.length e2;rw[List.length_append,List.length_replicate] at hl;have bR:0<v.length:=List.length_pos_iff.2 h2;unfold shr ext;rw[if_pos h,e1,if_neg (by omega)];simp only
 have ha:(c::t).all isC=true:=by
  rw[List.all_eq_true];intro x hx;unfold isC;rw[decide_eq_true_iff];exact h1 x (by rw[e2];exact List.mem_append_right _ hx)
 rw[ha,if_neg (by simp),if_neg (by omega)];rw[Int.toNat_natCast,show v.length-(c::t).length=k by omega,<-e2]
theorem Zeo (v:List UInt8):(shr v).length<=v.length/\(isV v=true->shr v≠[]):=by
 unfold shr;by_cases h:isV v=true
 ·rw[if_pos h];obtain⟨k,c,t,e1,e2⟩:=Z7o v (Z0t.1 h).2.1;refine⟨?_,λ_=>by rw[e1];simp⟩;rw[e1];have hl:=congrArg List.length e2;rw[List.length_append,List.length_replicate] at hl;omega
 ·rw[if_neg h];exact⟨by simp,λh2=>absurd h2 h⟩
theorem Z10 (v:List UInt8):(shr v).length<=128:=by
 by_cases h:isV v=true
 ·have:=(Zeo v).1;have:=(Z0t.1 h).2.2;omega
 ·unfold shr;rw[if_neg h];simp
theorem Zep {w:Int} {s v:List UInt8} (h:ext w s=(v,0)):vld w v=true:=by
 unfold ext at h;split at h
 ·cases h
 ·rename_i hw;cases s with
  |nil=>cases h
  |cons c t=>
   simp only at h;split at h
   ·cases h
   ·rename_i ha;split at h
    ·cases h
    ·rename_i hl;injection h with h _;subst h
     have mj:∀x∈c::t,cd x<4:=by
      have:(c::t).all isC=true:=(by simpa using ha);rw[List.all_eq_true] at this;intro x hx;have:=this x hx;unfold isC at this;simpa using this
     have hlen:(List.replicate (w.toNat-(c::t).length) (fr c)++(c::t)).length=w.toNat:=by
      rw[List.length_append,List.length_replicate];omega
     refine Z0L.2 ⟨Z0t.2 ⟨λx hx=> ?_,by simp,by rw[hlen];omega⟩,by rw[hlen];omega⟩;rcases List.mem_append.1 hx with hx|hx
     ·rw[List.eq_of_mem_replicate hx];exact ZoC (mj c List.mem_cons_self)
     ·exact mj x hx
def mx (a b:UInt8):UInt8:=ch (cd a ^^^ cd b)
def mixV (a b:List UInt8):List UInt8×Nat:=if isV a=false\/isV b=false then([],1) else if a.length≠b.length then([],8) else(List.zipWith mx a b,0)
theorem Zeq:∀x,x<4->∀y,y<4->x ^^^ y<4/\(x ^^^ y) ^^^ y=x/\x ^^^ y=y ^^^ x/\(x+y) % 2+2*((x/2+y/2) % 2)=x ^^^ y:=by decide
theorem ZoD {a b:UInt8} (ha:cd a<4) (hb:cd b<4):cd (mx a b)<4:=by
 unfold mx;have:=(Zeq _ ha _ hb).1;rw[Zlc _ this];exact this
theorem ZoE {a b:UInt8} (ha:cd a<4) (hb:cd b<4):mx (mx a b) b=a:=by
 have h1:=Zeq _ ha _ hb;show ch (cd (ch (cd a ^^^ cd b)) ^^^ cd b)=a;rw[Zlc _ h1.1,h1.2.1,Znl a ha]
theorem Zld {a b:List UInt8} (ha:isV a=true) (hb:isV b=true) (hl:a.length=b.length):isV (List.zipWith mx a b)=true/\(List.zipWith mx a b).length=a.length:=by
 obtain⟨a1,a2,a3⟩:=Z0t.1 ha;obtain⟨b1,_,_⟩:=Z0t.1 hb;have hlen:(List.zipWith mx a b).length=a.length:=(by rw[List.length_zipWith];omega);refine⟨Z0t.2 ⟨λc hc=> ?_,λh=> ?_,by omega⟩,hlen⟩
 ·obtain⟨i,hi,rfl⟩:=List.getElem_of_mem hc;rw[List.getElem_zipWith];exact ZoD (a1 _ (List.getElem_mem _)) (b1 _ (List.getElem_mem _))
 ·rw[h] at hlen;exact a2 (List.eq_nil_of_length_eq_zero hlen.symm)
theorem Zi9 {a b:List UInt8} (ha:isV a=true) (hb:isV b=true) (hl:a.length=b.length):∃m,mixV a b=(m,0)/\isV m=true/\m.length=a.length/\mixV m b=(a,0):=by
 obtain⟨m1,m2⟩:=Zld ha hb hl;obtain⟨a1,_,_⟩:=Z0t.1 ha;obtain⟨b1,_,_⟩:=Z0t.1 hb;refine⟨List.zipWith mx a b,?_,m1,m2,?_⟩
 ·unfold mixV;rw[if_neg (by simp[ha,hb]),if_neg (by omega)]
 ·unfold mixV;rw[if_neg (by simp[m1,hb]),if_neg (by omega)];congr 1;apply List.ext_getElem
  ·rw[List.length_zipWith];omega
  ·intro i k1 k2;rw[List.getElem_zipWith,List.getElem_zipWith];exact ZoE (a1 _ (List.getElem_mem _)) (b1 _ (List.getElem_mem _))
def sm:List UInt8->List UInt8->Nat->List UInt8×Nat
 |x::a,y::b,c=>(UInt8.ofNat (48+(cd x+cd y+(sm a b c).2) % 2)::(sm a b c).1,(cd x+cd y+(sm a b c).2)/2)
 |_,_,c=>([],c)
def inv (v:List UInt8):List UInt8:=v.map (λc=>ch (if cd c<2 then 1-cd c else cd c))
def addV (a b:List UInt8):List UInt8×Bool:=if knV a=true/\knV b=true/\a.length=b.length then((sm a b 0).1,true) else([],false)
def difV (a b:List UInt8):List UInt8×Bool:=if knV a=true/\knV b=true/\a.length=b.length then((sm b (inv a) 1).1,true) else([],false)
theorem Zbc:∀(a b:List UInt8) (c:Nat),a.length=b.length->(sm a b c).1.length=a.length
 |[],[],_,_=>rfl
 |x::a,y::b,c,h=>by
  show((sm a b c).1.length+1)=_;rw[Zbc a b c (by simpa using h)];rfl
theorem Zer:∀(a b:List UInt8) (c:Nat),∀d∈(sm a b c).1,cd d<2
 |[],_,_=>λd hd=>by simp[sm] at hd
 |_::_,[],_=>λd hd=>by simp[sm] at hd
 |x::a,y::b,c=>λd hd=>by
  rcases List.mem_cons.1 hd with rfl|hd
  ·rcases Nat.mod_two_eq_zero_or_one (cd x+cd y+(sm a b c).2) with h|h<;>rw[h]<;>decide
  ·exact Zer a b c d hd
theorem Z6w {a b v:List UInt8} (h:addV a b=(v,true)):knV v=true/\v.length=a.length/\knV a=true/\knV b=true/\a.length=b.length:=by
 unfold addV at h;split at h
 ·rename_i hc;injection h with h _;subst h;obtain⟨a1,a2,a3⟩:=Z1o.1 hc.1;have hl:=Zbc a b 0 hc.2.2;refine⟨Z1o.2 ⟨Zer a b 0,λe=> ?_,by omega⟩,hl,hc⟩;rw[e] at hl;exact a2 (List.eq_nil_of_length_eq_zero hl.symm)
 ·cases h
theorem Z6x {a b v:List UInt8} (h:difV a b=(v,true)):knV v=true/\v.length=a.length:=by
 unfold difV at h;split at h
 ·rename_i hc;injection h with h _;subst h;obtain⟨a1,a2,a3⟩:=Z1o.1 hc.1;have hl:=Zbc b (inv a) 1 (by unfold inv;rw[List.length_map];omega);refine⟨Z1o.2 ⟨Zer b (inv a) 1,λe=> ?_,by omega⟩,by omega⟩;rw[e] at hl;exact a2 (List.eq_nil_of_length_eq_zero (by simp at hl;omega))
 ·cases h
end Wv.Bc
namespace Go.Proofs.YtchokmkfobandaaGreatDoor
open Go.RowKit Go.Proofs Wv Wv.Vi Wv.Rc Wv.Mo
theorem Z0R:(Tryz.prog.info? 3).map (λi=>(i.zero,i.size,i.bytes))=some (some (.int .i64 0),1,8):=by kernel_rfl
def half (j:Nat):List Nat:=List.replicate j 1024++List.replicate (64-j) 0
theorem Zia (j:Nat) (h:j<64):(half j).set j 1024=half (j+1):=by
 unfold half;rw[List.set_append_right _ _ (by simp),List.length_replicate,Nat.sub_self,show 64-j=(64-(j+1))+1 from by omega,List.replicate_succ,List.set_cons_zero,List.replicate_succ',List.append_assoc];rfl
theorem Z9S (j:Nat) (h:j<=64):(half j).length=64:=by simp[half];omega
theorem Zib:half 64=t0:=by decide
theorem Zes:nc (half 0)=Array.replicate 64 (.int .i64 0):=by
 apply Array.toList_inj.1;simp[nc,half]
theorem Zet (w:World):
  Calls Tryz.prog 115 #[.int .i64 1,.int .i64 6] w λx w'=>x=.returned (.slice (some ⟨w.heap.size+1,0,none⟩) 1 1)/\Bk w' w.heap.size 3 (nc t0)/\Bk w' (w.heap.size+1) 157 #[.int .i64 6,.slice (some ⟨w.heap.size,0,none⟩) 64 64]/\Below w.heap.size w w':=by
 have bE:=Z1g (P:=Tryz.prog) 31 3 _ _ Tryz.underlying31 Z0R rfl 64 64 rfl (by omega) (by omega) w;rw[<-Zes] at bE;have oD:∀w:World,(Instr.makeSlice 158 (.int .i64 1) (.int .i64 1)).run Tryz.prog w=.ok (.slice (some ⟨w.heap.size,0,none⟩) 1 1) (w.alloc (.cells #[.int .i64 0,.slice none 0 0] 157)):=λ_=>(by kernel_rfl);go_enter Tryz.func115,Tryz.ntmps115;go_wp2;go_loopw [6,17] (λ_ i wr=>∃j:Nat,j<=64/\i=.int .i64 j/\Bk wr w.heap.size 3 (nc (half j))/\Below w.heap.size w wr/\wr.heap.size=w.heap.size+1) (λ_ i _=>(64-intOf i).toNat);case atStart=>exact⟨0,by omega,rfl,Bk.new _ _ _,(Below.refl _ _).alloc (Nat.le_refl _) _,by simp⟩
 case round=>
  obtain⟨j,hj,rfl,aC,hf,ad⟩:=hrel;by_cases ab:j<64
  ·have hc:=aC.cell j;rw[Z1V _ _ (by rw[Z9S j hj];exact ab)] at hc;have fc:=aC.frozen j;have hp:=aC.put j (.int .i64 ((1024:Nat):Int));rw[Z3C,Zia j ab] at hp;have Hp:=h_ hp;have Hz:=h_ ad;clear hp aC ad bE;go_wp2;go_roundw;case rel=>exact⟨j+1,by omega,by go_num,Hp.o,hf.setCell (p:=⟨w.heap.size,j,none⟩) (Nat.le_refl _) _,by simpa using Hz.o⟩
   case measure=>simp[intOf]<;>omega
  ·have lG:j=64:=(by omega);subst lG;have Hz:=h_ ad;have jV:=h_ aC;clear ad aC bE;go_wp2;rw[Hz.o];have ah:=hf.alloc hf.size (.cells #[.int .i64 0,.slice none 0 0] 157);have a8:=jV.o.alloc (.cells #[.int .i64 0,.slice none 0 0] 157);have ae:Bk (wr.alloc (.cells #[.int .i64 0,.slice none 0 0] 157)) (w.heap.size+1) 157 #[.int .i64 0,.slice none 0 0]:=Hz.o▸Bk.new wr _ _;go_loopw [8,9,10,28] (λ_ _ _ i jB=>∃j:Nat,j<=1/\i=.int .i64 j/\(j=0->Bk jB (w.heap.size+1) 157 #[.int .i64 0,.slice none 0 0])/\(j=1->Bk jB (w.heap.size+1) 157 #[.int .i64 6,.slice (some ⟨w.heap.size,0,none⟩) 64 64])/\Bk jB w.heap.size 3 (nc (half 64))/\Below w.heap.size w jB) (λ_ _ _ i _=>(1-intOf i).toNat);case atStart=>exact⟨0,by omega,rfl,λ_=>ae,λh=>by omega,a8,ah⟩
   case round=>
    clear ah a8 ae hf;obtain⟨j,hj,rfl,h0,h1,hb,hf⟩:=hrel;by_cases ab:j<1
    ·have hU:j=0:=(by omega);subst hU;have aA:=h0 rfl;have q0:=aA.cell 0;have q1:=aA.cell 1;have p0:=aA.frozen 0;have p1:=aA.frozen 1;simp at q0 q1;have aI:=h_ aA;clear h0 h1 aA ab;go_wp2;go_region;go_wp2;go_roundw
     case rel=>
      refine⟨1,by omega,rfl,λh=>by omega,λ_=> ?_,?_,?_⟩
      ·have h9:=(aI.o.put 0 (.int .i64 6)).put 1 (.slice (some ⟨w.heap.size,0,none⟩) 64 64);have h8:=h9.drew;simpa using h8
      ·exact((hb.off (p:=⟨w.heap.size+1,0,none⟩) (by simp) _).off (p:=⟨w.heap.size+1,1,none⟩) (by simp) _).drew
      ·exact((hf.setCell (p:=⟨w.heap.size+1,0,none⟩) (by simp) _).setCell (p:=⟨w.heap.size+1,1,none⟩) (by simp) _).drew
     case measure=>simp[intOf]
    ·have nK:j=1:=(by omega);subst nK;have a7:=h_ (h1 rfl);clear h0 h1;go_wp2;go_ret;exact⟨rfl,by rw[<-Zib];exact hb,a7.o,hf⟩
theorem Z7p (w:World):
  Calls Tryz.prog 69 #[] w λx w'=>∃b,x=.returned (.pointer (some ⟨b,0,none⟩))/\w.heap.size<=b/\NAt w' b w.heap.size t0/\Below w.heap.size w w':=by
 have Hp:=h_ (Zet w);go_enter Tryz.func69,Tryz.ntmps69;go_wp2_with fail;refine(Hp.o).mono ?_;rintro x w1 ⟨rfl,h0,h1,hb⟩;have q0:=h1.cell 0;have q1:=h1.cell 1;simp at q0 q1;have hs:=hb.size;have H0:=h_ h0;clear h0 h1;go_wp2;go_ret;exact⟨w1.heap.size,rfl,hs,⟨Bk.new _ _ _,H0.o.alloc _⟩,hb.alloc hs _⟩
end Go.Proofs.YtchokmkfobandaaGreatDoor
namespace Go.Proofs.YtchokmkfobandaaGreatDoor
open Go.RowKit Go.Proofs Wv Wv.Vi Wv.Ru
def Z0S (s:ByteArray) (e:Nat) (most:Int):ByteArray×ByteArray×Nat:=
 if(Z0C (numR s e most).2.1 (numR s e most).2.2 ((numR s e most).1:Nat)).2.2=0 then Z0C (numR s e most).2.1 (numR s e most).2.2 ((numR s e most).1:Nat)
 else(bs [],s,(Z0C (numR s e most).2.1 (numR s e most).2.2 ((numR s e most).1:Nat)).2.2)
theorem Z1W {s:ByteArray} {e:Nat} {most:Int} :(numR s e most).2.1.size<=s.size:=by
 unfold numR;split
 ·split
  ·exact Nat.le_refl _
  ·split
   ·exact Nat.le_refl _
   ·rw[Z00,List.length_drop,Z01];omega
 ·exact Nat.le_refl _
theorem Z0P {w:World} {b e:Nat} {s:ByteArray} (h:RV w b s e) (hm:s.size<=1099511627776) (most:Int):
  Calls Tryz.prog 137 #[.pointer (some ⟨b,0,none⟩),.int .i64 most] w λx w'=>x=.returned (.string (Z0S s e most).1)/\RV w' b (Z0S s e most).2.1 (Z0S s e most).2.2/\Fr (only b) w w':=by
 have h0:=h.c0;have ab:=Bk.lt h;have Hn:=h_ (Z0h h hm most);have ad:=Z1W (s:=s) (e:=e) (most:=most)
 have ht:Z0S s e most=if(Z0C (numR s e most).2.1 (numR s e most).2.2 ((numR s e most).1:Nat)).2.2=0 then Z0C (numR s e most).2.1 (numR s e most).2.2 ((numR s e most).1:Nat)
  else(bs [],s,(Z0C (numR s e most).2.1 (numR s e most).2.2 ((numR s e most).1:Nat)).2.2):=rfl
 generalize numR s e most=q at*;obtain⟨n,s1,e1⟩:=q;generalize Z0S s e most=r at*;obtain⟨⟨t,s2,e2⟩,ax⟩:∃x,Z0C s1 e1 (n:Int)=x:=⟨_,rfl⟩;simp only at ht Hn ad;rw[ax] at ht;simp only at ht;have fD:=h_ ax;have Hr:=h_ ht;clear ax ht;go_enter Tryz.func137,Tryz.ntmps137;go_wp2_with fail;refine(Hn.o).mono ?_;rintro x w1 ⟨rfl,cA,aB⟩;have Ht:=h_ (Z0s cA (Nat.le_trans ad hm) (n:Int));rw[fD.o] at Ht;go_wp2_with fail;refine(Ht.o).mono ?_;rintro x w2 ⟨rfl,bQ,ah⟩;have g1:=bQ.c1;have g0:=bQ.c0;have p0:=bQ.f0;have hf:=aB.trans ah;by_cases he:e2=0
 ·subst he;go_wp2;go_ret;rw[Hr.o];exact⟨rfl,bQ,hf⟩
 ·have ay:((e2:Int) !=0)=true:=(by rw[bne_iff_ne];omega);have fp:Hid (r=(bs [],s,e2)):=h_ (by rw[Hr.o,if_neg he]);clear he;go_wp2;go_ret;rw[fp.o];exact⟨rfl,by simpa [RV] using Bk.put bQ 0 (.string s),hf.setCell (p:=⟨b,0,none⟩) (.inl rfl) _⟩
def endR (s:ByteArray) (e:Nat):Nat:=if e=0/\s.size≠0 then 12 else e
theorem Z7q {w:World} {b e:Nat} {s:ByteArray} (h:RV w b s e):
  Calls Tryz.prog 92 #[.pointer (some ⟨b,0,none⟩)] w λx w'=>x=.returned (.int .i64 (endR s e:Nat))/\Fr (only b) w w':=by
 have h0:=h.c0;have h1:=h.c1;by_cases he:e=0
 ·subst he;by_cases hs:s.size=0
  ·have hr:endR s 0=0:=(by unfold endR;rw[if_neg (by omega)]);have cJ:=emp1 hs;have Hr:=h_ hr;clear hs hr;go_enter Tryz.func92,Tryz.ntmps92;go_wp2;go_ret;exact⟨Z0w (by rw[Hr.o];rfl),Fr.refl _ _⟩
  ·have hr:endR s 0=12:=(by unfold endR;rw[if_pos ⟨rfl,hs⟩]);have cJ:=emp0 (s:=s) (by omega);have Hr:=h_ hr;have Hf:=h_ (Z37 h 12);clear hs hr;go_enter Tryz.func92,Tryz.ntmps92;go_wp2_with fail;refine(Hf.o).mono ?_;rintro x w2 ⟨rfl,bQ,ah⟩;have g1:=bQ.c1;go_wp2;go_ret;exact⟨Z0w (by rw[Hr.o];rfl),ah⟩
 ·have hr:endR s e=e:=(by unfold endR;rw[if_neg (by omega)]);have ay:((e:Int)==0)=false:=(by rw[beq_eq_false_iff_ne];omega);have Hr:=h_ hr;clear hr he;go_enter Tryz.func92,Tryz.ntmps92;go_wp2;go_ret;exact⟨Z0w (by rw[Hr.o]),Fr.refl _ _⟩
end Go.Proofs.YtchokmkfobandaaGreatDoor
namespace Wv.Ru
open Wv.Vi Wv.Rc Wv.Mo
set_option linter.unusedSectionVars false
def nx (l:List Nat):Nat:=l.foldl (λa x=>if x=a then a+1 else a) 0
structure RunsOk (I C:List Nat) (len dl:Nat):Prop where
 size:I.length=C.length
 sum:C.sum=len
 next:nx I=dl
 pos:∀c∈C,1<=c
 each:∀k (h:k<I.length),I[k]<=nx (I.take k)
 apart:∀k (h:k+1<I.length),I[k]≠I[k+1]
section
variable {α:Type} [DecidableEq α]
end
end Wv.Ru
namespace Wv
open Go Go.RowKit
structure TwoSt (wb:World) (B:Nat) (e:TypeId) (v1:Value) (xs:List Value) (v2:Value) (ys:List Value) (w:World):Prop where
 own1:w.ownsRow B e 1 v1 xs.length xs
 own2:w.ownsRow B e 1 v2 ys.length ys
 apart:∀g,v1.ownBlock=some g->v2.ownBlock≠some g
 bel:Below B wb w
 base:B<=w.heap.size
theorem TwoSt.alloc {wb w:World} {B:Nat} {e:TypeId} {v1 v2:Value} {xs ys:List Value} (h:TwoSt wb B e v1 xs v2 ys w) (o:Obj):TwoSt wb B e v1 xs v2 ys (w.alloc o):=
 ⟨h.own1.alloc o,h.own2.alloc o,h.apart,h.bel.alloc h.base o,Nat.le_trans h.base (by simp)⟩
theorem TwoSt.drew {wb w:World} {B:Nat} {e:TypeId} {v1 v2:Value} {xs ys:List Value} (h:TwoSt wb B e v1 xs v2 ys w):TwoSt wb B e v1 xs v2 ys w.drew:=⟨h.own1,h.own2,h.apart,h.bel.drew,h.base⟩
theorem TwoSt.swap {wb w:World} {B:Nat} {e:TypeId} {v1 v2:Value} {xs ys:List Value} (h:TwoSt wb B e v1 xs v2 ys w):TwoSt wb B e v2 ys v1 xs w:=⟨h.own2,h.own1,λg h1 h2=>h.apart g h2 h1,h.bel,h.base⟩
theorem Z3n {P : Program} (t e : TypeId) (z : Value) (bytes : Nat) (ht : P.underlying t = some (.slice e)) (aH : (P.info? e).map (λi => (i.zero, i.size, i.bytes)) = some (some z, 1, bytes)) (bM : z.cells.size = 1) {wb w : World} {B : Nat} {v1 v2 : Value} {xs ys : List Value} (h : TwoSt wb B e v1 xs v2 ys w) (a : Nat) (x : Value) (ha : w.cell? ⟨a, 0, none⟩ = some x) (h1 : x.oneCell' = true) (dT : xs.length + 1 <= maxLen) (dd : (xs.length + 1) * bytes <= 140737488355328) :
    ∃v' w',(Builtin.append_ #[t,t] t #[v1,.slice (some ⟨a,0,none⟩) 1 1]).run P w=.ok v' w'/\TwoSt wb B e v' (xs++[x]) v2 ys w'/\(∀b,some b≠v1.ownBlock->b<w.heap.size->w'.cell? ⟨b,0,none⟩=w.cell? ⟨b,0,none⟩)/\(∀xb T cs,Bk w xb T cs->T≠e->Bk w' xb T cs):=by
  obtain⟨i,hi,hz,hs,hb⟩:=info_parts aH
  obtain ⟨v', w', hr, h2, h3, _, h5⟩ := run_append_own_at (P := P) w B t t e i z 1 bytes ht hi hz hs hb bM (by omega) v1 xs.length xs h.own1 ⟨a, 0, none⟩ 1 1 [x] rfl (λj u hu => by
      cases j with
      |zero=>
        simp at hu;subst hu;exact ha
      |succ j=>simp at hu) (by simpa using h1) dT dd h.base
  have ey:Fr (λk=>v1.ownBlock=some k) w w':=(Fr.refl _ w).grown h3 (λk hk=>.inl hk);refine⟨v',w',hr,⟨by rw[List.length_append];exact h2,Z0v h.own2 ey (λg hg e=>h.apart g e hg),λg hg=> ?_,h.bel.grown h3 h.base (λk hk=>(h.own1.lt k hk).1),Nat.le_trans h.base ey.size⟩,λb hb ab=>ey.cell (p:=⟨b,0,none⟩) ab (λe=>hb e.symm),λxb T cs hb hT=>hb.grown h3 (λe=>Z02 h.own1 hb (λe=>hT e.symm) e.symm)⟩;rcases h5 with h5|h5
  · exact h.apart g (h5▸hg)
  · intro h6
    have h7:some g=some w.heap.size:=hg.symm.trans h5;injection h7 with h7;have:=(h.own2.lt g h6).2;omega
theorem Zbd {P:Program} (t e:TypeId) (z:Value) (bytes:Nat) (ht:P.underlying t=some (.slice e)) (aH:(P.info? e).map (λi=>(i.zero,i.size,i.bytes))=some (some z,1,bytes)) (bM:z.cells.size=1) {wb w:World} {B:Nat} {v1 v2:Value} {xs ys:List Value} (h:TwoSt wb B e v1 xs v2 ys w) (x y:Value) (hx:x.oneCell'=true) (hy:y.oneCell'=true) (dM:xs.length+1<=maxLen) (iS:(xs.length+1)*bytes<=140737488355328)
  (nL:ys.length+1<=maxLen) (lH:(ys.length+1)*bytes<=140737488355328) (xb:Nat) (T:TypeId) (cs:Array Value) (hk:Bk w xb T cs) (hT:T≠e):
  (∃a1 w1 a2 w2,(Builtin.append_ #[t,t] t #[v1,.slice (some ⟨w.heap.size,0,none⟩) 1 1]).run P (w.alloc (.cells #[x] e)).drew=.ok a1 w1/\(Builtin.append_ #[t,t] t #[v2,.slice (some ⟨w1.heap.size,0,none⟩) 1 1]).run P (w1.alloc (.cells #[y] e))=.ok a2 w2/\TwoSt wb B e a1 (xs++[x]) a2 (ys++[y]) w2/\Bk w1 xb T cs/\Bk w2 xb T cs)/\
  (∃a1 w1 a2 w2,(Builtin.append_ #[t,t] t #[v1,.slice (some ⟨w.heap.size,0,none⟩) 1 1]).run P ((w.alloc (.cells #[x] e)).alloc (.cells #[y] e)).drew=.ok a1 w1/\(Builtin.append_ #[t,t] t #[v2,.slice (some ⟨w.heap.size+1,0,none⟩) 1 1]).run P w1=.ok a2 w2/\TwoSt wb B e a1 (xs++[x]) a2 (ys++[y]) w2/\Bk w1 xb T cs/\Bk w2 xb T cs)/\
  (∃a1 w1 a2 w2,(Builtin.append_ #[t,t] t #[v1,.slice (some ⟨w.heap.size+1,0,none⟩) 1 1]).run P ((w.alloc (.cells #[y] e)).alloc (.cells #[x] e)).drew=.ok a1 w1/\(Builtin.append_ #[t,t] t #[v2,.slice (some ⟨w.heap.size,0,none⟩) 1 1]).run P w1=.ok a2 w2/\TwoSt wb B e a1 (xs++[x]) a2 (ys++[y]) w2/\Bk w1 xb T cs/\Bk w2 xb T cs):=by
 have gu:∀g,v1.ownBlock=some g->g<w.heap.size:=λg hg=>(h.own1.lt g hg).2;have cx:(w.alloc (.cells #[x] e)).cell? ⟨w.heap.size,0,none⟩=some x:=(Bk.new w e #[x]).cell 0;have cy:(w.alloc (.cells #[y] e)).cell? ⟨w.heap.size,0,none⟩=some y:=(Bk.new w e #[y]).cell 0;have aJ:(w.alloc (.cells #[x] e)).heap.size=w.heap.size+1:=(by simp);have cO:(w.alloc (.cells #[y] e)).heap.size=w.heap.size+1:=(by simp);refine⟨?_,?_,?_⟩
 ·obtain⟨a1,w1,r1,t1,_,b1⟩:=Z3n t e z bytes ht aH bM (h.alloc (.cells #[x] e)).drew w.heap.size x cx hx dM iS;obtain⟨a2,w2,r2,t2,_,b2⟩:=Z3n t e z bytes ht aH bM (t1.swap.alloc (.cells #[y] e)) w1.heap.size y ((Bk.new w1 e #[y]).cell 0) hy nL lH;exact⟨a1,w1,a2,w2,r1,r2,t2.swap,b1 xb T cs (hk.alloc (.cells #[x] e)).drew hT,b2 xb T cs ((b1 xb T cs (hk.alloc (.cells #[x] e)).drew hT).alloc (.cells #[y] e)) hT⟩
 ·have c1:((w.alloc (.cells #[x] e)).alloc (.cells #[y] e)).drew.cell? ⟨w.heap.size,0,none⟩=some x:=((Bk.new w e #[x]).alloc (.cells #[y] e)).cell 0
  have c2:((w.alloc (.cells #[x] e)).alloc (.cells #[y] e)).drew.cell? ⟨w.heap.size+1,0,none⟩=some y:=by
   have:=(Bk.new (w.alloc (.cells #[x] e)) e #[y]).cell 0;rw[aJ] at this;exact this
  obtain⟨a1,w1,r1,t1,k1,b1⟩:=Z3n t e z bytes ht aH bM ((h.alloc (.cells #[x] e)).alloc (.cells #[y] e)).drew w.heap.size x c1 hx dM iS;have c3:=(k1 (w.heap.size+1) (λe=>by have:=gu _ e.symm;omega) (by show _<((w.alloc (.cells #[x] e)).alloc (.cells #[y] e)).heap.size;simp<;>omega)).trans c2;obtain⟨a2,w2,r2,t2,_,b2⟩:=Z3n t e z bytes ht aH bM t1.swap (w.heap.size+1) y c3 hy nL lH;exact⟨a1,w1,a2,w2,r1,r2,t2.swap,b1 xb T cs ((hk.alloc (.cells #[x] e)).alloc (.cells #[y] e)).drew hT,b2 xb T cs (b1 xb T cs ((hk.alloc (.cells #[x] e)).alloc (.cells #[y] e)).drew hT) hT⟩
 ·have c1:((w.alloc (.cells #[y] e)).alloc (.cells #[x] e)).drew.cell? ⟨w.heap.size,0,none⟩=some y:=((Bk.new w e #[y]).alloc (.cells #[x] e)).cell 0
  have c2:((w.alloc (.cells #[y] e)).alloc (.cells #[x] e)).drew.cell? ⟨w.heap.size+1,0,none⟩=some x:=by
   have:=(Bk.new (w.alloc (.cells #[y] e)) e #[x]).cell 0;rw[cO] at this;exact this
  obtain⟨a1,w1,r1,t1,k1,b1⟩:=Z3n t e z bytes ht aH bM ((h.alloc (.cells #[y] e)).alloc (.cells #[x] e)).drew (w.heap.size+1) x c2 hx dM iS;have c3:=(k1 w.heap.size (λe=>by have:=gu _ e.symm;omega) (by show _<((w.alloc (.cells #[y] e)).alloc (.cells #[x] e)).heap.size;simp<;>omega)).trans c1;obtain⟨a2,w2,r2,t2,_,b2⟩:=Z3n t e z bytes ht aH bM t1.swap w.heap.size y c3 hy nL lH;exact⟨a1,w1,a2,w2,r1,r2,t2.swap,b1 xb T cs ((hk.alloc (.cells #[y] e)).alloc (.cells #[x] e)).drew hT,b2 xb T cs (b1 xb T cs ((hk.alloc (.cells #[y] e)).alloc (.cells #[x] e)).drew hT) hT⟩
theorem Zeu {P:Program} (t e:TypeId) (z:Value) (bytes:Nat) (ht:P.underlying t=some (.slice e)) (aH:(P.info? e).map (λi=>(i.zero,i.size,i.bytes))=some (some z,1,bytes)) (bM:z.cells.size=1) {w:World} {base:Nat} {v:Value} {n:Nat} {xs ys:List Value} (hv:w.ownsRow base e 1 v n xs) {A:Option Addr} (hu:At w A ys) (cap m:Nat) (hm:m=ys.length) (hA:A=none->ys=[]) (h1:∀y∈ys,y.oneCell'=true)
  (dT:n+m<=maxLen) (aS:(n+m)*bytes<=140737488355328) (bw:base<=w.heap.size):
  ∃v' w',(Builtin.append_ #[t,t] t #[v,.slice A m cap]).run P w=.ok v' w'/\w'.ownsRow base e 1 v' (n+m) (xs++ys)/\w.grownBy w' v.ownBlock/\(v'.ownBlock=v.ownBlock\/v'.ownBlock=some w.heap.size):=by
 obtain⟨i,hi,hz,hs,dd⟩:=info_parts aH;cases A with
 |none=>
  have hy:=hA rfl;subst hy;simp at hm;subst hm;refine⟨v,w,?_,by simpa using hv,⟨rfl,rfl,rfl,Nat.le_refl _,λ_ _ _=>rfl⟩,.inl rfl⟩;rcases hv.2 with ⟨rfl,rfl⟩|⟨g,cap,cur,rfl,_,_,od,_⟩
  ·simp[Builtin.append_,run_underlying ht,Go.sizeOf,typeInfo,hi,Builtin.lenOf,Builtin.firstCells]
  ·simp[Builtin.append_,run_underlying ht,Go.sizeOf,typeInfo,hi,Builtin.lenOf,Builtin.firstCells,od,storeCells]
 |some a=>
  obtain⟨v',w',hr,h2,h3,_,h5⟩:=run_append_own_at (P:=P) w base t t e i z 1 bytes ht hi hz hs dd bM (by omega) v n xs hv a m cap ys (by omega) (λj u hj=>by
   obtain⟨ab,rfl⟩:=List.getElem?_eq_some_iff.1 hj;obtain⟨b,o,hA,hb,hc⟩:=hu j ab;injection hA with hA;subst hA;rw[Go.WideShapes.add_plain];exact hc) h1 dT aS bw
  exact⟨v',w',hr,h2,h3,h5⟩
theorem Zev (e:TypeId) (w:World):(w.alloc (.cells #[] e)).ownsRow w.heap.size e 1 (.slice (some ⟨w.heap.size,0,none⟩) 0 0) 0 []:=
 World.ownsRow_made w #[] 0 (Nat.le_refl _) (by unfold maxLen;omega) rfl
theorem Z04 {P:Program} {ops:Array Oper} {rest:List Oper} {o:Oper} {a:Act} {w w0 w':World} {Q:Exit->Act->World->Prop} {v':Value} (hw:w=w0) (tX:o.guard=none) (s x:Operand) (t:TypeId)
  (ho:o.op=.call { callee:=.builtin .append,args:= #[s,x],argTypes:= #[t,t] }) (v u:Value) (hs:a.eval s=v) (hx:a.eval x=u)
  (hr:(Builtin.append_ #[t,t] o.type #[v,u]).run P w0=.ok v' w') (h:wpList P ops Q rest (a.put o.dst v') w'):wpList P ops Q (o::rest) a w:=by
 subst hw;refine wpList_plain tX λK hK=> ?_;unfold Oper.wp execOp;simp only[ho,resolve,invoke,builtin,Sem.run_bind,Sem.run_pure,Result.andThen_ok,List.map_toArray,List.map_cons,List.map_nil,hs,hx,hr];exact hK _ _ h
theorem Z05 {P:Program} {ops:Array Oper} {o:Oper} {a:Act} {w w0 w':World} {K:Act->World->Prop} {Q:Exit->Act->World->Prop} {E:Prop} {v':Value} (hw:w=w0) (tX:o.guard=none) (s x:Operand) (t:TypeId)
  (ho:o.op=.call { callee:=.builtin .append,args:= #[s,x],argTypes:= #[t,t] }) (v u:Value) (hs:a.eval s=v) (hx:a.eval x=u)
  (hr:(Builtin.append_ #[t,t] o.type #[v,u]).run P w0=.ok v' w') (h:K (a.put o.dst v') w'):
  if Region.wanted o (yielded ops a.tmps)=true then Oper.wp P o a w K Q else E:=by
 subst hw;exact Z7a tX s x t ho v u hs hx hr h
theorem Z1X {P:Program} (t e:TypeId) (z:Value) (bytes:Nat) (ht:P.underlying t=some (.slice e)) (aH:(P.info? e).map (λi=>(i.zero,i.size,i.bytes))=some (some z,1,bytes)) (bM:z.cells.size=1) {w wb:World} {B:Nat} {v:Value} {n:Nat} {xs:List Value} (h:w.ownsRow B e 1 v n xs) (hf:Below B wb w) (hB:B<=w.heap.size) (x:Value) (hx:x.oneCell'=true) (dT:n+1<=maxLen) (aS:(n+1)*bytes<=140737488355328):
  ∃v' w',(Builtin.append_ #[t,t] t #[v,.slice (some ⟨w.heap.size,0,none⟩) 1 1]).run P (w.alloc (.cells #[x] e))=.ok v' w'/\w'.ownsRow B e 1 v' (n+1) (xs++[x])/\Below B wb w'/\(∀xb T cs,Bk w xb T cs->e≠T->Bk w' xb T cs):=by
 obtain⟨i,hi,hz,hs,dd⟩:=info_parts aH;obtain⟨v',w',hr,h2,h3,_⟩:=run_append_own_at (P:=P) (w.alloc (.cells #[x] e)) B t t e i z 1 bytes ht hi hz hs dd bM (by omega) v n xs (h.alloc _) ⟨w.heap.size,0,none⟩ 1 1 [x] rfl (Z2D _ _ _) (by simpa using hx) dT aS (Nat.le_trans hB (by simp));exact⟨v',w',hr,h2,(hf.alloc hB _).grown h3 (Nat.le_trans hB (by simp)) (λk hk=>(h.lt k hk).1),λxb T cs hk hT=>(hk.alloc _).grown h3 (λe=>Z02 h hk hT e.symm)⟩
theorem Zic {P:Program} (t e:TypeId) (z:Value) (bytes:Nat) (ht:P.underlying t=some (.slice e)) (aH:(P.info? e).map (λi=>(i.zero,i.size,i.bytes))=some (some z,1,bytes)) (bM:z.cells.size=1) {w wb:World} {B:Nat} {v:Value} {n:Nat} {xs:List Value} (h:w.ownsRow B e 1 v n xs) (hf:Below B wb w) (hB:B<=w.heap.size) (x:Value) (hx:x.oneCell'=true) (dT:n+1<=maxLen) (aS:(n+1)*bytes<=140737488355328):
  ∃v' w',(Builtin.append_ #[t,t] t #[v,.slice (some ⟨w.heap.size,0,none⟩) 1 1]).run P (w.alloc (.cells #[x] e))=.ok v' w'/\w'.ownsRow B e 1 v' (n+1) (xs++[x])/\Below B wb w'/\(v'.ownBlock=v.ownBlock\/v'.ownBlock=some (w.heap.size+1))/\w.heap.size+1<=w'.heap.size/\
   (∀A vs,At w A vs->(∀b o,A=some ⟨b,o,none⟩->v.ownBlock≠some b)->At w' A vs):=by
 obtain⟨i,hi,hz,hs,dd⟩:=info_parts aH;obtain⟨v',w',hr,h2,h3,_,h5⟩:=run_append_own_at (P:=P) (w.alloc (.cells #[x] e)) B t t e i z 1 bytes ht hi hz hs dd bM (by omega) v n xs (h.alloc _) ⟨w.heap.size,0,none⟩ 1 1 [x] rfl (Z2D _ _ _) (by simpa using hx) dT aS (Nat.le_trans hB (by simp));have ey:Fr (λk=>v.ownBlock=some k) (w.alloc (.cells #[x] e)) w':=(Fr.refl _ _).grown h3 (λk hk=>.inl hk);refine⟨v',w',hr,h2,(hf.alloc hB _).grown h3 (Nat.le_trans hB (by simp)) (λk hk=>(h.lt k hk).1),?_,?_,λA vs ha hA=> ?_⟩
 ·rcases h5 with h5|h5
  ·exact .inl h5
  ·refine .inr (h5.trans ?_);simp
 ·have:=ey.size;simpa using this
 ·exact(ha.alloc _).keep ey (λb o hb hs=>hA b o hb hs)
theorem Z7r {P : Program} (t e : TypeId) (z : Value) (bytes size : Nat) (ht : P.underlying t = some (.slice e)) (aH : (P.info? e).map (λi => (i.zero, i.size, i.bytes)) = some (some z, size, bytes)) (bM : z.cells.size = size) (jW : 0 < size) {w wb : World} {B : Nat} {v : Value} {n : Nat} {xs : List Value} (h : w.ownsRow B e size v n xs) (hf : Below B wb w) (hB : B <= w.heap.size) (ys : List Value) (Kv : ys.length = size) (h1 : ∀ y ∈ ys, y.oneCell' = true) (dT : n + 1 <= maxLen) (aS : (n + 1) * bytes <= 140737488355328) :
    ∃v' w',(Builtin.append_ #[t,t] t #[v,.slice (some ⟨w.heap.size,0,none⟩) 1 1]).run P (w.alloc (.cells ys.toArray e))=.ok v' w'/\w'.ownsRow B e size v' (n+1) (xs++ys)/\Below B wb w'/\(v'.ownBlock=v.ownBlock\/v'.ownBlock=some (w.heap.size+1))/\w.heap.size+1<=w'.heap.size/\
      (∀A vs,At w A vs->(∀b o,A=some ⟨b,o,none⟩->v.ownBlock≠some b)->At w' A vs):=by
  obtain⟨i,hi,hz,hs,dd⟩:=info_parts aH
  obtain ⟨v', w', hr, h2, h3, _, h5⟩ := run_append_own_at (P := P) (w.alloc (.cells ys.toArray e)) B t t e i z size bytes ht hi hz hs dd bM jW v n xs (h.alloc _) ⟨w.heap.size, 0, none⟩ 1 1 ys (by omega) (λj u hu => by
      have hb:=(Bk.new w e ys.toArray).cell j;rw[Go.WideShapes.add_plain,Nat.zero_add,hb];simpa using hu) h1 dT aS (Nat.le_trans hB (by simp))
  have ey:Fr (λk=>v.ownBlock=some k) (w.alloc (.cells ys.toArray e)) w':=(Fr.refl _ _).grown h3 (λk hk=>.inl hk);refine⟨v',w',hr,h2,(hf.alloc hB _).grown h3 (Nat.le_trans hB (by simp)) (λk hk=>(h.lt k hk).1),?_,?_,λA vs ha hA=> ?_⟩
  · rcases h5 with h5|h5
    · exact .inl h5
    · refine .inr (h5.trans ?_)
      simp
  · have:=ey.size
    simpa using this
  · exact(ha.alloc _).keep ey (λb o hb hs=>hA b o hb hs)
end Wv
namespace Wv.Tm
def tv:Int->List Int->Bool
 |_,[]=>true
 |last,t::r=>decide (last<t)&&decide (t<=1099511627776)&&tv t r
def Z0e (l:List Int):Bool:=tv (-1) l&&decide (l.length<=4096)
def gp:Int->List Int->List Int
 |_,[]=>[]
 |last,t::r=>(t-last-1)::gp t r
def Z06 (l:List Int):List Int:=gp (-1) l
def jn:Int->List Int->Option (List Int)
 |_,[]=>some []
 |last,g::r=>if g<0\/1099511627776<g\/1099511627776<last+g+1 then none else(jn (last+g+1) r).map ((last+g+1)::·)
def jnL (x:List Int):Option (List Int):=match jn (-1) x with
 |some l=>if l.length<=4096 then some l else none
 |none=>none
theorem Z38 {last t:Int} {r:List Int} :tv last (t::r)=true↔last<t/\t<=1099511627776/\tv t r=true:=by
 show(decide _&&decide _&&_)=true↔_;rw[Bool.and_eq_true,Bool.and_eq_true,decide_eq_true_iff,decide_eq_true_iff,and_assoc]
theorem Znm {l:List Int} :∀ {last:Int},tv last l=true->∀t∈l,last<t/\t<=1099511627776:=by
 induction l with
 |nil=>intro last _ t ht;cases ht
 |cons a r ih=>
  intro last h t ht;obtain⟨h1,h2,h3⟩:=Z38.1 h;rcases List.mem_cons.1 ht with rfl|ht
  ·exact⟨h1,h2⟩
  ·have:=ih h3 t ht;omega
theorem Zew {l:List Int} :∀ {last:Int},tv last l=true->l.Pairwise (· <·):=by
 induction l with
 |nil=>intro _ _;exact List.Pairwise.nil
 |cons a r ih=>
  intro last h;obtain⟨_,_,h3⟩:=Z38.1 h;exact List.Pairwise.cons (λt ht=>(Znm h3 t ht).1) (ih h3)
theorem ZoF {l:List Int} :∀ {last:Int},l.Pairwise (· <·)->(∀t∈l,last<t/\t<=1099511627776)->tv last l=true:=by
 induction l with
 |nil=>intro _ _ _;rfl
 |cons a r ih=>
  intro last h hb;rw[List.pairwise_cons] at h;refine Z38.2 ⟨(hb a List.mem_cons_self).1,(hb a List.mem_cons_self).2,ih h.2 (λt ht=>⟨h.1 t ht,(hb t (List.mem_cons_of_mem _ ht)).2⟩)⟩
theorem Z08 {l:List Int} :Z0e l=true↔l.Pairwise (· <·)/\(∀t∈l,0<=t/\t<=1099511627776)/\l.length<=4096:=by
 unfold Z0e;rw[Bool.and_eq_true,decide_eq_true_iff];constructor
 ·rintro⟨h1,h2⟩;exact⟨Zew h1,λt ht=>by have:=Znm h1 t ht;omega,h2⟩
 ·rintro⟨h1,h2,h3⟩;exact⟨ZoF h1 (λt ht=>by have:=h2 t ht;omega),h3⟩
theorem Z0W (l:List Int):∀last,(gp last l).length=l.length:=by
 induction l with
 |nil=>intro _;rfl
 |cons a r ih=>intro last;simp[gp,ih]
theorem Znn {l:List Int} :∀ {last:Int},-1<=last->tv last l=true->∀g∈gp last l,0<=g/\g<=1099511627776:=by
 induction l with
 |nil=>intro last _ _ g hg;cases hg
 |cons a r ih=>
  intro last h0 h g hg;obtain⟨h1,h2,h3⟩:=Z38.1 h;rcases List.mem_cons.1 hg with rfl|hg
  ·omega
  ·exact ih (by omega) h3 g hg
theorem ZoG {l:List Int} :∀ {last:Int},-1<=last->tv last l=true->jn last (gp last l)=some l:=by
 induction l with
 |nil=>intro _ _ _;rfl
 |cons a r ih=>
  intro last h0 h;obtain⟨h1,h2,h3⟩:=Z38.1 h;show(if _ then none else _)=_;rw[if_neg (by omega),show last+(a-last-1)+1=a by omega,ih (by omega) h3];rfl
theorem ZoH {x:List Int} :∀ {last:Int} {l:List Int},-1<=last->jn last x=some l->tv last l=true/\gp last l=x/\l.length=x.length:=by
 induction x with
 |nil=>intro last l _ h;injection h with h;subst h;exact⟨rfl,rfl,rfl⟩
 |cons g r ih=>
  intro last l h0 h;unfold jn at h;split at h
  ·cases h
  ·rename_i hc;match hj:jn (last+g+1) r,h with
   |none,h=>cases h
   |some l',h=>
    injection h with h;subst h;obtain⟨i1,i2,i3⟩:=ih (by omega) hj;exact⟨Z38.2 ⟨by omega,by omega,i1⟩,by simp[gp,i2];omega,by simp[i3]⟩
theorem Z57 {l:List Int} (h:Z0e l=true):jnL (Z06 l)=some l:=by
 unfold Z0e at h;rw[Bool.and_eq_true,decide_eq_true_iff] at h;unfold jnL Z06;rw[ZoG (by omega) h.1];simp only;rw[if_pos h.2]
theorem Z5A {x l:List Int} (h:jnL x=some l):Z0e l=true/\Z06 l=x:=by
 unfold jnL at h;match hj:jn (-1) x,h with
 |none,h=>cases h
 |some l',h=>
  simp only at h;split at h
  ·rename_i h4;injection h with h;subst h;obtain⟨i1,i2,_⟩:=ZoH (by omega) hj;exact⟨by unfold Z0e;rw[Bool.and_eq_true,decide_eq_true_iff];exact⟨i1,h4⟩,i2⟩
  ·cases h
theorem Z2g {l:List Int} (h:Z0e l=true):∀g∈Z06 l,0<=g/\g<=1099511627776:=by
 unfold Z0e at h;rw[Bool.and_eq_true] at h;exact Znn (by omega) h.1
structure Clk where
 st:Int
 f:Int
 s:Int
 n:Int
deriving DecidableEq
def Z9T:Clk:=⟨0,0,0,0⟩
def atC (c:Clk) (i:Nat):Int:=c.st+((i+1)/2:Nat)*c.f+(i/2:Nat)*c.s
def Zex (c:Clk) (i:Nat):Int:=if i % 2=0 then c.f else c.s
theorem Zid (c:Clk):atC c 0=c.st:=by unfold atC;simp
theorem Zie (c:Clk) (i:Nat):atC c (i+1)=atC c i+Zex c i:=by
 unfold atC Zex;rcases Nat.mod_two_eq_zero_or_one i with h|h
 ·rw[if_pos h,show(i+1+1)/2=(i+1)/2+1 by omega,show(i+1)/2=i/2 by omega,Int.natCast_add,Int.add_mul];omega
 ·rw[if_neg (by omega),show(i+1+1)/2=(i+1)/2 by omega,show(i+1)/2=i/2+1 by omega,Int.natCast_add,Int.add_mul,Int.add_mul];omega
def inC (c:Clk):Prop:=1<=c.n/\c.n<=4096/\0<=c.st/\c.st<=1099511627776/\1<=c.f/\c.f<=1099511627776/\1<=c.s/\c.s<=1099511627776
instance (c:Clk):Decidable (inC c):=by unfold inC;infer_instance
def vclk (c:Clk):Bool:=decide (inC c)&&decide (atC c (c.n-1).toNat<=1099511627776)
theorem Z1r {c:Clk} :vclk c=true↔inC c/\atC c (c.n-1).toNat<=1099511627776:=by
 unfold vclk;rw[Bool.and_eq_true,decide_eq_true_iff,decide_eq_true_iff]
theorem Zif {c:Clk} (h:inC c) (i:Nat):1<=Zex c i/\Zex c i<=1099511627776:=by
 obtain⟨_,_,_,_,h1,h2,h3,h4⟩:=h;unfold Zex;split<;>omega
theorem Zno {c:Clk} (h:inC c):∀ {i j:Nat},i<j->atC c i<atC c j:=by
 intro i j TU;induction j with
 |zero=>omega
 |succ j ih=>
  have hs:=Zif h j;rw[Zie];rcases Nat.lt_or_ge i j with h1|h1
  ·have:=ih h1;omega
  ·have:i=j:=(by omega);subst this;omega
def Z0E (c:Clk):List Int:=(List.range c.n.toNat).map (atC c)
theorem Z42 (c:Clk):(Z0E c).length=c.n.toNat:=by simp[Z0E]
theorem Z43 {c:Clk} (h:inC c):(Z0E c).Pairwise (· <·):=by
 unfold Z0E;rw[List.pairwise_map];exact List.Pairwise.imp (λKE=>Zno h KE) List.pairwise_lt_range
def cntC (c:Clk) (m:Int):Nat->Nat->Nat
 |0,k=>k
 |fuel+1,k=>if k<4096/\atC c k<=m then cntC c m fuel (k+1) else k
theorem Zey (c:Clk) (m:Int):∀(fuel k:Nat),¬(k<4096/\atC c k<=m)->cntC c m fuel k=k:=by
 intro fuel k h;cases fuel with
 |zero=>rfl
 |succ f=>rw[cntC,if_neg h]
theorem Zez (c:Clk) (m:Int) (fuel k:Nat) (h:k<4096/\atC c k<=m):cntC c m (fuel+1) k=cntC c m fuel (k+1):=by rw[cntC,if_pos h]
theorem ZeA (c:Clk) (m:Int):∀(fuel k:Nat),k<=4096->4096-k<=fuel->k<=cntC c m fuel k/\cntC c m fuel k<=4096/\(∀i,k<=i->i<cntC c m fuel k->atC c i<=m)/\(cntC c m fuel k<4096->m<atC c (cntC c m fuel k)):=by
 intro fuel;induction fuel with
 |zero=>
  intro k h1 h2;rw[cntC];exact⟨Nat.le_refl _,h1,λi _ _=>by omega,λ_=>by omega⟩
 |succ f ih=>
  intro k h1 h2;rw[cntC];by_cases h:k<4096/\atC c k<=m
  ·rw[if_pos h];obtain⟨i1,i2,i3,i4⟩:=ih (k+1) (by omega) (by omega);refine⟨by omega,i2,λi hi uc=> ?_,i4⟩;rcases Nat.lt_or_ge k i with h9|h9
   ·exact i3 i h9 uc
   ·have:i=k:=(by omega);rw[this];exact h.2
  ·rw[if_neg h];exact⟨Nat.le_refl _,h1,λi _ _=>by omega,λ_=>by omega⟩
def detF (a b:Int) (r:List Int):Clk:=⟨a,b-a,match r with|[]=>b-a|t::_=>t-b,1⟩
def Z0j (l:List Int):Clk:=match l with
 |a::b::r=>if Z0e l=true then { detF a b r with n:=(cntC (detF a b r) ((a::b::r).getLast (by simp)) 4096 1:Nat) } else Z9T
 |_=>Z9T
theorem ZoI (c:Clk) (n:Int) (i:Nat):atC { c with n:=n } i=atC c i:=rfl
theorem Z2L {l:List Int} (h:Z0e l=true) (h2:2<=l.length):vclk (Z0j l)=true:=by
 match l,h2 with
 |a::b::r,_=>
  have hd:Z0j (a::b::r)= { detF a b r with n:=(cntC (detF a b r) ((a::b::r).getLast (by simp)) 4096 1:Nat) } :=by
   show(if _ then _ else _)=_;rw[if_pos h]
  obtain⟨v1,v2,v3⟩:=Z08.1 h;obtain⟨m,hm⟩:∃m,(a::b::r).getLast (by simp)=m:=⟨_,rfl⟩;have eN:=v2 m (by rw[<-hm];exact List.getLast_mem _);rw[hd,hm];obtain⟨i1,i2,i3,i4⟩:=ZeA (detF a b r) m 4096 1 (by omega) (by omega);obtain⟨k,hk⟩:∃k,cntC (detF a b r) m 4096 1=k:=⟨_,rfl⟩;rw[hk] at i1 i2 i3 i4⊢;have ha:=v2 a List.mem_cons_self;have hb:=v2 b (List.mem_cons_of_mem _ List.mem_cons_self);rw[List.pairwise_cons] at v1;obtain⟨w1,w2⟩:=v1;have KE:=w1 b List.mem_cons_self
  have hs:1<=(detF a b r).s/\(detF a b r).s<=1099511627776:=by
   unfold detF;cases r with
   |nil=>simp only;omega
   |cons t q=>
    have ht:=v2 t (List.mem_cons_of_mem _ (List.mem_cons_of_mem _ List.mem_cons_self));rw[List.pairwise_cons] at w2;have:=w2.1 t List.mem_cons_self;simp only;omega
  refine Z1r.2 ⟨⟨by simp only;omega,by simp only;omega,ha.1,ha.2,by show 1<=b-a;omega,by show b-a<=_;omega,hs.1,hs.2⟩,?_⟩;rw[ZoI];show atC _ ((k:Int)-1).toNat<=_;rw[show((k:Int)-1).toNat=k-1 by omega];rcases Nat.lt_or_ge 1 k with h9|h9
  ·exact Int.le_trans (i3 (k-1) (by omega) (by omega)) eN.2
  ·rw[show k-1=0 by omega,Zid];exact ha.2
def srt (l:List Int):List Int:=l.mergeSort (λa b=>decide (a<=b))
theorem Zbe (l:List Int):(srt l).Perm l:=List.mergeSort_perm _ _
theorem Zcs (l:List Int):(srt l).Pairwise (· <=·):=by
 have:=List.pairwise_mergeSort (le:=λa b:Int=>decide (a<=b)) (λa b c h1 h2=>by simp at*;omega) (λa b=>by simp;omega) l;exact this.imp (λh=>by simpa using h)
theorem Znp {l r:List Int} (h:r.Perm l) (hs:r.Pairwise (· <=·)):srt l=r:=
 List.Perm.eq_of_pairwise (le:=(· <=·)) (λa b _ _ h1 h2=>Int.le_antisymm h1 h2) (Zcs l) hs ((Zbe l).trans h.symm)
def Z2X (c:Clk) (l:List Int):List Int:=((List.range c.n.toNat).filter (λi=> !l.contains (atC c i))).map Int.ofNat
def furL (c:Clk) (l:List Int):List Int:=l.filter (λt=> !(Z0E c).contains t)
def excT (c:Clk) (l:List Int):Option (List Int×List Int):=if vclk c=true/\Z0e l=true then some (Z2X c l,furL c l) else none
def ZeB (c:Clk) (m:List Int):List Int:=((List.range c.n.toNat).filter (λ(i:Nat)=> !m.contains (i:Int))).map (atC c)
def rebL (c:Clk) (m x:List Int):List Int:=srt (ZeB c m++x)
theorem ZeC (c:Clk) (l:List Int):ZeB c (Z2X c l)=(Z0E c).filter (λt=>l.contains t):=by
 unfold ZeB Z0E;rw[List.filter_map];congr 1;apply List.filter_congr;intro i hi;rw[Bool.eq_iff_iff];simp only[Bool.not_eq_true',List.contains_eq_mem,decide_eq_false_iff_not,Function.comp,decide_eq_true_eq];unfold Z2X;constructor
 ·intro h;by_cases hm:atC c i∈l
  ·exact hm
  ·exact absurd (List.mem_map.2 ⟨i,List.mem_filter.2 ⟨hi,by simp[hm]⟩,rfl⟩) h
 ·intro h hm;obtain⟨j,hj,Po⟩:=List.mem_map.1 hm;have:j=i:=Int.ofNat.inj Po;subst this;have:=(List.mem_filter.1 hj).2;simp[h] at this
theorem Z7s {l:List Int} (h:l.Pairwise (· <·)):l.Nodup:=h.imp (λh e=>by omega)
theorem Zle {c:Clk} {l:List Int} (hc:inC c) (hl:Z0e l=true):rebL c (Z2X c l) (furL c l)=l:=by
 obtain⟨v1,v2,v3⟩:=Z08.1 hl;unfold rebL;refine Znp ?_ (v1.imp (λh=>Int.le_of_lt h));rw[ZeC];have hT:=Z43 hc
 have n1:((Z0E c).filter (λt=>l.contains t)++furL c l).Nodup:=by
  rw[List.nodup_append];refine⟨Z7s (hT.sublist List.filter_sublist),Z7s (v1.sublist List.filter_sublist),?_⟩;rintro a ha b hb rfl;have h1:=(List.mem_filter.1 ha).1;have h2:=(List.mem_filter.1 hb).2;simp[h1] at h2
 refine(List.perm_ext_iff_of_nodup (Z7s v1) n1).2 (λa=> ?_);rw[List.mem_append];unfold furL;rw[List.mem_filter,List.mem_filter];by_cases h:a∈Z0E c<;>simp[h]
theorem Z1Y {c:Clk} (hc:inC c) (l:List Int):Z0e (Z2X c l)=true:=by
 refine Z08.2 ⟨?_,?_,?_⟩
 ·unfold Z2X;rw[List.pairwise_map];exact(List.pairwise_lt_range.sublist List.filter_sublist).imp (λh=>Int.ofNat_lt.2 h)
 ·intro t ht;obtain⟨i,hi,rfl⟩:=List.mem_map.1 ht;have:=List.mem_range.1 (List.mem_filter.1 hi).1;have:=hc.2.1;constructor
  ·exact Int.natCast_nonneg i
  ·show(i:Int)<=_;omega
 ·unfold Z2X;rw[List.length_map];have h1:=List.length_filter_le (λi=> !l.contains (atC c i)) (List.range c.n.toNat);rw[List.length_range] at h1;have:=hc.2.1;omega
theorem Z3o {c:Clk} {l:List Int} (hl:Z0e l=true):Z0e (furL c l)=true:=by
 obtain⟨v1,v2,v3⟩:=Z08.1 hl;refine Z08.2 ⟨v1.sublist List.filter_sublist,λt ht=>v2 t (List.mem_filter.1 ht).1,?_⟩;have h1:=List.length_filter_le (λt=> !(Z0E c).contains t) l;unfold furL;omega
end Wv.Tm
