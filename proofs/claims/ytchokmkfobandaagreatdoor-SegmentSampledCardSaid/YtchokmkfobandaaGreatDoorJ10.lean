import Derived.Test.YtchokmkfobandaaGreatDoorJ08
set_option linter.unusedVariables false
set_option linter.unusedSimpArgs false
set_option maxRecDepth 100000
set_option maxHeartbeats 8000000
namespace Wv.Bc
def cd (c:UInt8):Nat:=if c=48 then 0 else if c=49 then 1 else if c=120 then 2 else if c=122 then 3 else 4
def ch (n:Nat):UInt8:=if n=0 then 48 else if n=1 then 49 else if n=2 then 120 else 122
theorem Z19 (c:UInt8):(c=48/\cd c=0)\/(c=49/\cd c=1)\/(c=120/\cd c=2)\/(c=122/\cd c=3)\/(c≠48/\c≠49/\c≠120/\c≠122/\cd c=4):=by
 unfold cd;by_cases h1:c=48
 ·exact .inl ⟨h1,by rw[Vaf h1]⟩
 ·rw[Vad h1];by_cases h2:c=49
  ·exact .inr (.inl ⟨h2,by rw[Vaf h2]⟩)
  ·rw[Vad h2];by_cases h3:c=120
   ·exact .inr (.inr (.inl ⟨h3,by rw[Vaf h3]⟩))
   ·rw[Vad h3];by_cases h4:c=122
    ·exact .inr (.inr (.inr (.inl ⟨h4,by rw[Vaf h4]⟩)))
    ·exact .inr (.inr (.inr (.inr ⟨h1,h2,h3,h4,by rw[Vad h4]⟩)))
theorem ZjO (c:UInt8):cd c<=4:=by rcases Z19 c with ⟨_,h⟩|⟨_,h⟩|⟨_,h⟩|⟨_,h⟩|⟨_,_,_,_,h⟩<;>omega
theorem ZhC (n:Nat) (h:n<4):cd (ch n)=n:=by
 rcases(show n=0\/n=1\/n=2\/n=3 by omega) with rfl|rfl|rfl|rfl<;>decide
theorem ZjP (c:UInt8) (h:cd c<4):ch (cd c)=c:=by
 rcases Z19 c with ⟨rfl,_⟩|⟨rfl,_⟩|⟨rfl,_⟩|⟨rfl,_⟩|⟨_,_,_,_,h4⟩
 ·decide
 ·decide
 ·decide
 ·decide
 ·omega
def isC (c:UInt8):Bool:=decide (cd c<4)
def isV (v:List UInt8):Bool:=v.all isC&& !v.isEmpty&&decide (v.length<=128)
def knV (v:List UInt8):Bool:=isV v&&v.all (λc=>decide (cd c<2))
def vld (w:Int) (v:List UInt8):Bool:=isV v&&decide ((v.length:Int)=w)
theorem Zv {v:List UInt8} :isV v=true↔(∀c∈v,cd c<4)/\v≠[]/\v.length<=128:=by
 unfold isV isC;rw[Va1,Va1,Vbv,Vas,and_assoc];cases v<;>simp
theorem Yp {v:List UInt8} :knV v=true↔(∀c∈v,cd c<2)/\v≠[]/\v.length<=128:=by
 unfold knV;rw[Va1,Zv,Vbv];constructor
 ·rintro⟨⟨h1,h2,h3⟩,h4⟩;exact⟨λc hc=>by simpa using h4 c hc,h2,h3⟩
 ·rintro⟨h1,h2,h3⟩;exact⟨⟨λc hc=>by have:=h1 c hc;omega,h2,h3⟩,λc hc=>by simpa using h1 c hc⟩
theorem Z3p {v:List UInt8} (h:knV v=true):isV v=true:=by unfold knV at h;rw[Va1] at h;exact h.1
theorem ZM {w:Int} {v:List UInt8} :vld w v=true↔isV v=true/\(v.length:Int)=w:=by
 unfold vld;rw[Va1,Vas]
def allV (w:Int) (c:UInt8):List UInt8:=if w<1\/128<w\/isC c=false then[] else List.replicate w.toNat c
def fr (c:UInt8):UInt8:=if c=49 then 48 else c
theorem Zl1 (c:UInt8):fr (fr c)=fr c:=by
 unfold fr;by_cases h:c=49
 ·rw[Vaf h];rfl
 ·rw[Vad h,Vad h]
theorem Zl2 {c:UInt8} (h:cd c<4):cd (fr c)<4:=by
 unfold fr;split
 ·decide
 ·exact h
def ext (w:Int) (s:List UInt8):List UInt8×Nat:=
 if w<1\/128<w then([],1) else match s with
  |[]=>([],3)
  |c::t=>if(c::t).all isC=false then([],3) else if w<((c::t).length:Int) then([],8) else(List.replicate (w.toNat-(c::t).length) (fr c)++(c::t),0)
def shq:List UInt8->List UInt8
 |a::b::r=>if a=fr b then shq (b::r) else a::b::r
 |l=>l
def shr (v:List UInt8):List UInt8:=if isV v=true then shq v else[]
theorem Z1C (a b:UInt8) (r:List UInt8):shq (a::b::r)=if a=fr b then shq (b::r) else a::b::r:=rfl
theorem Z3q:∀(v:List UInt8),v≠[]->∃k c t,shq v=c::t/\v=List.replicate k (fr c)++(c::t)
 |[],h=>absurd rfl h
 |[a],_=>⟨0,a,[],rfl,rfl⟩
 |a::b::r,_=>by
  obtain⟨k,c,t,h1,h2⟩:=Z3q (b::r) (by simp);rw[Z1C];by_cases h:a=fr b
  ·rw[Vaf h];refine⟨k+1,c,t,h1,?_⟩
   have hb:fr b=fr c:=by
    cases k with
    |zero=>simp only[List.replicate_zero,Vbz] at h2;injection h2 with h3 _;rw[h3]
    |succ k=>rw[Vbg,Vbs] at h2;injection h2 with h3 _;rw[h3,Zl1]
   rw[Vbg,Vbs,<-h2,h,hb]
  ·rw[Vad h];exact⟨0,a,b::r,rfl,rfl⟩
theorem Z5V {v:List UInt8} (h:isV v=true):ext (v.length:Int) (shr v)=(v,0):=by
 obtain⟨h1,h2,h3⟩:=Zv.1 h;obtain⟨k,c,t,e1,e2⟩:=Z3q v h2;have hl:=congrArg List.length e2;rw[Vab,Vaw] at hl;have bU:0<v.length:=List.length_pos_iff.2 h2;unfold shr ext;rw[Vaf h,e1,Vad (by omega)];simp only
 have ha:(c::t).all isC=true:=by
  rw[Vbv];intro x hx;unfold isC;rw[Vas];exact h1 x (by rw[e2];exact List.mem_append_right _ hx)
 rw[ha,Vad (by simp),Vad (by omega)];rw[Vav,show v.length-(c::t).length=k by omega,<-e2]
theorem Zau (v:List UInt8):(shr v).length<=v.length/\(isV v=true->shr v≠[]):=by
 unfold shr;by_cases h:isV v=true
 ·rw[Vaf h];obtain⟨k,c,t,e1,e2⟩:=Z3q v (Zv.1 h).2.1;refine⟨?_,λ_=>by rw[e1];simp⟩;rw[e1];have hl:=congrArg List.length e2;rw[Vab,Vaw] at hl;omega
 ·rw[Vad h];exact⟨by simp,λh2=>absurd h2 h⟩
theorem Y0 (v:List UInt8):(shr v).length<=128:=by
 by_cases h:isV v=true
 ·have:=(Zau v).1;have:=(Zv.1 h).2.2;omega
 ·unfold shr;rw[Vad h];simp
theorem Zav {w:Int} {s v:List UInt8} (h:ext w s=(v,0)):vld w v=true:=by
 unfold ext at h;split at h
 ·cases h
 ·rename_i hw;cases s with
  |nil=>cases h
  |cons c t=>
   simp only at h;split at h
   ·cases h
   ·rename_i ha;split at h
    ·cases h
    ·rename_i hl;injection h with h _;subst h
     have mM:∀x∈c::t,cd x<4:=by
      have:(c::t).all isC=true:=(by simpa using ha);rw[Vbv] at this;intro x hx;have:=this x hx;unfold isC at this;simpa using this
     have hlen:(List.replicate (w.toNat-(c::t).length) (fr c)++(c::t)).length=w.toNat:=by
      rw[Vab,Vaw];omega
     refine ZM.2 ⟨Zv.2 ⟨λx hx=> ?_,by simp,by rw[hlen];omega⟩,by rw[hlen];omega⟩;rcases Va9.1 hx with hx|hx
     ·rw[List.eq_of_mem_replicate hx];exact Zl2 (mM c Vap)
     ·exact mM x hx
def mx (a b:UInt8):UInt8:=ch (cd a ^^^ cd b)
def mixV (a b:List UInt8):List UInt8×Nat:=if isV a=false\/isV b=false then([],1) else if a.length≠b.length then([],8) else(List.zipWith mx a b,0)
theorem Zaw:∀x,x<4->∀y,y<4->x ^^^ y<4/\(x ^^^ y) ^^^ y=x/\x ^^^ y=y ^^^ x/\(x+y) % 2+2*((x/2+y/2) % 2)=x ^^^ y:=by decide
theorem Zl3 {a b:UInt8} (ha:cd a<4) (hb:cd b<4):cd (mx a b)<4:=by
 unfold mx;have:=(Zaw _ ha _ hb).1;rw[ZhC _ this];exact this
theorem Zl4 {a b:UInt8} (ha:cd a<4) (hb:cd b<4):mx (mx a b) b=a:=by
 have h1:=Zaw _ ha _ hb;show ch (cd (ch (cd a ^^^ cd b)) ^^^ cd b)=a;rw[ZhC _ h1.1,h1.2.1,ZjP a ha]
theorem ZhD {a b:List UInt8} (ha:isV a=true) (hb:isV b=true) (hl:a.length=b.length):isV (List.zipWith mx a b)=true/\(List.zipWith mx a b).length=a.length:=by
 obtain⟨a1,a2,a3⟩:=Zv.1 ha;obtain⟨b1,_,_⟩:=Zv.1 hb;have hlen:(List.zipWith mx a b).length=a.length:=(by rw[Vb9];omega);refine⟨Zv.2 ⟨λc hc=> ?_,λh=> ?_,by omega⟩,hlen⟩
 ·obtain⟨i,hi,rfl⟩:=List.getElem_of_mem hc;rw[List.getElem_zipWith];exact Zl3 (a1 _ (Vak _)) (b1 _ (Vak _))
 ·rw[h] at hlen;exact a2 (Vaj hlen.symm)
theorem Zeq {a b:List UInt8} (ha:isV a=true) (hb:isV b=true) (hl:a.length=b.length):∃m,mixV a b=(m,0)/\isV m=true/\m.length=a.length/\mixV m b=(a,0):=by
 obtain⟨m1,m2⟩:=ZhD ha hb hl;obtain⟨a1,_,_⟩:=Zv.1 ha;obtain⟨b1,_,_⟩:=Zv.1 hb;refine⟨List.zipWith mx a b,?_,m1,m2,?_⟩
 ·unfold mixV;rw[Vad (by simp[ha,hb]),Vad (by omega)]
 ·unfold mixV;rw[Vad (by simp[m1,hb]),Vad (by omega)];congr 1;apply Vc0
  ·rw[Vb9];omega
  ·intro i k1 k2;rw[List.getElem_zipWith,List.getElem_zipWith];exact Zl4 (a1 _ (Vak _)) (b1 _ (Vak _))
def sm:List UInt8->List UInt8->Nat->List UInt8×Nat
 |x::a,y::b,c=>(UInt8.ofNat (48+(cd x+cd y+(sm a b c).2) % 2)::(sm a b c).1,(cd x+cd y+(sm a b c).2)/2)
 |_,_,c=>([],c)
def inv (v:List UInt8):List UInt8:=v.map (λc=>ch (if cd c<2 then 1-cd c else cd c))
def addV (a b:List UInt8):List UInt8×Bool:=if knV a=true/\knV b=true/\a.length=b.length then((sm a b 0).1,true) else([],false)
def difV (a b:List UInt8):List UInt8×Bool:=if knV a=true/\knV b=true/\a.length=b.length then((sm b (inv a) 1).1,true) else([],false)
theorem Z7g:∀(a b:List UInt8) (c:Nat),a.length=b.length->(sm a b c).1.length=a.length
 |[],[],_,_=>rfl
 |x::a,y::b,c,h=>by
  show((sm a b c).1.length+1)=_;rw[Z7g a b c (by simpa using h)];rfl
theorem Zax:∀(a b:List UInt8) (c:Nat),∀d∈(sm a b c).1,cd d<2
 |[],_,_=>λd hd=>by simp[sm] at hd
 |_::_,[],_=>λd hd=>by simp[sm] at hd
 |x::a,y::b,c=>λd hd=>by
  rcases Vba.1 hd with rfl|hd
  ·rcases Nat.mod_two_eq_zero_or_one (cd x+cd y+(sm a b c).2) with h|h<;>rw[h]<;>decide
  ·exact Zax a b c d hd
theorem Z2B {a b v:List UInt8} (h:addV a b=(v,true)):knV v=true/\v.length=a.length/\knV a=true/\knV b=true/\a.length=b.length:=by
 unfold addV at h;split at h
 ·rename_i hc;injection h with h _;subst h;obtain⟨a1,a2,a3⟩:=Yp.1 hc.1;have hl:=Z7g a b 0 hc.2.2;refine⟨Yp.2 ⟨Zax a b 0,λe=> ?_,by omega⟩,hl,hc⟩;rw[e] at hl;exact a2 (Vaj hl.symm)
 ·cases h
theorem Z2C {a b v:List UInt8} (h:difV a b=(v,true)):knV v=true/\v.length=a.length:=by
 unfold difV at h;split at h
 ·rename_i hc;injection h with h _;subst h;obtain⟨a1,a2,a3⟩:=Yp.1 hc.1;have hl:=Z7g b (inv a) 1 (by unfold inv;rw[Vag];omega);refine⟨Yp.2 ⟨Zax b (inv a) 1,λe=> ?_,by omega⟩,by omega⟩;rw[e] at hl;exact a2 (Vaj (by simp at hl;omega))
 ·cases h
end Wv.Bc
namespace Go.Proofs.YtchokmkfobandaaGreatDoor
open Go.RowKit Go.Proofs Wv Wv.Vi Wv.Rc Wv.Mo
theorem ZQ:(Tryz.prog.info? 3).map (λi=>(i.zero,i.size,i.bytes))=some (some (.int .i64 0),1,8):=by kernel_rfl
def half (j:Nat):List Nat:=List.replicate j 1024++List.replicate (64-j) 0
theorem Zer (j:Nat) (h:j<64):(half j).set j 1024=half (j+1):=by
 unfold half;rw[Va8 _ _ (by simp),Vaw,Va7,show 64-j=(64-(j+1))+1 from by omega,Vbg,List.set_cons_zero,List.replicate_succ',Vay];rfl
theorem Z5W (j:Nat) (h:j<=64):(half j).length=64:=by simp[half];omega
theorem Zes:half 64=t0:=by decide
theorem Zay:nc (half 0)=Array.replicate 64 (.int .i64 0):=by
 apply Vbj.1;simp[nc,half]
theorem Zaz (w:World):
  Calls Tryz.prog 115 #[.int .i64 1,.int .i64 6] w λx w'=>x=.returned (.slice (some ⟨w.heap.size+1,0,none⟩) 1 1)/\Bk w' w.heap.size 3 (nc t0)/\Bk w' (w.heap.size+1) 157 #[.int .i64 6,.slice (some ⟨w.heap.size,0,none⟩) 64 64]/\Below w.heap.size w w':=by
 have bG:=Yg (P:=Tryz.prog) 31 3 _ _ Tryz.underlying31 ZQ rfl 64 64 rfl (by omega) (by omega) w;rw[<-Zay] at bG;have oZ:∀w:World,(Instr.makeSlice 158 (.int .i64 1) (.int .i64 1)).run Tryz.prog w=.ok (.slice (some ⟨w.heap.size,0,none⟩) 1 1) (w.alloc (.cells #[.int .i64 0,.slice none 0 0] 157)):=λ_=>(by kernel_rfl);go_enter Tryz.func115,Tryz.ntmps115;go_wp2;go_loopw [6,17] (λ_ i wr=>∃j:Nat,j<=64/\i=.int .i64 j/\Bk wr w.heap.size 3 (nc (half j))/\Below w.heap.size w wr/\wr.heap.size=w.heap.size+1) (λ_ i _=>(64-intOf i).toNat);case atStart=>exact⟨0,by omega,rfl,Bk.new _ _ _,(Vae _ _).alloc UZz _,by simp⟩
 case round=>
  obtain⟨j,hj,rfl,aD,hf,ad⟩:=hrel;by_cases ab:j<64
  ·have hc:=aD.cell j;rw[X0 _ _ (by rw[Z5W j hj];exact ab)] at hc;have fc:=aD.frozen j;have hp:=aD.put j (.int .i64 ((1024:Nat):Int));rw[QD,Zer j ab] at hp;have Hp:=h_ hp;have Hz:=h_ ad;clear hp aD ad bG;go_wp2;go_roundw;case rel=>exact⟨j+1,by omega,by go_num,Hp.o,hf.setCell (p:=⟨w.heap.size,j,none⟩) UZz _,by simpa using Hz.o⟩
   case measure=>simp[intOf]<;>omega
  ·have ma:j=64:=(by omega);subst ma;have Hz:=h_ ad;have kE:=h_ aD;clear ad aD bG;go_wp2;rw[Hz.o];have ai:=hf.alloc hf.size (.cells #[.int .i64 0,.slice none 0 0] 157);have a8:=kE.o.alloc (.cells #[.int .i64 0,.slice none 0 0] 157);have af:Bk (wr.alloc (.cells #[.int .i64 0,.slice none 0 0] 157)) (w.heap.size+1) 157 #[.int .i64 0,.slice none 0 0]:=Hz.o▸Bk.new wr _ _;go_loopw [8,9,10,28] (λ_ _ _ i kP=>∃j:Nat,j<=1/\i=.int .i64 j/\(j=0->Bk kP (w.heap.size+1) 157 #[.int .i64 0,.slice none 0 0])/\(j=1->Bk kP (w.heap.size+1) 157 #[.int .i64 6,.slice (some ⟨w.heap.size,0,none⟩) 64 64])/\Bk kP w.heap.size 3 (nc (half 64))/\Below w.heap.size w kP) (λ_ _ _ i _=>(1-intOf i).toNat);case atStart=>exact⟨0,by omega,rfl,λ_=>af,λh=>by omega,a8,ai⟩
   case round=>
    clear ai a8 af hf;obtain⟨j,hj,rfl,h0,h1,hb,hf⟩:=hrel;by_cases ab:j<1
    ·have gI:j=0:=(by omega);subst gI;have aB:=h0 rfl;have q0:=aB.cell 0;have q1:=aB.cell 1;have p0:=aB.frozen 0;have p1:=aB.frozen 1;simp at q0 q1;have aL:=h_ aB;clear h0 h1 aB ab;go_wp2;go_region;go_wp2;go_roundw
     case rel=>
      refine⟨1,by omega,rfl,λh=>by omega,λ_=> ?_,?_,?_⟩
      ·have h9:=(aL.o.put 0 (.int .i64 6)).put 1 (.slice (some ⟨w.heap.size,0,none⟩) 64 64);have h8:=h9.drew;simpa using h8
      ·exact((hb.off (p:=⟨w.heap.size+1,0,none⟩) (by simp) _).off (p:=⟨w.heap.size+1,1,none⟩) (by simp) _).drew
      ·exact((hf.setCell (p:=⟨w.heap.size+1,0,none⟩) (by simp) _).setCell (p:=⟨w.heap.size+1,1,none⟩) (by simp) _).drew
     case measure=>simp[intOf]
    ·have nY:j=1:=(by omega);subst nY;have a7:=h_ (h1 rfl);clear h0 h1;go_wp2;go_ret;exact⟨rfl,by rw[<-Zes];exact hb,a7.o,hf⟩
theorem Z3r (w:World):
  Calls Tryz.prog 69 #[] w λx w'=>∃b,x=.returned (.pointer (some ⟨b,0,none⟩))/\w.heap.size<=b/\NAt w' b w.heap.size t0/\Below w.heap.size w w':=by
 have Hp:=h_ (Zaz w);go_enter Tryz.func69,Tryz.ntmps69;go_wp2_with fail;refine(Hp.o).mono ?_;rintro x w1 ⟨rfl,h0,h1,hb⟩;have q0:=h1.cell 0;have q1:=h1.cell 1;simp at q0 q1;have hs:=hb.size;have H0:=h_ h0;clear h0 h1;go_wp2;go_ret;exact⟨w1.heap.size,rfl,hs,⟨Bk.new _ _ _,H0.o.alloc _⟩,hb.alloc hs _⟩
end Go.Proofs.YtchokmkfobandaaGreatDoor
namespace Go.Proofs.YtchokmkfobandaaGreatDoor
open Go.RowKit Go.Proofs Wv Wv.Vi Wv.Ru
def ZR (s:ByteArray) (e:Nat) (most:Int):ByteArray×ByteArray×Nat:=
 if(ZC (numR s e most).2.1 (numR s e most).2.2 ((numR s e most).1:Nat)).2.2=0 then ZC (numR s e most).2.1 (numR s e most).2.2 ((numR s e most).1:Nat)
 else(bs [],s,(ZC (numR s e most).2.1 (numR s e most).2.2 ((numR s e most).1:Nat)).2.2)
theorem X1 {s:ByteArray} {e:Nat} {most:Int} :(numR s e most).2.1.size<=s.size:=by
 unfold numR;split
 ·split
  ·exact UZz
  ·split
   ·exact UZz
   ·rw[Z0,Va2,Z1];omega
 ·exact UZz
theorem ZO {w:World} {b e:Nat} {s:ByteArray} (h:RV w b s e) (hm:s.size<=1099511627776) (most:Int):
  Calls Tryz.prog 137 #[.pointer (some ⟨b,0,none⟩),.int .i64 most] w λx w'=>x=.returned (.string (ZR s e most).1)/\RV w' b (ZR s e most).2.1 (ZR s e most).2.2/\Fr (only b) w w':=by
 have h0:=h.c0;have ab:=Bk.lt h;have Hn:=h_ (Zi h hm most);have ad:=X1 (s:=s) (e:=e) (most:=most)
 have ht:ZR s e most=if(ZC (numR s e most).2.1 (numR s e most).2.2 ((numR s e most).1:Nat)).2.2=0 then ZC (numR s e most).2.1 (numR s e most).2.2 ((numR s e most).1:Nat)
  else(bs [],s,(ZC (numR s e most).2.1 (numR s e most).2.2 ((numR s e most).1:Nat)).2.2):=rfl
 generalize numR s e most=q at*;obtain⟨n,s1,e1⟩:=q;generalize ZR s e most=r at*;obtain⟨⟨t,s2,e2⟩,ay⟩:∃x,ZC s1 e1 (n:Int)=x:=⟨_,rfl⟩;simp only at ht Hn ad;rw[ay] at ht;simp only at ht;have fP:=h_ ay;have Hr:=h_ ht;clear ay ht;go_enter Tryz.func137,Tryz.ntmps137;go_wp2_with fail;refine(Hn.o).mono ?_;rintro x w1 ⟨rfl,cF,aC⟩;have Ht:=h_ (Zu cF (Vaq ad hm) (n:Int));rw[fP.o] at Ht;go_wp2_with fail;refine(Ht.o).mono ?_;rintro x w2 ⟨rfl,bP,ai⟩;have g1:=bP.c1;have g0:=bP.c0;have p0:=bP.f0;have hf:=aC.trans ai;by_cases he:e2=0
 ·subst he;go_wp2;go_ret;rw[Hr.o];exact⟨rfl,bP,hf⟩
 ·have az:((e2:Int) !=0)=true:=(by rw[Va0];omega);have fG:Hid (r=(bs [],s,e2)):=h_ (by rw[Hr.o,Vad he]);clear he;go_wp2;go_ret;rw[fG.o];exact⟨rfl,by simpa [RV] using Bk.put bP 0 (.string s),hf.setCell (p:=⟨b,0,none⟩) (.inl rfl) _⟩
def endR (s:ByteArray) (e:Nat):Nat:=if e=0/\s.size≠0 then 12 else e
theorem Z3s {w:World} {b e:Nat} {s:ByteArray} (h:RV w b s e):
  Calls Tryz.prog 92 #[.pointer (some ⟨b,0,none⟩)] w λx w'=>x=.returned (.int .i64 (endR s e:Nat))/\Fr (only b) w w':=by
 have h0:=h.c0;have h1:=h.c1;by_cases he:e=0
 ·subst he;by_cases hs:s.size=0
  ·have hr:endR s 0=0:=(by unfold endR;rw[Vad (by omega)]);have cB:=emp1 hs;have Hr:=h_ hr;clear hs hr;go_enter Tryz.func92,Tryz.ntmps92;go_wp2;go_ret;exact⟨Zw (by rw[Hr.o];rfl),Fr.refl _ _⟩
  ·have hr:endR s 0=12:=(by unfold endR;rw[Vaf ⟨rfl,hs⟩]);have cB:=emp0 (s:=s) (by omega);have Hr:=h_ hr;have Hf:=h_ (Q8 h 12);clear hs hr;go_enter Tryz.func92,Tryz.ntmps92;go_wp2_with fail;refine(Hf.o).mono ?_;rintro x w2 ⟨rfl,bP,ai⟩;have g1:=bP.c1;go_wp2;go_ret;exact⟨Zw (by rw[Hr.o];rfl),ai⟩
 ·have hr:endR s e=e:=(by unfold endR;rw[Vad (by omega)]);have az:((e:Int)==0)=false:=(by rw[Vam];omega);have Hr:=h_ hr;clear hr he;go_enter Tryz.func92,Tryz.ntmps92;go_wp2;go_ret;exact⟨Zw (by rw[Hr.o]),Fr.refl _ _⟩
end Go.Proofs.YtchokmkfobandaaGreatDoor
namespace Wv.Ru
open Wv.Vi Wv.Rc Wv.Mo
set_option linter.unusedSectionVars false
def nx (l:List Nat):Nat:=l.foldl (λa x=>if x=a then a+1 else a) 0
structure RunsOk (I C:List Nat) (len dl:Nat):Prop where
 size:I.length=C.length
 sum:C.sum=len
 next:nx I=dl
 pos:∀c∈C,1<=c
 each:∀k (h:k<I.length),I[k]<=nx (I.take k)
 apart:∀k (h:k+1<I.length),I[k]≠I[k+1]
section
variable {α:Type} [DecidableEq α]
end
end Wv.Ru
namespace Wv
open Go Go.RowKit
structure TwoSt (wb:World) (B:Nat) (e:TypeId) (v1:Value) (xs:List Value) (v2:Value) (ys:List Value) (w:World):Prop where
 own1:w.ownsRow B e 1 v1 xs.length xs
 own2:w.ownsRow B e 1 v2 ys.length ys
 apart:∀g,v1.ownBlock=some g->v2.ownBlock≠some g
 bel:Below B wb w
 base:B<=w.heap.size
theorem TwoSt.alloc {wb w:World} {B:Nat} {e:TypeId} {v1 v2:Value} {xs ys:List Value} (h:TwoSt wb B e v1 xs v2 ys w) (o:Obj):TwoSt wb B e v1 xs v2 ys (w.alloc o):=
 ⟨h.own1.alloc o,h.own2.alloc o,h.apart,h.bel.alloc h.base o,Vaq h.base (by simp)⟩
theorem TwoSt.drew {wb w:World} {B:Nat} {e:TypeId} {v1 v2:Value} {xs ys:List Value} (h:TwoSt wb B e v1 xs v2 ys w):TwoSt wb B e v1 xs v2 ys w.drew:=⟨h.own1,h.own2,h.apart,h.bel.drew,h.base⟩
theorem TwoSt.swap {wb w:World} {B:Nat} {e:TypeId} {v1 v2:Value} {xs ys:List Value} (h:TwoSt wb B e v1 xs v2 ys w):TwoSt wb B e v2 ys v1 xs w:=⟨h.own2,h.own1,λg h1 h2=>h.apart g h2 h1,h.bel,h.base⟩
theorem Qo {P : Program} (t e : TypeId) (z : Value) (bytes : Nat) (ht : P.underlying t = some (.slice e)) (aK : (P.info? e).map (λi => (i.zero, i.size, i.bytes)) = some (some z, 1, bytes)) (bN : z.cells.size = 1) {wb w : World} {B : Nat} {v1 v2 : Value} {xs ys : List Value} (h : TwoSt wb B e v1 xs v2 ys w) (a : Nat) (x : Value) (ha : w.cell? ⟨a, 0, none⟩ = some x) (h1 : x.oneCell' = true) (e9 : xs.length + 1 <= maxLen) (dj : (xs.length + 1) * bytes <= 140737488355328) :
    ∃v' w',(Builtin.append_ #[t,t] t #[v1,.slice (some ⟨a,0,none⟩) 1 1]).run P w=.ok v' w'/\TwoSt wb B e v' (xs++[x]) v2 ys w'/\(∀b,some b≠v1.ownBlock->b<w.heap.size->w'.cell? ⟨b,0,none⟩=w.cell? ⟨b,0,none⟩)/\(∀xb T cs,Bk w xb T cs->T≠e->Bk w' xb T cs):=by
  obtain⟨i,hi,hz,hs,hb⟩:=info_parts aK
  obtain ⟨v', w', hr, h2, h3, _, h5⟩ := run_append_own_at (P := P) w B t t e i z 1 bytes ht hi hz hs hb bN (by omega) v1 xs.length xs h.own1 ⟨a, 0, none⟩ 1 1 [x] rfl (λj u hu => by
      cases j with
      |zero=>
        simp at hu;subst hu;exact ha
      |succ j=>simp at hu) (by simpa using h1) e9 dj h.base
  have fa:Fr (λk=>v1.ownBlock=some k) w w':=(Fr.refl _ w).grown h3 (λk hk=>.inl hk);refine⟨v',w',hr,⟨by rw[Vab];exact h2,Zn h.own2 fa (λg hg e=>h.apart g e hg),λg hg=> ?_,h.bel.grown h3 h.base (λk hk=>(h.own1.lt k hk).1),Vaq h.base fa.size⟩,λb hb ab=>fa.cell (p:=⟨b,0,none⟩) ab (λe=>hb e.symm),λxb T cs hb hT=>hb.grown h3 (λe=>Z2 h.own1 hb (λe=>hT e.symm) e.symm)⟩;rcases h5 with h5|h5
  · exact h.apart g (h5▸hg)
  · intro h6
    have h7:some g=some w.heap.size:=hg.symm.trans h5;injection h7 with h7;have:=(h.own2.lt g h6).2;omega
theorem Z7h {P:Program} (t e:TypeId) (z:Value) (bytes:Nat) (ht:P.underlying t=some (.slice e)) (aK:(P.info? e).map (λi=>(i.zero,i.size,i.bytes))=some (some z,1,bytes)) (bN:z.cells.size=1) {wb w:World} {B:Nat} {v1 v2:Value} {xs ys:List Value} (h:TwoSt wb B e v1 xs v2 ys w) (x y:Value) (hx:x.oneCell'=true) (hy:y.oneCell'=true) (dR:xs.length+1<=maxLen) (jh:(xs.length+1)*bytes<=140737488355328)
  (nZ:ys.length+1<=maxLen) (me:(ys.length+1)*bytes<=140737488355328) (xb:Nat) (T:TypeId) (cs:Array Value) (hk:Bk w xb T cs) (hT:T≠e):
  (∃a1 w1 a2 w2,(Builtin.append_ #[t,t] t #[v1,.slice (some ⟨w.heap.size,0,none⟩) 1 1]).run P (w.alloc (.cells #[x] e)).drew=.ok a1 w1/\(Builtin.append_ #[t,t] t #[v2,.slice (some ⟨w1.heap.size,0,none⟩) 1 1]).run P (w1.alloc (.cells #[y] e))=.ok a2 w2/\TwoSt wb B e a1 (xs++[x]) a2 (ys++[y]) w2/\Bk w1 xb T cs/\Bk w2 xb T cs)/\
  (∃a1 w1 a2 w2,(Builtin.append_ #[t,t] t #[v1,.slice (some ⟨w.heap.size,0,none⟩) 1 1]).run P ((w.alloc (.cells #[x] e)).alloc (.cells #[y] e)).drew=.ok a1 w1/\(Builtin.append_ #[t,t] t #[v2,.slice (some ⟨w.heap.size+1,0,none⟩) 1 1]).run P w1=.ok a2 w2/\TwoSt wb B e a1 (xs++[x]) a2 (ys++[y]) w2/\Bk w1 xb T cs/\Bk w2 xb T cs)/\
  (∃a1 w1 a2 w2,(Builtin.append_ #[t,t] t #[v1,.slice (some ⟨w.heap.size+1,0,none⟩) 1 1]).run P ((w.alloc (.cells #[y] e)).alloc (.cells #[x] e)).drew=.ok a1 w1/\(Builtin.append_ #[t,t] t #[v2,.slice (some ⟨w.heap.size,0,none⟩) 1 1]).run P w1=.ok a2 w2/\TwoSt wb B e a1 (xs++[x]) a2 (ys++[y]) w2/\Bk w1 xb T cs/\Bk w2 xb T cs):=by
 have gJ:∀g,v1.ownBlock=some g->g<w.heap.size:=λg hg=>(h.own1.lt g hg).2;have cx:(w.alloc (.cells #[x] e)).cell? ⟨w.heap.size,0,none⟩=some x:=(Bk.new w e #[x]).cell 0;have cy:(w.alloc (.cells #[y] e)).cell? ⟨w.heap.size,0,none⟩=some y:=(Bk.new w e #[y]).cell 0;have aM:(w.alloc (.cells #[x] e)).heap.size=w.heap.size+1:=(by simp);have cV:(w.alloc (.cells #[y] e)).heap.size=w.heap.size+1:=(by simp);refine⟨?_,?_,?_⟩
 ·obtain⟨a1,w1,r1,t1,_,b1⟩:=Qo t e z bytes ht aK bN (h.alloc (.cells #[x] e)).drew w.heap.size x cx hx dR jh;obtain⟨a2,w2,r2,t2,_,b2⟩:=Qo t e z bytes ht aK bN (t1.swap.alloc (.cells #[y] e)) w1.heap.size y ((Bk.new w1 e #[y]).cell 0) hy nZ me;exact⟨a1,w1,a2,w2,r1,r2,t2.swap,b1 xb T cs (hk.alloc (.cells #[x] e)).drew hT,b2 xb T cs ((b1 xb T cs (hk.alloc (.cells #[x] e)).drew hT).alloc (.cells #[y] e)) hT⟩
 ·have c1:((w.alloc (.cells #[x] e)).alloc (.cells #[y] e)).drew.cell? ⟨w.heap.size,0,none⟩=some x:=((Bk.new w e #[x]).alloc (.cells #[y] e)).cell 0
  have c2:((w.alloc (.cells #[x] e)).alloc (.cells #[y] e)).drew.cell? ⟨w.heap.size+1,0,none⟩=some y:=by
   have:=(Bk.new (w.alloc (.cells #[x] e)) e #[y]).cell 0;rw[aM] at this;exact this
  obtain⟨a1,w1,r1,t1,k1,b1⟩:=Qo t e z bytes ht aK bN ((h.alloc (.cells #[x] e)).alloc (.cells #[y] e)).drew w.heap.size x c1 hx dR jh;have c3:=(k1 (w.heap.size+1) (λe=>by have:=gJ _ e.symm;omega) (by show _<((w.alloc (.cells #[x] e)).alloc (.cells #[y] e)).heap.size;simp<;>omega)).trans c2;obtain⟨a2,w2,r2,t2,_,b2⟩:=Qo t e z bytes ht aK bN t1.swap (w.heap.size+1) y c3 hy nZ me;exact⟨a1,w1,a2,w2,r1,r2,t2.swap,b1 xb T cs ((hk.alloc (.cells #[x] e)).alloc (.cells #[y] e)).drew hT,b2 xb T cs (b1 xb T cs ((hk.alloc (.cells #[x] e)).alloc (.cells #[y] e)).drew hT) hT⟩
 ·have c1:((w.alloc (.cells #[y] e)).alloc (.cells #[x] e)).drew.cell? ⟨w.heap.size,0,none⟩=some y:=((Bk.new w e #[y]).alloc (.cells #[x] e)).cell 0
  have c2:((w.alloc (.cells #[y] e)).alloc (.cells #[x] e)).drew.cell? ⟨w.heap.size+1,0,none⟩=some x:=by
   have:=(Bk.new (w.alloc (.cells #[y] e)) e #[x]).cell 0;rw[cV] at this;exact this
  obtain⟨a1,w1,r1,t1,k1,b1⟩:=Qo t e z bytes ht aK bN ((h.alloc (.cells #[y] e)).alloc (.cells #[x] e)).drew (w.heap.size+1) x c2 hx dR jh;have c3:=(k1 w.heap.size (λe=>by have:=gJ _ e.symm;omega) (by show _<((w.alloc (.cells #[y] e)).alloc (.cells #[x] e)).heap.size;simp<;>omega)).trans c1;obtain⟨a2,w2,r2,t2,_,b2⟩:=Qo t e z bytes ht aK bN t1.swap w.heap.size y c3 hy nZ me;exact⟨a1,w1,a2,w2,r1,r2,t2.swap,b1 xb T cs ((hk.alloc (.cells #[y] e)).alloc (.cells #[x] e)).drew hT,b2 xb T cs (b1 xb T cs ((hk.alloc (.cells #[y] e)).alloc (.cells #[x] e)).drew hT) hT⟩
theorem ZaA {P:Program} (t e:TypeId) (z:Value) (bytes:Nat) (ht:P.underlying t=some (.slice e)) (aK:(P.info? e).map (λi=>(i.zero,i.size,i.bytes))=some (some z,1,bytes)) (bN:z.cells.size=1) {w:World} {base:Nat} {v:Value} {n:Nat} {xs ys:List Value} (hv:w.ownsRow base e 1 v n xs) {A:Option Addr} (hu:At w A ys) (cap m:Nat) (hm:m=ys.length) (hA:A=none->ys=[]) (h1:∀y∈ys,y.oneCell'=true)
  (e9:n+m<=maxLen) (aV:(n+m)*bytes<=140737488355328) (bx:base<=w.heap.size):
  ∃v' w',(Builtin.append_ #[t,t] t #[v,.slice A m cap]).run P w=.ok v' w'/\w'.ownsRow base e 1 v' (n+m) (xs++ys)/\w.grownBy w' v.ownBlock/\(v'.ownBlock=v.ownBlock\/v'.ownBlock=some w.heap.size):=by
 obtain⟨i,hi,hz,hs,dj⟩:=info_parts aK;cases A with
 |none=>
  have hy:=hA rfl;subst hy;simp at hm;subst hm;refine⟨v,w,?_,by simpa using hv,⟨rfl,rfl,rfl,UZz,λ_ _ _=>rfl⟩,.inl rfl⟩;rcases hv.2 with ⟨rfl,rfl⟩|⟨g,cap,cur,rfl,_,_,oG,_⟩
  ·simp[Builtin.append_,run_underlying ht,Go.sizeOf,typeInfo,hi,Builtin.lenOf,Builtin.firstCells]
  ·simp[Builtin.append_,run_underlying ht,Go.sizeOf,typeInfo,hi,Builtin.lenOf,Builtin.firstCells,oG,storeCells]
 |some a=>
  obtain⟨v',w',hr,h2,h3,_,h5⟩:=run_append_own_at (P:=P) w base t t e i z 1 bytes ht hi hz hs dj bN (by omega) v n xs hv a m cap ys (by omega) (λj u hj=>by
   obtain⟨ab,rfl⟩:=List.getElem?_eq_some_iff.1 hj;obtain⟨b,o,hA,hb,hc⟩:=hu j ab;injection hA with hA;subst hA;rw[Go.WideShapes.add_plain];exact hc) h1 e9 aV bx
  exact⟨v',w',hr,h2,h3,h5⟩
theorem ZaB (e:TypeId) (w:World):(w.alloc (.cells #[] e)).ownsRow w.heap.size e 1 (.slice (some ⟨w.heap.size,0,none⟩) 0 0) 0 []:=
 World.ownsRow_made w #[] 0 UZz (by unfold maxLen;omega) rfl
theorem Z3 {P:Program} {ops:Array Oper} {rest:List Oper} {o:Oper} {a:Act} {w w0 w':World} {Q:Exit->Act->World->Prop} {v':Value} (hw:w=w0) (uI:o.guard=none) (s x:Operand) (t:TypeId)
  (ho:o.op=.call { callee:=.builtin .append,args:= #[s,x],argTypes:= #[t,t] }) (v u:Value) (hs:a.eval s=v) (hx:a.eval x=u)
  (hr:(Builtin.append_ #[t,t] o.type #[v,u]).run P w0=.ok v' w') (h:wpList P ops Q rest (a.put o.dst v') w'):wpList P ops Q (o::rest) a w:=by
 subst hw;refine wpList_plain uI λK hK=> ?_;unfold Oper.wp execOp;simp only[ho,resolve,invoke,builtin,Sem.run_bind,Sem.run_pure,Result.andThen_ok,List.map_toArray,Vcj,List.map_nil,hs,hx,hr];exact hK _ _ h
theorem Z5 {P:Program} {ops:Array Oper} {o:Oper} {a:Act} {w w0 w':World} {K:Act->World->Prop} {Q:Exit->Act->World->Prop} {E:Prop} {v':Value} (hw:w=w0) (uI:o.guard=none) (s x:Operand) (t:TypeId)
  (ho:o.op=.call { callee:=.builtin .append,args:= #[s,x],argTypes:= #[t,t] }) (v u:Value) (hs:a.eval s=v) (hx:a.eval x=u)
  (hr:(Builtin.append_ #[t,t] o.type #[v,u]).run P w0=.ok v' w') (h:K (a.put o.dst v') w'):
  if Region.wanted o (yielded ops a.tmps)=true then Oper.wp P o a w K Q else E:=by
 subst hw;exact Z3c uI s x t ho v u hs hx hr h
theorem Yq {P:Program} (t e:TypeId) (z:Value) (bytes:Nat) (ht:P.underlying t=some (.slice e)) (aK:(P.info? e).map (λi=>(i.zero,i.size,i.bytes))=some (some z,1,bytes)) (bN:z.cells.size=1) {w wb:World} {B:Nat} {v:Value} {n:Nat} {xs:List Value} (h:w.ownsRow B e 1 v n xs) (hf:Below B wb w) (hB:B<=w.heap.size) (x:Value) (hx:x.oneCell'=true) (e9:n+1<=maxLen) (aV:(n+1)*bytes<=140737488355328):
  ∃v' w',(Builtin.append_ #[t,t] t #[v,.slice (some ⟨w.heap.size,0,none⟩) 1 1]).run P (w.alloc (.cells #[x] e))=.ok v' w'/\w'.ownsRow B e 1 v' (n+1) (xs++[x])/\Below B wb w'/\(∀xb T cs,Bk w xb T cs->e≠T->Bk w' xb T cs):=by
 obtain⟨i,hi,hz,hs,dj⟩:=info_parts aK;obtain⟨v',w',hr,h2,h3,_⟩:=run_append_own_at (P:=P) (w.alloc (.cells #[x] e)) B t t e i z 1 bytes ht hi hz hs dj bN (by omega) v n xs (h.alloc _) ⟨w.heap.size,0,none⟩ 1 1 [x] rfl (XC _ _ _) (by simpa using hx) e9 aV (Vaq hB (by simp));exact⟨v',w',hr,h2,(hf.alloc hB _).grown h3 (Vaq hB (by simp)) (λk hk=>(h.lt k hk).1),λxb T cs hk hT=>(hk.alloc _).grown h3 (λe=>Z2 h hk hT e.symm)⟩
theorem Zet {P:Program} (t e:TypeId) (z:Value) (bytes:Nat) (ht:P.underlying t=some (.slice e)) (aK:(P.info? e).map (λi=>(i.zero,i.size,i.bytes))=some (some z,1,bytes)) (bN:z.cells.size=1) {w wb:World} {B:Nat} {v:Value} {n:Nat} {xs:List Value} (h:w.ownsRow B e 1 v n xs) (hf:Below B wb w) (hB:B<=w.heap.size) (x:Value) (hx:x.oneCell'=true) (e9:n+1<=maxLen) (aV:(n+1)*bytes<=140737488355328):
  ∃v' w',(Builtin.append_ #[t,t] t #[v,.slice (some ⟨w.heap.size,0,none⟩) 1 1]).run P (w.alloc (.cells #[x] e))=.ok v' w'/\w'.ownsRow B e 1 v' (n+1) (xs++[x])/\Below B wb w'/\(v'.ownBlock=v.ownBlock\/v'.ownBlock=some (w.heap.size+1))/\w.heap.size+1<=w'.heap.size/\
   (∀A vs,At w A vs->(∀b o,A=some ⟨b,o,none⟩->v.ownBlock≠some b)->At w' A vs):=by
 obtain⟨i,hi,hz,hs,dj⟩:=info_parts aK;obtain⟨v',w',hr,h2,h3,_,h5⟩:=run_append_own_at (P:=P) (w.alloc (.cells #[x] e)) B t t e i z 1 bytes ht hi hz hs dj bN (by omega) v n xs (h.alloc _) ⟨w.heap.size,0,none⟩ 1 1 [x] rfl (XC _ _ _) (by simpa using hx) e9 aV (Vaq hB (by simp));have fa:Fr (λk=>v.ownBlock=some k) (w.alloc (.cells #[x] e)) w':=(Fr.refl _ _).grown h3 (λk hk=>.inl hk);refine⟨v',w',hr,h2,(hf.alloc hB _).grown h3 (Vaq hB (by simp)) (λk hk=>(h.lt k hk).1),?_,?_,λA vs ha hA=> ?_⟩
 ·rcases h5 with h5|h5
  ·exact .inl h5
  ·refine .inr (h5.trans ?_);simp
 ·have:=fa.size;simpa using this
 ·exact(ha.alloc _).keep fa (λb o hb hs=>hA b o hb hs)
theorem Z3t {P : Program} (t e : TypeId) (z : Value) (bytes size : Nat) (ht : P.underlying t = some (.slice e)) (aK : (P.info? e).map (λi => (i.zero, i.size, i.bytes)) = some (some z, size, bytes)) (bN : z.cells.size = size) (kF : 0 < size) {w wb : World} {B : Nat} {v : Value} {n : Nat} {xs : List Value} (h : w.ownsRow B e size v n xs) (hf : Below B wb w) (hB : B <= w.heap.size) (ys : List Value) (KQ : ys.length = size) (h1 : ∀ y ∈ ys, y.oneCell' = true) (e9 : n + 1 <= maxLen) (aV : (n + 1) * bytes <= 140737488355328) :
    ∃v' w',(Builtin.append_ #[t,t] t #[v,.slice (some ⟨w.heap.size,0,none⟩) 1 1]).run P (w.alloc (.cells ys.toArray e))=.ok v' w'/\w'.ownsRow B e size v' (n+1) (xs++ys)/\Below B wb w'/\(v'.ownBlock=v.ownBlock\/v'.ownBlock=some (w.heap.size+1))/\w.heap.size+1<=w'.heap.size/\
      (∀A vs,At w A vs->(∀b o,A=some ⟨b,o,none⟩->v.ownBlock≠some b)->At w' A vs):=by
  obtain⟨i,hi,hz,hs,dj⟩:=info_parts aK
  obtain ⟨v', w', hr, h2, h3, _, h5⟩ := run_append_own_at (P := P) (w.alloc (.cells ys.toArray e)) B t t e i z size bytes ht hi hz hs dj bN kF v n xs (h.alloc _) ⟨w.heap.size, 0, none⟩ 1 1 ys (by omega) (λj u hu => by
      have hb:=(Bk.new w e ys.toArray).cell j;rw[Go.WideShapes.add_plain,Vbo,hb];simpa using hu) h1 e9 aV (Vaq hB (by simp))
  have fa:Fr (λk=>v.ownBlock=some k) (w.alloc (.cells ys.toArray e)) w':=(Fr.refl _ _).grown h3 (λk hk=>.inl hk);refine⟨v',w',hr,h2,(hf.alloc hB _).grown h3 (Vaq hB (by simp)) (λk hk=>(h.lt k hk).1),?_,?_,λA vs ha hA=> ?_⟩
  · rcases h5 with h5|h5
    · exact .inl h5
    · refine .inr (h5.trans ?_)
      simp
  · have:=fa.size
    simpa using this
  · exact(ha.alloc _).keep fa (λb o hb hs=>hA b o hb hs)
end Wv
namespace Wv.Tm
def tv:Int->List Int->Bool
 |_,[]=>true
 |last,t::r=>decide (last<t)&&decide (t<=1099511627776)&&tv t r
def Zf (l:List Int):Bool:=tv (-1) l&&decide (l.length<=4096)
def gp:Int->List Int->List Int
 |_,[]=>[]
 |last,t::r=>(t-last-1)::gp t r
def Z6 (l:List Int):List Int:=gp (-1) l
def jn:Int->List Int->Option (List Int)
 |_,[]=>some []
 |last,g::r=>if g<0\/1099511627776<g\/1099511627776<last+g+1 then none else(jn (last+g+1) r).map ((last+g+1)::·)
def jnL (x:List Int):Option (List Int):=match jn (-1) x with
 |some l=>if l.length<=4096 then some l else none
 |none=>none
theorem Q9 {last t:Int} {r:List Int} :tv last (t::r)=true↔last<t/\t<=1099511627776/\tv t r=true:=by
 show(decide _&&decide _&&_)=true↔_;rw[Va1,Va1,Vas,Vas,and_assoc]
theorem ZjQ {l:List Int} :∀ {last:Int},tv last l=true->∀t∈l,last<t/\t<=1099511627776:=by
 induction l with
 |nil=>intro last _ t ht;cases ht
 |cons a r ih=>
  intro last h t ht;obtain⟨h1,h2,h3⟩:=Q9.1 h;rcases Vba.1 ht with rfl|ht
  ·exact⟨h1,h2⟩
  ·have:=ih h3 t ht;omega
theorem ZaC {l:List Int} :∀ {last:Int},tv last l=true->l.Pairwise (· <·):=by
 induction l with
 |nil=>intro _ _;exact List.Pairwise.nil
 |cons a r ih=>
  intro last h;obtain⟨_,_,h3⟩:=Q9.1 h;exact List.Pairwise.cons (λt ht=>(ZjQ h3 t ht).1) (ih h3)
theorem Zl5 {l:List Int} :∀ {last:Int},l.Pairwise (· <·)->(∀t∈l,last<t/\t<=1099511627776)->tv last l=true:=by
 induction l with
 |nil=>intro _ _ _;rfl
 |cons a r ih=>
  intro last h hb;rw[List.pairwise_cons] at h;refine Q9.2 ⟨(hb a Vap).1,(hb a Vap).2,ih h.2 (λt ht=>⟨h.1 t ht,(hb t (Var _ ht)).2⟩)⟩
theorem Z8 {l:List Int} :Zf l=true↔l.Pairwise (· <·)/\(∀t∈l,0<=t/\t<=1099511627776)/\l.length<=4096:=by
 unfold Zf;rw[Va1,Vas];constructor
 ·rintro⟨h1,h2⟩;exact⟨ZaC h1,λt ht=>by have:=ZjQ h1 t ht;omega,h2⟩
 ·rintro⟨h1,h2,h3⟩;exact⟨Zl5 h1 (λt ht=>by have:=h2 t ht;omega),h3⟩
theorem ZV (l:List Int):∀last,(gp last l).length=l.length:=by
 induction l with
 |nil=>intro _;rfl
 |cons a r ih=>intro last;simp[gp,ih]
theorem ZjR {l:List Int} :∀ {last:Int},-1<=last->tv last l=true->∀g∈gp last l,0<=g/\g<=1099511627776:=by
 induction l with
 |nil=>intro last _ _ g hg;cases hg
 |cons a r ih=>
  intro last h0 h g hg;obtain⟨h1,h2,h3⟩:=Q9.1 h;rcases Vba.1 hg with rfl|hg
  ·omega
  ·exact ih (by omega) h3 g hg
theorem Zl6 {l:List Int} :∀ {last:Int},-1<=last->tv last l=true->jn last (gp last l)=some l:=by
 induction l with
 |nil=>intro _ _ _;rfl
 |cons a r ih=>
  intro last h0 h;obtain⟨h1,h2,h3⟩:=Q9.1 h;show(if _ then none else _)=_;rw[Vad (by omega),show last+(a-last-1)+1=a by omega,ih (by omega) h3];rfl
theorem Zl7 {x:List Int} :∀ {last:Int} {l:List Int},-1<=last->jn last x=some l->tv last l=true/\gp last l=x/\l.length=x.length:=by
 induction x with
 |nil=>intro last l _ h;injection h with h;subst h;exact⟨rfl,rfl,rfl⟩
 |cons g r ih=>
  intro last l h0 h;unfold jn at h;split at h
  ·cases h
  ·rename_i hc;match hj:jn (last+g+1) r,h with
   |none,h=>cases h
   |some l',h=>
    injection h with h;subst h;obtain⟨i1,i2,i3⟩:=ih (by omega) hj;exact⟨Q9.2 ⟨by omega,by omega,i1⟩,by simp[gp,i2];omega,by simp[i3]⟩
theorem Z1a {l:List Int} (h:Zf l=true):jnL (Z6 l)=some l:=by
 unfold Zf at h;rw[Va1,Vas] at h;unfold jnL Z6;rw[Zl6 (by omega) h.1];simp only;rw[Vaf h.2]
theorem Z1D {x l:List Int} (h:jnL x=some l):Zf l=true/\Z6 l=x:=by
 unfold jnL at h;match hj:jn (-1) x,h with
 |none,h=>cases h
 |some l',h=>
  simp only at h;split at h
  ·rename_i h4;injection h with h;subst h;obtain⟨i1,i2,_⟩:=Zl7 (by omega) hj;exact⟨by unfold Zf;rw[Va1,Vas];exact⟨i1,h4⟩,i2⟩
  ·cases h
theorem Xj {l:List Int} (h:Zf l=true):∀g∈Z6 l,0<=g/\g<=1099511627776:=by
 unfold Zf at h;rw[Va1] at h;exact ZjR (by omega) h.1
structure Clk where
 st:Int
 f:Int
 s:Int
 n:Int
deriving DecidableEq
def Z5X:Clk:=⟨0,0,0,0⟩
def atC (c:Clk) (i:Nat):Int:=c.st+((i+1)/2:Nat)*c.f+(i/2:Nat)*c.s
def ZaD (c:Clk) (i:Nat):Int:=if i % 2=0 then c.f else c.s
theorem Zeu (c:Clk):atC c 0=c.st:=by unfold atC;simp
theorem Zev (c:Clk) (i:Nat):atC c (i+1)=atC c i+ZaD c i:=by
 unfold atC ZaD;rcases Nat.mod_two_eq_zero_or_one i with h|h
 ·rw[Vaf h,show(i+1+1)/2=(i+1)/2+1 by omega,show(i+1)/2=i/2 by omega,Vcq,Vcu];omega
 ·rw[Vad (by omega),show(i+1+1)/2=(i+1)/2 by omega,show(i+1)/2=i/2+1 by omega,Vcq,Vcu,Vcu];omega
def inC (c:Clk):Prop:=1<=c.n/\c.n<=4096/\0<=c.st/\c.st<=1099511627776/\1<=c.f/\c.f<=1099511627776/\1<=c.s/\c.s<=1099511627776
instance (c:Clk):Decidable (inC c):=by unfold inC;infer_instance
def vclk (c:Clk):Bool:=decide (inC c)&&decide (atC c (c.n-1).toNat<=1099511627776)
theorem Yv {c:Clk} :vclk c=true↔inC c/\atC c (c.n-1).toNat<=1099511627776:=by
 unfold vclk;rw[Va1,Vas,Vas]
theorem Zew {c:Clk} (h:inC c) (i:Nat):1<=ZaD c i/\ZaD c i<=1099511627776:=by
 obtain⟨_,_,_,_,h1,h2,h3,h4⟩:=h;unfold ZaD;split<;>omega
theorem ZjS {c:Clk} (h:inC c):∀ {i j:Nat},i<j->atC c i<atC c j:=by
 intro i j Vv;induction j with
 |zero=>omega
 |succ j ih=>
  have hs:=Zew h j;rw[Zev];rcases Nat.lt_or_ge i j with h1|h1
  ·have:=ih h1;omega
  ·have:i=j:=(by omega);subst this;omega
def ZE (c:Clk):List Int:=(List.range c.n.toNat).map (atC c)
theorem Z03 (c:Clk):(ZE c).length=c.n.toNat:=by simp[ZE]
theorem Z04 {c:Clk} (h:inC c):(ZE c).Pairwise (· <·):=by
 unfold ZE;rw[List.pairwise_map];exact List.Pairwise.imp (λKZ=>ZjS h KZ) List.pairwise_lt_range
def cntC (c:Clk) (m:Int):Nat->Nat->Nat
 |0,k=>k
 |fuel+1,k=>if k<4096/\atC c k<=m then cntC c m fuel (k+1) else k
theorem ZaE (c:Clk) (m:Int):∀(fuel k:Nat),¬(k<4096/\atC c k<=m)->cntC c m fuel k=k:=by
 intro fuel k h;cases fuel with
 |zero=>rfl
 |succ f=>rw[cntC,Vad h]
theorem ZaF (c:Clk) (m:Int) (fuel k:Nat) (h:k<4096/\atC c k<=m):cntC c m (fuel+1) k=cntC c m fuel (k+1):=by rw[cntC,Vaf h]
theorem ZaG (c:Clk) (m:Int):∀(fuel k:Nat),k<=4096->4096-k<=fuel->k<=cntC c m fuel k/\cntC c m fuel k<=4096/\(∀i,k<=i->i<cntC c m fuel k->atC c i<=m)/\(cntC c m fuel k<4096->m<atC c (cntC c m fuel k)):=by
 intro fuel;induction fuel with
 |zero=>
  intro k h1 h2;rw[cntC];exact⟨UZz,h1,λi _ _=>by omega,λ_=>by omega⟩
 |succ f ih=>
  intro k h1 h2;rw[cntC];by_cases h:k<4096/\atC c k<=m
  ·rw[Vaf h];obtain⟨i1,i2,i3,i4⟩:=ih (k+1) (by omega) (by omega);refine⟨by omega,i2,λi hi uP=> ?_,i4⟩;rcases Nat.lt_or_ge k i with h9|h9
   ·exact i3 i h9 uP
   ·have:i=k:=(by omega);rw[this];exact h.2
  ·rw[Vad h];exact⟨UZz,h1,λi _ _=>by omega,λ_=>by omega⟩
def detF (a b:Int) (r:List Int):Clk:=⟨a,b-a,match r with|[]=>b-a|t::_=>t-b,1⟩
def Zm (l:List Int):Clk:=match l with
 |a::b::r=>if Zf l=true then { detF a b r with n:=(cntC (detF a b r) ((a::b::r).getLast (by simp)) 4096 1:Nat) } else Z5X
 |_=>Z5X
theorem Zl8 (c:Clk) (n:Int) (i:Nat):atC { c with n:=n } i=atC c i:=rfl
theorem XK {l:List Int} (h:Zf l=true) (h2:2<=l.length):vclk (Zm l)=true:=by
 match l,h2 with
 |a::b::r,_=>
  have hd:Zm (a::b::r)= { detF a b r with n:=(cntC (detF a b r) ((a::b::r).getLast (by simp)) 4096 1:Nat) } :=by
   show(if _ then _ else _)=_;rw[Vaf h]
  obtain⟨v1,v2,v3⟩:=Z8.1 h;obtain⟨m,hm⟩:∃m,(a::b::r).getLast (by simp)=m:=⟨_,rfl⟩;have eR:=v2 m (by rw[<-hm];exact List.getLast_mem _);rw[hd,hm];obtain⟨i1,i2,i3,i4⟩:=ZaG (detF a b r) m 4096 1 (by omega) (by omega);obtain⟨k,hk⟩:∃k,cntC (detF a b r) m 4096 1=k:=⟨_,rfl⟩;rw[hk] at i1 i2 i3 i4⊢;have ha:=v2 a Vap;have hb:=v2 b (Var _ Vap);rw[List.pairwise_cons] at v1;obtain⟨w1,w2⟩:=v1;have KZ:=w1 b Vap
  have hs:1<=(detF a b r).s/\(detF a b r).s<=1099511627776:=by
   unfold detF;cases r with
   |nil=>simp only;omega
   |cons t q=>
    have ht:=v2 t (Var _ (Var _ Vap));rw[List.pairwise_cons] at w2;have:=w2.1 t Vap;simp only;omega
  refine Yv.2 ⟨⟨by simp only;omega,by simp only;omega,ha.1,ha.2,by show 1<=b-a;omega,by show b-a<=_;omega,hs.1,hs.2⟩,?_⟩;rw[Zl8];show atC _ ((k:Int)-1).toNat<=_;rw[show((k:Int)-1).toNat=k-1 by omega];rcases Nat.lt_or_ge 1 k with h9|h9
  ·exact Int.le_trans (i3 (k-1) (by omega) (by omega)) eR.2
  ·rw[show k-1=0 by omega,Zeu];exact ha.2
def srt (l:List Int):List Int:=l.mergeSort (λa b=>decide (a<=b))
theorem Z7i (l:List Int):(srt l).Perm l:=List.mergeSort_perm _ _
theorem Z8z (l:List Int):(srt l).Pairwise (· <=·):=by
 have:=List.pairwise_mergeSort (le:=λa b:Int=>decide (a<=b)) (λa b c h1 h2=>by simp at*;omega) (λa b=>by simp;omega) l;exact this.imp (λh=>by simpa using h)
theorem ZjT {l r:List Int} (h:r.Perm l) (hs:r.Pairwise (· <=·)):srt l=r:=
 List.Perm.eq_of_pairwise (le:=(· <=·)) (λa b _ _ h1 h2=>Int.le_antisymm h1 h2) (Z8z l) hs ((Z7i l).trans h.symm)
def XW (c:Clk) (l:List Int):List Int:=((List.range c.n.toNat).filter (λi=> !l.contains (atC c i))).map Int.ofNat
def furL (c:Clk) (l:List Int):List Int:=l.filter (λt=> !(ZE c).contains t)
def excT (c:Clk) (l:List Int):Option (List Int×List Int):=if vclk c=true/\Zf l=true then some (XW c l,furL c l) else none
def ZaH (c:Clk) (m:List Int):List Int:=((List.range c.n.toNat).filter (λ(i:Nat)=> !m.contains (i:Int))).map (atC c)
def rebL (c:Clk) (m x:List Int):List Int:=srt (ZaH c m++x)
theorem ZaI (c:Clk) (l:List Int):ZaH c (XW c l)=(ZE c).filter (λt=>l.contains t):=by
 unfold ZaH ZE;rw[List.filter_map];congr 1;apply List.filter_congr;intro i hi;rw[Vbl];simp only[Bool.not_eq_true',List.contains_eq_mem,Vbp,Function.comp,decide_eq_true_eq];unfold XW;constructor
 ·intro h;by_cases hm:atC c i∈l
  ·exact hm
  ·exact absurd (Va6.2 ⟨i,List.mem_filter.2 ⟨hi,by simp[hm]⟩,rfl⟩) h
 ·intro h hm;obtain⟨j,hj,PT⟩:=Va6.1 hm;have:j=i:=Int.ofNat.inj PT;subst this;have:=(List.mem_filter.1 hj).2;simp[h] at this
theorem Z3u {l:List Int} (h:l.Pairwise (· <·)):l.Nodup:=h.imp (λh e=>by omega)
theorem ZhE {c:Clk} {l:List Int} (hc:inC c) (hl:Zf l=true):rebL c (XW c l) (furL c l)=l:=by
 obtain⟨v1,v2,v3⟩:=Z8.1 hl;unfold rebL;refine ZjT ?_ (v1.imp (λh=>Int.le_of_lt h));rw[ZaI];have hT:=Z04 hc
 have n1:((ZE c).filter (λt=>l.contains t)++furL c l).Nodup:=by
  rw[List.nodup_append];refine⟨Z3u (hT.sublist List.filter_sublist),Z3u (v1.sublist List.filter_sublist),?_⟩;rintro a ha b hb rfl;have h1:=(List.mem_filter.1 ha).1;have h2:=(List.mem_filter.1 hb).2;simp[h1] at h2
 refine(List.perm_ext_iff_of_nodup (Z3u v1) n1).2 (λa=> ?_);rw[Va9];unfold furL;rw[List.mem_filter,List.mem_filter];by_cases h:a∈ZE c<;>simp[h]
theorem X2 {c:Clk} (hc:inC c) (l:List Int):Zf (XW c l)=true:=by
 refine Z8.2 ⟨?_,?_,?_⟩
 ·unfold XW;rw[List.pairwise_map];exact(List.pairwise_lt_range.sublist List.filter_sublist).imp (λh=>Int.ofNat_lt.2 h)
 ·intro t ht;obtain⟨i,hi,rfl⟩:=Va6.1 ht;have:=List.mem_range.1 (List.mem_filter.1 hi).1;have:=hc.2.1;constructor
  ·exact Int.natCast_nonneg i
  ·show(i:Int)<=_;omega
 ·unfold XW;rw[Vag];have h1:=List.length_filter_le (λi=> !l.contains (atC c i)) (List.range c.n.toNat);rw[Vbu] at h1;have:=hc.2.1;omega
theorem Qp {c:Clk} {l:List Int} (hl:Zf l=true):Zf (furL c l)=true:=by
 obtain⟨v1,v2,v3⟩:=Z8.1 hl;refine Z8.2 ⟨v1.sublist List.filter_sublist,λt ht=>v2 t (List.mem_filter.1 ht).1,?_⟩;have h1:=List.length_filter_le (λt=> !(ZE c).contains t) l;unfold furL;omega
end Wv.Tm
