import Derived.Test.YtchokmkfobandaaGreatDoorJ24
import Derived.Lib.EndianBits
set_option linter.unusedVariables false
set_option linter.unusedSimpArgs false
set_option maxRecDepth 100000
set_option maxHeartbeats 8000000
namespace Go.Proofs.YtchokmkfobandaaGreatDoor
open Go.RowKit Go.Proofs Wv Wv.Vi Wv.Fm
theorem Zas (s:List UInt8) (hs:s.length<=1000000000) (w:World):
  Calls Tryz.prog 83 #[.string (bs s)] w λx w'=>x=.returned (.string (bs (Z3A s)))/\Below w.heap.size w w':=by
 have Hs:=h_ (Z6L s (by omega) w);have ab:=Za6 s;obtain⟨n,hn⟩:∃n,crcN s=n:=⟨_,rfl⟩;rw[hn] at Hs ab;obtain⟨a1,h1⟩:∃a,n % 256=a:=⟨_,rfl⟩;obtain⟨a2,h2⟩:∃a,n/256 % 256=a:=⟨_,rfl⟩;obtain⟨a3,h3⟩:∃a,n/65536 % 256=a:=⟨_,rfl⟩;obtain⟨a4,h4⟩:∃a,n/16777216=a:=⟨_,rfl⟩;have i1:(n:Int) % 256=(a1:Int):=(by omega);have i2:(n:Int)/256 % 256=(a2:Int):=(by omega);have i3:(n:Int)/65536 % 256=(a3:Int):=(by omega);have i4:(n:Int)/16777216=(a4:Int):=(by omega);have l1:a1<256:=(by omega);have l2:a2<256:=(by omega);have l3:a3<256:=(by omega);have l4:a4<256:=(by omega);have i5:(a4:Int) % 256=(a4:Int):=(by omega)
 have ew:(convert 115 9 (.slice (some ⟨w.heap.size,0,none⟩) 4 4)).run Tryz.prog (w.alloc (.cells #[.int .u8 (a1:Int),.int .u8 (a2:Int),.int .u8 (a3:Int),.int .u8 (a4:Int)] 5))=.ok (.string (bs [UInt8.ofNat a1,UInt8.ofNat a2,UInt8.ofNat a3,UInt8.ofNat a4])) (w.alloc (.cells #[.int .u8 (a1:Int),.int .u8 (a2:Int),.int .u8 (a3:Int),.int .u8 (a4:Int)] 5)):=by
  refine run_convert_bytes_back _ 115 9 5 ⟨w.heap.size,0,none⟩ 4 [UInt8.ofNat a1,UInt8.ofNat a2,UInt8.ofNat a3,UInt8.ofNat a4] Tryz.underlying115 Tryz.underlying5 Tryz.underlying9 (λj hj=> ?_);have Pk:j<4:=hj;rw[Go.WideShapes.add_plain,Nat.zero_add,(Bk.new w _ _).cell];have:j=0\/j=1\/j=2\/j=3:=(by omega);rcases this with rfl|rfl|rfl|rfl<;>simp[Nat.mod_eq_of_lt, *]
 have ad:(bs s).size<=1000000000:=(by rw[Z00];exact hs);have iQ:(bs [UInt8.ofNat a1,UInt8.ofNat a2,UInt8.ofNat a3,UInt8.ofNat a4]).size=4:=rfl
 have Hr:=h_ (show bs s++bs [UInt8.ofNat a1,UInt8.ofNat a2,UInt8.ofNat a3,UInt8.ofNat a4]=bs (Z3A s) from by
  rw[Z0f];unfold Z3A le4;rw[hn,<-h1,<-h2,<-h3,<-h4];have q:∀x:Nat,UInt8.ofNat (x % 256)=UInt8.ofNat x:=λx=>(by apply UInt8.toNat_inj.1;simp);rw[q,q,q])
 have hb:=h_ ((Below.refl w.heap.size w).alloc (Nat.le_refl _) (.cells #[.int .u8 (a1:Int),.int .u8 (a2:Int),.int .u8 (a3:Int),.int .u8 (a4:Int)] 5));clear hn h1 h2 h3 h4;generalize bs s=s1 at*;generalize bs [UInt8.ofNat a1,UInt8.ofNat a2,UInt8.ofNat a3,UInt8.ofNat a4]=s2 at*;go_enter Tryz.func83,Tryz.ntmps83;go_wp2_with fail;refine(Hs.o).mono ?_;rintro x w1 ⟨rfl,rfl⟩;go_wp2;go_ret;exact⟨Z4w Hr.o,hb.o⟩
def lst4 (b0 b1 b2:Nat):Nat->Nat
 |0=>0
 |1=>b0
 |2=>b0+256*b1
 |_=>b0+256*b1+65536*b2
def synN (s:List UInt8):Nat:=crcN (s.take (s.length-4)) ^^^ Z7K s
theorem Zjr (s:List UInt8):Z7K s<4294967296:=by
 unfold Z7K;have h0:=(s.getD (s.length-4) 0).toNat_lt;have h1:=(s.getD (s.length-3) 0).toNat_lt;have h2:=(s.getD (s.length-2) 0).toNat_lt;have h3:=(s.getD (s.length-1) 0).toNat_lt;omega
theorem Z9h (a b:Nat):a ^^^ b=0↔a=b:=by
 constructor
 ·intro h;apply Nat.eq_of_testBit_eq;intro i;have:=congrArg (λn=>n.testBit i) h;simp only[Nat.testBit_xor,Nat.zero_testBit] at this;revert this;cases a.testBit i<;>cases b.testBit i<;>simp
 ·intro h;rw[h,Nat.xor_self]
theorem Zgl {s:List UInt8} (h:4<=s.length):Z3N s=decide (synN s=0):=by
 unfold Z3N synN;rw[decide_eq_true h,Bool.true_and,Bool.eq_iff_iff,decide_eq_true_iff,decide_eq_true_iff,Z9h]
theorem Zd7 (s:List UInt8) (h4:4<=s.length) (hs:s.length<=1000000000) (w:World):
  Calls Tryz.prog 181 #[.string (bs s)] w λx w'=>x=.returned (.int .u32 (synN s:Nat))/\w=w':=by
 obtain⟨k,hk⟩:∃k,s.length=k+4:=⟨s.length-4,by omega⟩;have ad:(bs s).size=k+4:=(by rw[Z00,hk])
 have hg:∀j (h:k+j<s.length) (h2:k+j<(bs s).size),((bs s)[k+j]'h2).toNat=(s.getD (k+j) 0).toNat:=λj h h2=>by
  rw[Zaf s (k+j) h h2];simp[List.getD,h]
 have fV:Z7K s=(s.getD (k+0) 0).toNat+256*(s.getD (k+1) 0).toNat+65536*(s.getD (k+2) 0).toNat+16777216*(s.getD (k+3) 0).toNat:=by
  unfold Z7K;rw[hk,show k+4-4=k+0 by omega,show k+4-3=k+1 by omega,show k+4-2=k+2 by omega,show k+4-1=k+3 by omega]
 obtain⟨b0,aA⟩:∃b,(s.getD (k+0) 0).toNat=b:=⟨_,rfl⟩;obtain⟨b1,a7⟩:∃b,(s.getD (k+1) 0).toNat=b:=⟨_,rfl⟩;obtain⟨b2,a8⟩:∃b,(s.getD (k+2) 0).toNat=b:=⟨_,rfl⟩;obtain⟨b3,ae⟩:∃b,(s.getD (k+3) 0).toNat=b:=⟨_,rfl⟩;have l0:b0<256:=(by rw[<-aA];exact UInt8.toNat_lt _);have l1:b1<256:=(by rw[<-a7];exact UInt8.toNat_lt _);have l2:b2<256:=(by rw[<-a8];exact UInt8.toNat_lt _);have l3:b3<256:=(by rw[<-ae];exact UInt8.toNat_lt _);rw[aA,a7,a8,ae] at fV;have xC:=h_ (λ(h2:k<(bs s).size)=>(hg 0 (by omega) h2).trans aA);have gi:=h_ (λ(h2:k+1<(bs s).size)=>(hg 1 (by omega) h2).trans a7);have xD:=h_ (λ(h2:k+2<(bs s).size)=>(hg 2 (by omega) h2).trans a8);have xE:=h_ (λ(h2:k+3<(bs s).size)=>(hg 3 (by omega) h2).trans ae);have hex:(bs s).extract 0 k=bs (s.take k):=Z7j (bs s) k;have nm:=h_ (λW=>Z6L (s.take k) (by rw[List.length_take];omega) W);have Ah:synN s=crcN (s.take k) ^^^ Z7K s:=(by unfold synN;rw[hk,Nat.add_sub_cancel]);have ia:=Za6 (s.take k);have fu:=Zjr s;obtain⟨c,hc⟩:∃c,crcN (s.take k)=c:=⟨_,rfl⟩;obtain⟨l,hl⟩:∃l,Z7K s=l:=⟨_,rfl⟩;obtain⟨z,hz⟩:∃z,synN s=z:=⟨_,rfl⟩;rw[hc] at nm Ah ia;rw[hl] at Ah fu fV;rw[hz] at Ah⊢;have hx:bits .xor .u32 (c:Int) (l:Int)=(z:Int):=(by rw[u32_xor_nat c l ia fu,Ah]);have xF:=h_ fV;obtain⟨LS,L0,L1,L2,L3,L4⟩:∃f:Nat->Nat,f 0=0/\f 1=b0/\f 2=b0+256*b1/\f 3=b0+256*b1+65536*b2/\f 4=l:=⟨λi=>if i=4 then l else lst4 b0 b1 b2 i,rfl,rfl,rfl,rfl,rfl⟩;have L0:=h_ L0;have L1:=h_ L1;have L2:=h_ L2;have L3:=h_ L3;have L4:=h_ L4;generalize bs (s.take k)=T at*;generalize bs s=S at*;have cH:=h_ ad;have lD:k<=1000000000:=(by omega);have GN:(S.size:Int)=(k:Int)+4:=(by rw[ad];omega);clear hg aA a7 a8 ae Ah hc hl hz hk fV ad h4 hs;go_enter Tryz.func181,Tryz.ntmps181;go_wp2;clear GN;go_loopw [4,9] (λs4 s9 wr=>∃i:Nat,i<=4/\s9=.int .i64 (i:Int)/\s4=.int .u32 (LS i:Int)/\wr=w) (λ_ s9 _=>(4-intOf s9).toNat);case atStart=>exact⟨0,by omega,rfl,by rw[L0.out];rfl,rfl⟩
 case round=>
  obtain⟨i,hi,rfl,rfl,rfl⟩:=hrel;have nU:k<S.size:=(by rw[cH.o];omega);have lQ:k+1<S.size:=(by rw[cH.o];omega);have jZ:k+2<S.size:=(by rw[cH.o];omega);have UG:k+3<S.size:=(by rw[cH.o];omega);have bU:(0:Int)<=(k:Int):=(by omega);have ji:(k:Int)<(S.size:Int):=(by omega);have Ai:(k:Int)+1<(S.size:Int):=(by omega);have uc:(k:Int)+2<(S.size:Int):=(by omega);have UH:(k:Int)+3<(S.size:Int):=(by omega);rcases(show i=0\/i=1\/i=2\/i=3\/i=4 by omega) with rfl|rfl|rfl|rfl|rfl
  ·have hg:∀h:k<S.size,(S[k]'h).toNat=b0:=xC.o
   have e1:bits .or .u32 0 (b0:Int)=(b0:Int):=by
    have:=u32_or_nat 0 b0 (by omega) (by omega);rw[Nat.zero_or] at this;exact this
   clear xC gi xD xE xF nm hx hex;rw[L0.out];go_wp2;go_roundw;case rel=>exact⟨1,by omega,rfl,by rw[L1.out];all_goals first|(congr 1;done)|(congr 1;omega),by first|rfl|trivial⟩
   case measure=>simp[intOf]
  ·have hg:∀h:k+1<S.size,(S[k+1]'h).toNat=b1:=gi.o
   have e1:bits .or .u32 (b0:Int) ((b1:Int)*256)=((b0+256*b1:Nat):Int):=by
    rw[u32_or8 _ _ (by omega) (by omega) (by omega) (by omega) (by omega)];all_goals omega
   clear xC gi xD xE xF nm hx hex;rw[L1.out];go_wp2;go_roundw;case rel=>exact⟨2,by omega,rfl,by rw[L2.out];all_goals first|(congr 1;done)|(congr 1;omega),by first|rfl|trivial⟩
   case measure=>simp[intOf]
  ·have hg:∀h:k+2<S.size,(S[k+2]'h).toNat=b2:=xD.o;obtain⟨y,hy⟩:∃y,b0+256*b1=y:=⟨_,rfl⟩
   have e1:bits .or .u32 (y:Int) ((b2:Int)*65536)=((y+65536*b2:Nat):Int):=by
    rw[u32_or16 _ _ (by omega) (by omega) (by omega) (by omega) (by omega)];all_goals omega
   clear xC gi xD xE xF nm hx hex;rw[L2.out];rw[hy];go_wp2;go_roundw;case rel=>exact⟨3,by omega,rfl,by rw[L3.out];all_goals first|(congr 1;done)|(congr 1;omega),by first|rfl|trivial⟩
   case measure=>simp[intOf]
  ·have hg:∀h:k+3<S.size,(S[k+3]'h).toNat=b3:=xE.o;obtain⟨y,hy⟩:∃y,b0+256*b1+65536*b2=y:=⟨_,rfl⟩
   have e1:bits .or .u32 (y:Int) ((b3:Int)*16777216)=(l:Int):=by
    rw[u32_or24 _ _ (by omega) (by omega) (by omega) (by omega) (by omega),xF.o];all_goals omega
   clear xC gi xD xE xF nm hx hex;rw[L3.out];rw[hy];go_wp2;go_roundw;case rel=>exact⟨4,by omega,rfl,by rw[L4.out];all_goals first|(congr 1;done)|(congr 1;omega),by first|rfl|trivial⟩
   case measure=>simp[intOf]
  ·rw[L4.out];clear xC gi xD xE xF;go_wp2_with fail;refine(nm.o _).mono ?_;rintro x w1 ⟨rfl,rfl⟩;go_wp2;go_ret;exact⟨rfl,rfl⟩
theorem Z2S (s:List UInt8) (hs:s.length<=1000000000) (w:World):
  Calls Tryz.prog 138 #[.string (bs s)] w λx w'=>(∃y,x=.returned (.tuple #[.string y,.int .i64 (if Z3N s=true then 0 else 12)]))/\w=w':=by
 have ad:(bs s).size=s.length:=Z00 s;by_cases h4:4<=s.length
 ·have Hs:=h_ (Zd7 s h4 hs w);have ho:=Zgl h4;have Di:¬((bs s).size:Int)<4:=(by rw[ad];omega);have UI:4<=(bs s).size:=(by rw[ad];exact h4);have eQ:(bs s).size<=1000000000:=(by rw[ad];exact hs);rw[ho];obtain⟨z,hz⟩:∃z,synN s=z:=⟨_,rfl⟩;rw[hz] at Hs⊢;clear ho ad hz h4 hs;generalize bs s=S at*;by_cases dp:z=0
  ·subst dp;go_enter Tryz.func138,Tryz.ntmps138;go_wp2_with fail;refine(Hs.o).mono ?_;rintro x w1 ⟨rfl,rfl⟩;go_wp2;go_returns;exact⟨⟨_,rfl⟩,rfl⟩
  ·have Dq:((z:Int) !=0)=true:=bne_iff_ne.2 (by omega);rw[if_neg (by simpa using dp)];go_enter Tryz.func138,Tryz.ntmps138;go_wp2_with fail;refine(Hs.o).mono ?_;rintro x w1 ⟨rfl,rfl⟩;go_wp2;go_returns;exact⟨⟨_,rfl⟩,rfl⟩
 ·have Di:((bs s).size:Int)<4:=(by rw[ad];omega);have ho:Z3N s=false:=(by unfold Z3N;rw[decide_eq_false h4,Bool.false_and]);rw[ho];clear ad ho h4 hs;generalize bs s=S at*;go_enter Tryz.func138,Tryz.ntmps138;go_wp2;go_returns;exact⟨⟨_,rfl⟩,rfl⟩
end Go.Proofs.YtchokmkfobandaaGreatDoor
