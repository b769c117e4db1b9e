import Derived.Test.YtchokmkfobandaaGreatDoorM11
import Derived.Test.YtchokmkfobandaaGreatDoorM12
import Derived.Test.YtchokmkfobandaaGreatDoorM13
import Derived.Test.YtchokmkfobandaaGreatDoorRows
import Derived.Lay
import Derived.LaidMore
import Derived.Lib.LaidTab
set_option linter.unusedVariables false
set_option linter.unusedSimpArgs false
set_option maxRecDepth 100000
set_option maxHeartbeats 8000000
namespace Wv.Fm
open Wv.Vi Wv.Ru Wv.Lz
def csh (r:Nat):Nat:=(r/2) ^^^ (if r % 2=1 then 3988292384 else 0)
def cshN:Nat->Nat->Nat
 |0,r=>r
 |k+1,r=>csh (cshN k r)
def crg (r:Nat):List UInt8->Nat
 |[]=>r
 |b::l=>crg (cshN 8 (r ^^^ b.toNat)) l
def crcN (l:List UInt8):Nat:=4294967295-crg 4294967295 l
theorem ZgW {r:Nat} (h:r<2 ^ 32):csh r<2 ^ 32:=by
 unfold csh;refine Nat.xor_lt_two_pow (by omega) ?_;split
 ·decide
 ·decide
theorem Zid {r:Nat} (h:r<2 ^ 32) (k:Nat):cshN k r<2 ^ 32:=by
 induction k with
 |zero=>exact h
 |succ k ih=>exact ZgW ih
theorem Zfb (l:List UInt8) (b:UInt8):∀r,crg r (l++[b])=cshN 8 (crg r l ^^^ b.toNat):=by
 induction l with
 |nil=>intro r;rfl
 |cons a l ih=>intro r;exact ih _
theorem Z6e (l:List UInt8):crcN l<4294967296:=by unfold crcN;omega
def le4 (n:Nat):List UInt8:=[UInt8.ofNat n,UInt8.ofNat (n/256),UInt8.ofNat (n/65536),UInt8.ofNat (n/16777216)]
def QC (s:List UInt8):List UInt8:=s++le4 (crcN s)
def Z3U (s:List UInt8):Nat:=(s.getD (s.length-4) 0).toNat+256*(s.getD (s.length-3) 0).toNat+65536*(s.getD (s.length-2) 0).toNat+16777216*(s.getD (s.length-1) 0).toNat
def QQ (s:List UInt8):Bool:=decide (4<=s.length)&&decide (crcN (s.take (s.length-4))=Z3U s)
theorem Zie {n:Nat} (h:n<4294967296):(UInt8.ofNat n).toNat+256*(UInt8.ofNat (n/256)).toNat+65536*(UInt8.ofNat (n/65536)).toNat+16777216*(UInt8.ofNat (n/16777216)).toNat=n:=by
 simp only[UInt8.toNat_ofNat'];omega
theorem Z6f (s:List UInt8):QQ (QC s)=true:=by
 have hl:(QC s).length=s.length+4:=(by simp[QC,le4]);unfold QQ;rw[Va0,Vaq,Vaq,hl];refine⟨by omega,?_⟩
 have h1:(QC s).take (s.length+4-4)=s:=by
  rw[show s.length+4-4=s.length by omega];exact Vcx
 rw[h1];unfold Z3U;rw[hl]
 have g:∀i,i<4->(QC s).getD (s.length+i) 0=(le4 (crcN s)).getD i 0:=λi hi=>by
  unfold QC;simp only[List.getD];rw[Vbd (by omega),Nat.add_sub_cancel_left]
 rw[show s.length+4-4=s.length+0 by omega,show s.length+4-3=s.length+1 by omega,show s.length+4-2=s.length+2 by omega,show s.length+4-1=s.length+3 by omega,g 0 (by omega),g 1 (by omega),g 2 (by omega),g 3 (by omega)];exact(Zie (Z6e s)).symm
theorem ZbL (s:List UInt8):(QC s).length=s.length+4:=by simp[QC,le4]
def XZ (k:Nat) (c t:List UInt8):Nat:=if t.length<c.length then k+16 else k
def ZU (c t:List UInt8):List UInt8:=if t.length<c.length then t else c
def Z2z (k:Nat) (c t:List UInt8):List UInt8:=QC (165::UInt8.ofNat (XZ k c t)::(num (ZU c t).length++ZU c t))
def ZA (k:Nat) (c:List UInt8):Option (List UInt8):=(lzE c).map (Z2z k c)
def conT (b:Nat) (body:List UInt8):Option (List UInt8):=if 16<=b then(if(lzD body 4096).2=0 then some (lzD body 4096).1 else none) else some body
def YD (data:List UInt8):Option (Nat×List UInt8×Nat):=match data with
 |a::b::r=>if a≠165\/32<=b.toNat then none else match ZG r 4096 with
  |none=>none
  |some (body,r2)=>if r2.length<4 then none else if QQ (data.take (data.length-(r2.length-4)))=false then none else
   match conT b.toNat body with
   |none=>none
   |some c=>if ZA (b.toNat % 16) c=some (data.take (data.length-(r2.length-4))) then some (b.toNat % 16,c,data.length-(r2.length-4)) else none
 |_=>none
theorem Z4X (k:Nat) (c t:List UInt8):(Z2z k c t).length=(num (ZU c t).length).length+(ZU c t).length+6:=by
 unfold Z2z;rw[ZbL];simp only[Vaz,Vab]
theorem Z6g {k:Nat} (hk:k<16) {c w:List UInt8} (h:ZA k c=some w) (rest:List UInt8):YD (w++rest)=some (k,c,w.length):=by
 have h0:=h;unfold ZA at h;cases ht:lzE c with
 |none=>rw[ht] at h;cases h
 |some t=>
  rw[ht] at h;injection h with h;have hc:=Z1j ht;have hb:(ZU c t).length<=4096:=(by unfold ZU;split<;>omega)
  have hw:w=165::UInt8.ofNat (XZ k c t)::(num (ZU c t).length++ZU c t++le4 (crcN (165::UInt8.ofNat (XZ k c t)::(num (ZU c t).length++ZU c t)))):=by
   rw[<-h];unfold Z2z QC;simp
  obtain⟨q,hq⟩:∃q,le4 (crcN (165::UInt8.ofNat (XZ k c t)::(num (ZU c t).length++ZU c t)))=q:=⟨_,rfl⟩;have mn:q.length=4:=(by rw[<-hq];rfl);rw[hq] at hw
  have dd:(UInt8.ofNat (XZ k c t)).toNat=XZ k c t:=by
   rw[UInt8.toNat_ofNat'];unfold XZ;split<;>omega
  have hd:w++rest=165::UInt8.ofNat (XZ k c t)::(num (ZU c t).length++(ZU c t++(q++rest))):=(by rw[hw];simp);have zJ:w.length=2+(num (ZU c t).length).length+(ZU c t).length+4:=(by rw[hw];simp[mn];omega);have fX:QQ w=true:=(by rw[<-h];exact Z6f _)
  have jP:conT (XZ k c t) (ZU c t)=some c:=by
   unfold conT XZ ZU;by_cases hl:t.length<c.length
   ·rw[Vaf hl,Vaf hl,Vaf (by omega),Zld ht 4096 (by omega),Vaf rfl]
   ·rw[Vad hl,Vad hl,Vad (by omega)]
  have G6:XZ k c t % 16=k:=(by unfold XZ;split<;>omega);have zK:(w++rest).length-((q++rest).length-4)=w.length:=(by rw[Vab,Vab,mn];omega);rw[hd];unfold YD;simp only;rw[Vad (by rw[dd];unfold XZ;rintro(h1|h1);exact h1 rfl;split at h1<;>omega),Yo _ _ hb (by omega)];simp only;rw[<-hd,zK,Vcx,Vad (by rw[Vab,mn];omega),Vad (by simp[fX]),dd,jP];simp only;rw[G6,Vaf h0]
theorem Z4Y {data c:List UInt8} {k n:Nat} (h:YD data=some (k,c,n)):ZA k c=some (data.take n)/\k<16/\n<=data.length:=by
 unfold YD at h;split at h
 ·split at h
  ·cases h
  ·split at h
   ·cases h
   ·split at h
    ·cases h
    ·split at h
     ·cases h
     ·split at h
      ·cases h
      ·split at h
       ·rename_i he;injection h with h;injection h with h1 h;injection h with h2 h3;rw[h2,h3,h1] at he;exact⟨he,by omega,by omega⟩
       ·cases h
 ·cases h
theorem Z2O {k:Nat} {c:List UInt8} :(ZA k c).isSome=decide (c.length<=4096):=by
 unfold ZA lzE;split
 ·rename_i h;rw[Vah (by omega)];rfl
 ·rename_i h;rw[Vam (by omega)];rfl
end Wv.Fm
namespace Wv.Sn
open Wv.Vi Wv.Ru Wv.Bc Wv.Fm Wv.Lz
def lowB (v:List UInt8):List Bool:=v.map (λc=>decide (cd c % 2=1))
def higB (v:List UInt8):List Bool:=v.map (λc=>decide (2<=cd c))
/-! ## Kinds, parts of values -/
def tyB (s:Int×Int):Bool:=(decide (s.1=0)&&decide (1<=s.2)&&decide (s.2<=128))||((decide (s.1=1)||decide (s.1=2)||decide (s.1=3))&&decide (s.2=0))
section
variable (dv:List UInt8->Bool)
def kvB (k w:Int) (v:List UInt8):Bool:=if k=0 then vld w v else if k=1 then dv v else if k=2 then decide (v.length<=64) else decide (v=[])
def vaB (s:Int×Int) (v:List UInt8):Bool:=tyB s&&kvB dv s.1 s.2 v
end
def wrV (s:Int×Int) (v:List UInt8):List UInt8:=if s.1=0 then Bit.pack (lowB v)++Bit.pack (higB v) else if s.1=3 then[] else num v.length++v
theorem Z7H {s:Int×Int} (h:tyB s=true) (h0:s.1=0):1<=s.2/\s.2<=128:=by
 unfold tyB at h;rw[h0] at h;simpa using h
theorem Z3V {s:Int×Int} (h:tyB s=true):s.1=0\/((s.1=1\/s.1=2\/s.1=3)/\s.2=0):=by
 unfold tyB at h;simp only[Bool.or_eq_true,Va0,Vaq] at h;omega
section
variable {dv:List UInt8->Bool}
end
theorem Z7I {k:Nat} {c w:List UInt8} (h:ZA k c=some w):w≠[]:=by
 unfold ZA at h;cases ht:lzE c with
 |none=>rw[ht] at h;cases h
 |some t=>
  rw[ht] at h;injection h with h;rw[<-h];unfold Z2z QC;simp
end Wv.Sn
namespace Wv.Lz
open Wv.Mo
def Z0g (s:List UInt8) (i most p b:Nat) (o:List (Nat×Nat)):Option (Nat×List (Nat×Nat)):=if 4096<i-p\/most<=b then none
 else if s.getD (p+b) 0≠s.getD (i+b) 0 then some (b,o) else if b<com s p i most then some (com s p i most,o++[(com s p i most,i-p)]) else some (b,o)
theorem Zfc (s:List UInt8) (i most p b:Nat) (o:List (Nat×Nat)):btr s i most (p+1) b o=match Z0g s i most p b o with
  |none=>o
  |some x=>btr s i most p x.1 x.2:=by
 unfold Z0g;rw[btr];split
 ·rfl
 ·split
  ·rfl
  ·split<;>rfl
theorem ZbM {s:List UInt8} {i j n k:Nat} :comA s i j n (k+1)=if s.getD (i+n) 0=s.getD (j+n) 0 then comA s i j (n+1) k else n:=rfl
theorem ZbN {s:List UInt8} {i j n:Nat} :comA s i j n 0=n:=rfl
theorem ZbO {hi lo d:Nat} (h:lo<hi):down hi lo d=⟨hi,d,0⟩::down (hi-1) lo d:=by
 unfold down;obtain⟨k,hk⟩:∃k,hi-lo=k+1:=⟨hi-lo-1,by omega⟩;rw[hk,List.range_succ_eq_map,Vci,Vb7,show hi-1-lo=k by omega];congr 1;apply List.map_congr_left;intro t _;show(⟨hi-(t+1),d,0⟩:Pc)=⟨hi-1-t,d,0⟩;congr 1;omega
theorem Zfd {hi lo d:Nat} (h:hi<=lo):down hi lo d=[]:=by
 unfold down;rw[show hi-lo=0 by omega];rfl
def Z2P (l:List (Nat×Nat)) (k:Nat):Nat:=if 0<k then(l.getD (k-1) (0,0)).1 else 1
theorem Z7J {l:List (Nat×Nat)} {k:Nat} (hk:k<l.length):(l.take (k+1)).reverse=l.getD k (0,0)::(l.take k).reverse:=by
 rw[Vac hk,Vc1];simp[List.getD,hk]
theorem Z8T {l:List (Nat×Nat)} {k:Nat} (hk:k<l.length):Z09 ((l.take (k+1)).reverse)=down (l.getD k (0,0)).1 (Z2P l k) (l.getD k (0,0)).2++Z09 ((l.take k).reverse):=by
 rw[Z7J hk];cases k with
 |zero=>
  show Z09 (l.getD 0 (0,0)::([]:List (Nat×Nat)).reverse)=_++Z09 ([]:List (Nat×Nat)).reverse;show down _ 1 _=down _ 1 _++[];rw[Va3]
 |succ k=>
  rw[Z7J (show k<l.length by omega)];show down (l.getD (k+1) (0,0)).1 (l.getD k (0,0)).1 (l.getD (k+1) (0,0)).2++Z09 (l.getD k (0,0)::(l.take k).reverse)=_;congr 1
theorem Z6h {s:List UInt8} {f i:Nat} (h:i<s.length):follow s (f+1) i=((QP s).getD i st0).first::follow s f (i+((QP s).getD i st0).first.len):=by
 show(if i<s.length then _ else _)=_;rw[Vaf h]
theorem Z8U {s:List UInt8} {f i:Nat} (h:s.length<=i):follow s f i=[]:=by
 cases f with
 |zero=>rfl
 |succ f=>
  show(if i<s.length then _ else _)=_;rw[Vad (by omega)]
theorem Z0E {n:Nat} (h:n<=4096):blen n<=13:=by
 unfold blen;split
 ·omega
 ·rename_i h0;have:=(Nat.log2_lt h0).2 (show n<2 ^ 13 by omega);omega
theorem Z1l {p:Pc} (h1:p.dist<=4096) (h2:p.len<=4096):price p<=38:=by
 unfold price;have:=Z0E h1;have:=Z0E h2;split<;>omega
theorem PcOk.price {s:List UInt8} {i:Nat} {p:Pc} (h:PcOk s i p):price p<=38:=by
 rcases h with ⟨h1,h2,_⟩|⟨_,_,h3,_,h5,_⟩
 ·exact Z1l (by omega) (by omega)
 ·exact Z1l h3 (by omega)
theorem ZbP {tb:List St} {c:Option St} {p:Pc} {M:Nat} (lQ:∀x∈tb,x.cost<=M/\x.pcs<=M) (hc:∀x,c=some x->x.cost<=M+38/\x.pcs<=M+38) (hp:price p<=38):∀x,tryP tb c p=some x->x.cost<=M+38/\x.pcs<=M+38:=by
 have hg:(tb.getD (p.len-1) st0).cost<=M/\(tb.getD (p.len-1) st0).pcs<=M:=by
  rw[Vbn];cases h:tb[p.len-1]? with
  |none=>exact⟨Var _,Var _⟩
  |some y=>exact lQ y (List.mem_of_getElem? h)
 have hs:(stOf tb p).cost<=M+38/\(stOf tb p).pcs<=M+38:=⟨by show _+_<=_;omega,by show _+1<=_;omega⟩;intro x hx;unfold tryP at hx;cases c with
 |none=>injection hx with hx;rw[<-hx];exact hs
 |some c=>
  simp only at hx;split at hx
  ·injection hx with hx;rw[<-hx];exact hs
  ·injection hx with hx;rw[<-hx];exact hc c rfl
theorem Zif {tb:List St} {M:Nat} (lQ:∀x∈tb,x.cost<=M/\x.pcs<=M):∀(l:List Pc) (c:Option St),(∀x,c=some x->x.cost<=M+38/\x.pcs<=M+38)->(∀p∈l,price p<=38)->∀x,l.foldl (tryP tb) c=some x->x.cost<=M+38/\x.pcs<=M+38:=by
 intro l;induction l with
 |nil=>intro c hc _ x hx;exact hc x hx
 |cons p r ih=>intro c hc hp x hx;exact ih _ (ZbP lQ hc (hp p Vap)) (λq hq=>hp q (Vat _ hq)) x hx
theorem ZbQ (s:List UInt8):∀k,k<=s.length->∀x∈tbl s k,x.cost<=38*k/\x.pcs<=38*k:=by
 intro k;induction k with
 |zero=>
  intro _ x hx;rw[Vax.1 hx];exact⟨UZz,UZz⟩
 |succ k ih=>
  intro hk x hx;have ih:=ih (by omega);rcases Va9.1 hx with hx|hx
  ·have hi:s.length-1-k<s.length:=by omega
   have cY:∃y,(Z2v s (s.length-1-k)).foldl (tryP (tbl s k)) none=some y:=by
    unfold Z2v;rw[Vbr];exact Z0a _ _ _
   obtain⟨y,hy⟩:=cY;have:=Zif ih (Z2v s (s.length-1-k)) none (λx h=>by cases h) (λp hp=>(Z7m hi p hp).price) y hy;have e:x=y:=(by rw[hx];unfold Z0Y;rw[hy];rfl);rw[e];omega
  ·have:=ih x hx;omega
end Wv.Lz
namespace Wv.Dc
def Z6 (s:List UInt8):Bool:=(canN s).isSome
end Wv.Dc
namespace Wv.Sn
open Go Go.RowKit Wv Wv.Bc Wv.Dc Wv.Vi
theorem Zfe {z:Int} (h: -400<=z) (h2:z<=400):(decZ z).length<=4:=by
 unfold decZ;split
 ·have:=Qs (n:=(-z).toNat) (k:=3) (by omega) (by omega);rw[Vaz];omega
 ·have:=Qs (n:=z.toNat) (k:=3) (by omega) (by omega);omega
theorem ZbR (n:Num):(Xb n).1.length<=30:=by
 unfold Xb;split
 ·decide
 ·split
  ·decide
  ·rename_i h1 h2;have h3:n.dg.length<=17/\-400<=XX n/\XX n<=400:=(by omega);have h4:=Zfe h3.2.1 h3.2.2;simp only[Vab,Vaz,Vau];split<;>split<;>simp<;>omega
theorem Z8V {s:List UInt8} (h:Z6 s=true):s.length<=30:=by
 unfold Z6 at h;cases hc:canN s with
 |none=>rw[hc] at h;cases h
 |some n=>rw[(ZeF.1 hc).2];exact ZbR n
theorem ZbS {s:Int×Int} {v:List UInt8} (h:vaB Z6 s v=true):(wrV s v).length<=100/\v.length<=128:=by
 unfold vaB at h;rw[Va0] at h;obtain⟨ht,hk⟩:=h;unfold kvB at hk;unfold wrV;have h9:∀n,(num n).length<=9:=λn=>(by rw[Z8];have:=Y9 n;omega);rcases Z3V ht with h0|⟨h1,h2⟩
 ·rw[Vaf h0] at hk⊢;have hv:isV v=true:=(by unfold vld at hk;rw[Va0] at hk;exact hk.1);have hl:=(Zv.1 hv).2.2;rw[Vab,Bit.pack_length,Bit.pack_length];unfold lowB higB;rw[Vag,Vag];omega
 ·have h0:¬s.1=0:=(by omega);rw[Vad h0] at hk⊢;have:=h9 v.length;by_cases k1:s.1=1
  ·rw[Vaf k1] at hk;rw[Vad (by omega),Vab];have:=Z8V hk;omega
  ·rw[Vad k1] at hk;by_cases k2:s.1=2
   ·rw[Vaf k2] at hk;rw[Vad (by omega),Vab];have:=of_decide_eq_true hk;omega
   ·rw[Vad k2] at hk;have:=of_decide_eq_true hk;rw[Vaf (by omega),this];simp
end Wv.Sn
namespace Go.Proofs.YtchokmkfobandaaGreatDoor
open Go.RowKit Go.Proofs Wv Wv.Vi Wv.Rc Wv.Mo Wv.Ru
theorem Zff {s:List UInt8} {n z:Nat} {most:Int} (h:rd s=some (n,z)) (hm:¬most<(n:Int)):numR (bs s) 0 most=(n,bs (s.drop z),0):=by
 unfold numR;rw[Vaf rfl,Zd,h];simp only;rw[Vad hm]
theorem ZbT {s:List UInt8} {n z:Nat} {most:Int} (h:rd s=some (n,z)) (hm:most<(n:Int)):numR (bs s) 0 most=(0,bs s,2):=by
 unfold numR;rw[Vaf rfl,Zd,h];simp only;rw[Vaf hm]
theorem Z8W {s:List UInt8} {most:Int} (h:rd s=none):numR (bs s) 0 most=(0,bs s,12):=by
 unfold numR;rw[Vaf rfl,Zd,h]
theorem Z2Q {s:ByteArray} {e:Nat} (he:e≠0) (n:Int):ZB s e n=(bs [],s,e):=by unfold ZB;rw[Vad he]
theorem Z0F {s t:List UInt8} {n most:Nat} (h:rnum s most=some (n,t)):numR (bs s) 0 (most:Int)=(n,bs t,0)/\n<=most/\t.length<=s.length:=by
 unfold rnum at h;match hr:rd s with
 |none=>rw[hr] at h;cases h
 |some (m,z)=>
  rw[hr] at h;simp only at h;by_cases hm:most<m
  ·rw[Vaf hm] at h;cases h
  ·rw[Vad hm] at h;injection h with h;injection h with h1 h2;subst h1;subst h2;exact⟨Zff hr (by omega),by omega,by rw[Va2];omega⟩
theorem Z4Z {s:List UInt8} {most:Nat} (h:rnum s most=none):∃e,e≠0/\numR (bs s) 0 (most:Int)=(0,bs s,e):=by
 unfold rnum at h;match hr:rd s with
 |none=>exact⟨12,by decide,Z8W hr⟩
 |some (m,z)=>
  rw[hr] at h;simp only at h;by_cases hm:most<m
  ·exact⟨2,by decide,ZbT hr (by omega)⟩
  ·rw[Vad hm] at h;cases h
theorem Z6i {s t a:List UInt8} {most:Nat} (h:ZG s most=some (a,t)):ZT (bs s) 0 (most:Int)=(bs a,bs t,0)/\a.length<=s.length/\t.length<=s.length/\a.length<=most:=by
 unfold ZG at h;match hr:rnum s most with
 |none=>rw[hr] at h;cases h
 |some (n,u)=>
  rw[hr] at h;simp only at h;obtain⟨h1,h2,h3⟩:=Z0F hr;by_cases hm:u.length<n
  ·rw[Vaf hm] at h;cases h
  ·rw[Vad hm] at h;injection h with h;injection h with h4 h5;subst h4;subst h5
   have ht:ZB (bs u) 0 (n:Int)=(bs (u.take n),bs (u.drop n),0):=by
    unfold ZB;rw[Vaf rfl,Vad (by omega),Vad (by rw[Z0];omega),Vav,Zd]
   refine⟨?_,by rw[Vau];omega,by rw[Va2];omega,by rw[Vau];omega⟩;unfold ZT;rw[h1];simp only;rw[ht];simp only[if_true]
theorem Z8X {s:List UInt8} {most:Nat} (h:ZG s most=none):∃e,e≠0/\ZT (bs s) 0 (most:Int)=(bs [],bs s,e):=by
 unfold ZG at h;match hr:rnum s most with
 |none=>
  obtain⟨e,h1,h2⟩:=Z4Z hr;refine⟨e,h1,?_⟩;unfold ZT;rw[h2];simp only;rw[Z2Q h1];simp only;rw[Vad h1]
 |some (n,u)=>
  rw[hr] at h;simp only at h;obtain⟨h1,h2,h3⟩:=Z0F hr;by_cases hm:u.length<n
  ·have ht:ZB (bs u) 0 (n:Int)=(bs [],bs u,12):=by
    unfold ZB;rw[Vaf rfl,Vad (by omega),Vaf (by rw[Z0];omega)]
   refine⟨12,by decide,?_⟩;unfold ZT;rw[h1];simp only;rw[ht];simp only;rw[Vad (by decide)]
  ·rw[Vad hm] at h;cases h
theorem Z1S {s:List UInt8} {n:Nat} (h:n<=s.length):ZB (bs s) 0 (n:Int)=(bs (s.take n),bs (s.drop n),0):=by
 unfold ZB;rw[Vaf rfl,Vad (by omega),Vad (by rw[Z0];omega),Vav,Zd]
theorem ZbU {s:List UInt8} {n:Nat} (h:s.length<n):ZB (bs s) 0 (n:Int)=(bs [],bs s,12):=by
 unfold ZB;rw[Vaf rfl,Vad (by omega),Vaf (by rw[Z0];omega)]
theorem ZH {w w1 w2:World} {b:Nat} (h:Below w.heap.size w w1) (hb:w.heap.size<=b) (k:Fr (only b) w1 w2):Below w.heap.size w w2:=
 h.trans (k.toBelow' h.size (λj hj e=>by have:j=b:=e;omega))
end Go.Proofs.YtchokmkfobandaaGreatDoor
namespace Go.Proofs.YtchokmkfobandaaGreatDoor
open Go.RowKit Go.Proofs Wv Wv.Vi Wv.Bc Wv.Sn
def knC (b1 b2 b3:Nat):Array Value:= #[.int .i64 1,.int .i64 128,.func (.func 75) #[] #[],.func (.func 94) #[] #[],.func (.func 96) #[] #[],.func (.func 97) #[] #[],.string ⟨#[98]⟩,
 .int .i64 0,.int .i64 0,.func (.func 98) #[] #[],.func (.func 150) #[] #[.pointer (some ⟨b1,0,none⟩)],.func (.func 101) #[] #[],.func (.func 103) #[] #[],.string ⟨#[114]⟩,
 .int .i64 0,.int .i64 0,.func (.func 104) #[] #[],.func (.func 150) #[] #[.pointer (some ⟨b2,0,none⟩)],.func (.func 105) #[] #[],.func (.func 107) #[] #[],.string ⟨#[115]⟩,
 .int .i64 0,.int .i64 0,.func (.func 108) #[] #[],.func (.func 150) #[] #[.pointer (some ⟨b3,0,none⟩)],.func (.func 109) #[] #[],.func (.func 110) #[] #[],.string ⟨#[]⟩]
theorem Zfg (s:ByteArray) (w:World):
  Calls Tryz.prog 100 #[.string s] w λx w'=>x=.returned (.func (.func 150) #[] #[.pointer (some ⟨w.heap.size,0,none⟩)])/\Bk w' w.heap.size 9 #[.string s]/\Below w.heap.size w w':=by
 go_enter Tryz.func100,Tryz.ntmps100;go_wp2;go_returns;exact⟨rfl,Bk.new _ _ _,(Vae _ _).alloc UZz _⟩
theorem Z1D (w:World):
  Calls Tryz.prog 62 #[] w λx w'=>∃R b1 b2 b3,x=.returned (.slice (some ⟨R,0,none⟩) 4 4)/\Bk w' R 84 (knC b1 b2 b3)/\Bk w' b1 9 #[.string ⟨#[48]⟩]/\Bk w' b2 9 #[.string ⟨#[]⟩]/\Bk w' b3 9 #[.string ⟨#[]⟩]/\Below w.heap.size w w':=by
 have Hs:=h_ (λs W=>Zfg s W);go_enter Tryz.func62,Tryz.ntmps62;go_wp2_with fail;refine(Hs.o _ _).mono ?_;rintro x w1 ⟨rfl,k1,a7⟩;have K1:=h_ k1;clear k1;go_wp2_with fail;refine(Hs.o _ _).mono ?_;rintro x w2 ⟨rfl,k2,a8⟩;have G7:=h_ (K1.out.below a8 K1.out.lt);have kV:=a7.trans (a8.mono a7.size);have K2:=h_ k2;clear k2 a8 K1 a7;go_wp2_with fail;refine(Hs.o _ _).mono ?_;rintro x w3 ⟨rfl,k3,af⟩;have K1:=h_ ((G7.out.below af G7.out.lt).alloc (.cells (knC w.heap.size w1.heap.size w2.heap.size) 84));have Ri:=h_ ((K2.out.below af K2.out.lt).alloc (.cells (knC w.heap.size w1.heap.size w2.heap.size) 84));have K3:=h_ (k3.alloc (.cells (knC w.heap.size w1.heap.size w2.heap.size) 84));have hb:=kV.trans (af.mono kV.size);have HB:=h_ (hb.alloc hb.size (.cells (knC w.heap.size w1.heap.size w2.heap.size) 84));clear hb kV af k3 K2 G7;go_wp2;go_returns;exact⟨_,_,_,_,rfl,Bk.new _ _ _,K1.out,Ri.out,K3.out,HB.o⟩
def kcOf (n b:Nat):Array Value:=match n with
 |0=> #[.int .i64 1,.int .i64 128,.func (.func 75) #[] #[],.func (.func 94) #[] #[],.func (.func 96) #[] #[],.func (.func 97) #[] #[],.string ⟨#[98]⟩]
 |1=> #[.int .i64 0,.int .i64 0,.func (.func 98) #[] #[],.func (.func 150) #[] #[.pointer (some ⟨b,0,none⟩)],.func (.func 101) #[] #[],.func (.func 103) #[] #[],.string ⟨#[114]⟩]
 |2=> #[.int .i64 0,.int .i64 0,.func (.func 104) #[] #[],.func (.func 150) #[] #[.pointer (some ⟨b,0,none⟩)],.func (.func 105) #[] #[],.func (.func 107) #[] #[],.string ⟨#[115]⟩]
 |_=> #[.int .i64 0,.int .i64 0,.func (.func 108) #[] #[],.func (.func 150) #[] #[.pointer (some ⟨b,0,none⟩)],.func (.func 109) #[] #[],.func (.func 110) #[] #[],.string ⟨#[]⟩]
def iniB (n:Nat):ByteArray:=if n=1 then⟨#[48]⟩ else⟨#[]⟩
def zkC:Array Value:= #[.int .i64 0,.int .i64 0,.nilFunc,.nilFunc,.nilFunc,.nilFunc,.string ⟨#[]⟩]
def KdR (w':World) (n:Int) (kc:Array Value):Prop:=((n<0\/4<=n)/\kc=zkC)\/(0<=n/\n<4/\∃b,kc=kcOf n.toNat b/\Bk w' b 9 #[.string (iniB n.toNat)])
theorem ZgX {n wd:Int} (h:n<0\/4<=n):tyB (n,wd)=false:=by
 unfold tyB;simp only;rw[Vah (show ¬n=0 by omega),Vah (show ¬n=1 by omega),Vah (show ¬n=2 by omega),Vah (show ¬n=3 by omega)];rfl
theorem Zkm {w W:World} (hb:Below (w.alloc (.cells zkC 84)).heap.size (w.alloc (.cells zkC 84)) W):
  (W.cell? ⟨w.heap.size,0,none⟩=some (.int .i64 0)/\W.cell? ⟨w.heap.size,1,none⟩=some (.int .i64 0)/\W.cell? ⟨w.heap.size,2,none⟩=some .nilFunc/\W.cell? ⟨w.heap.size,3,none⟩=some .nilFunc/\W.cell? ⟨w.heap.size,4,none⟩=some .nilFunc/\W.cell? ⟨w.heap.size,5,none⟩=some .nilFunc/\W.cell? ⟨w.heap.size,6,none⟩=some (.string ⟨#[]⟩))/\
  (W.frozen? ⟨w.heap.size,0,none⟩=false/\W.frozen? ⟨w.heap.size,1,none⟩=false/\W.frozen? ⟨w.heap.size,2,none⟩=false/\W.frozen? ⟨w.heap.size,3,none⟩=false/\W.frozen? ⟨w.heap.size,4,none⟩=false/\W.frozen? ⟨w.heap.size,5,none⟩=false/\W.frozen? ⟨w.heap.size,6,none⟩=false)/\Bk W w.heap.size 84 zkC/\Below w.heap.size w W:=by
 have h0:=(Bk.new w 84 zkC).below hb (by simp);have hB:=((Vae w.heap.size w).alloc UZz (.cells zkC 84)).trans (hb.mono (by simp));exact⟨⟨h0.cell 0,h0.cell 1,h0.cell 2,h0.cell 3,h0.cell 4,h0.cell 5,h0.cell 6⟩,⟨h0.frozen 0,h0.frozen 1,h0.frozen 2,h0.frozen 3,h0.frozen 4,h0.frozen 5,h0.frozen 6⟩,h0,hB⟩
theorem Bk.apart2 {w W:World} {R:Nat} {a b c:Nat} (h:Bk W R 84 (knC a b c)) (h2:Bk W w.heap.size 84 zkC):R≠w.heap.size:=by
 rintro rfl;unfold Bk at h h2;rw[h] at h2;injection h2 with h2;injection h2 with h3 h4;have:=congrArg Array.size h3;simp[knC,zkC] at this
theorem Bk.seven {w:World} {g N:Nat} {t:TypeId} {cs:Array Value} (h:Bk w g t cs) (hn:g≠N) (a0 a1 a2 a3 a4 a5 a6:Value):Bk (((((((w.setCell ⟨N,0,none⟩ a0).setCell ⟨N,1,none⟩ a1).setCell ⟨N,2,none⟩ a2).setCell ⟨N,3,none⟩ a3).setCell ⟨N,4,none⟩ a4).setCell ⟨N,5,none⟩ a5).setCell ⟨N,6,none⟩ a6) g t cs:=
 ((((((h.off (p:=⟨N,0,none⟩) hn _).off (p:=⟨N,1,none⟩) hn _).off (p:=⟨N,2,none⟩) hn _).off (p:=⟨N,3,none⟩) hn _).off (p:=⟨N,4,none⟩) hn _).off (p:=⟨N,5,none⟩) hn _).off (p:=⟨N,6,none⟩) hn _
theorem ZbV (n wd:Int) (w:World):
  Calls Tryz.prog 43 #[.int .i64 n,.int .i64 wd] w λx w'=>∃kc,x=.returned (.tuple #[.agg kc,.bool (tyB (n,wd))])/\KdR w' n kc/\Below w.heap.size w w':=by
 have Hk:=h_ (λW=>Z1D W);have Hr:=h_ (λW hb=>Zkm (w:=w) (W:=W) hb);unfold zkC at Hr;by_cases bx:n<0\/4<=n
 ·have hty:=ZgX (wd:=wd) bx;have hR:Hid (∀w',Below w.heap.size w w'->KdR w' n zkC):=h_ (λw' _=>Or.inl ⟨bx,rfl⟩);rw[hty];unfold zkC at hR;have hc:n<0\/(¬n<0/\4<=n):=(by omega);rcases hc with hc|⟨hc,dN⟩
  all_goals
   clear bx hty;go_enter Tryz.func43,Tryz.ntmps43;go_wp2_with fail;refine(Hk.o _).mono ?_;rintro x w1 ⟨R,b1,b2,b3,rfl,dS,bk,cK,eN,a7⟩;obtain⟨⟨c0,c1,c2,c3,c4,c5,c6⟩,⟨f0,f1,f2,f3,f4,f5,f6⟩,hz,hB⟩:=Hr.o _ a7;have hF:=((((((hz.put 0 (.int .i64 0)).put 1 (.int .i64 0)).put 2 .nilFunc).put 3 .nilFunc).put 4 .nilFunc).put 5 .nilFunc).put 6 (.string ⟨#[]⟩);have z0:=hF.cell 0;have z1:=hF.cell 1;have z2:=hF.cell 2;have z3:=hF.cell 3;have z4:=hF.cell 4;have z5:=hF.cell 5;have z6:=hF.cell 6;unfold zkC at z0 z1 z2 z3 z4 z5 z6;simp at z0 z1 z2 z3 z4 z5 z6;have HB:=h_ ((((((((hB.setCell (p:=⟨w.heap.size,0,none⟩) UZz (.int .i64 0)).setCell (p:=⟨w.heap.size,1,none⟩) UZz (.int .i64 0)).setCell (p:=⟨w.heap.size,2,none⟩) UZz .nilFunc).setCell (p:=⟨w.heap.size,3,none⟩) UZz .nilFunc).setCell (p:=⟨w.heap.size,4,none⟩) UZz .nilFunc).setCell (p:=⟨w.heap.size,5,none⟩) UZz .nilFunc).setCell (p:=⟨w.heap.size,6,none⟩) UZz (.string ⟨#[]⟩)));clear hF hz hB a7 dS bk cK eN Hr Hk;go_wp2_with ((with_reducible show bodyPost _ _ _ _ _ _);refine bodyPost_ret (v:=.tuple #[.agg #[.int .i64 0,.int .i64 0,.nilFunc,.nilFunc,.nilFunc,.nilFunc,.string ⟨#[]⟩],.bool false]) (by simp[results,Tryz.results43,go_sem,z0,z1,z2,z3,z4,z5,z6];try rfl) rfl ?_;exact⟨_,rfl,hR.o _ HB.o,HB.o⟩)
 ·have bf:n=0\/n=1\/n=2\/n=3:=(by omega);rcases bf with rfl|rfl|rfl|rfl
  ·clear bx;go_enter Tryz.func43,Tryz.ntmps43;go_wp2_with fail;refine(Hk.o _).mono ?_;rintro x w1 ⟨R,b1,b2,b3,rfl,dS,bk,cK,eN,a7⟩;obtain⟨⟨c0,c1,c2,c3,c4,c5,c6⟩,⟨f0,f1,f2,f3,f4,f5,f6⟩,hz,hB⟩:=Hr.o _ a7;have G8:R≠w.heap.size:=Bk.apart2 dS hz;have q0:w1.cell? ⟨R,0,none⟩=some (.int .i64 1):=dS.cell 0;have q1:w1.cell? ⟨R,1,none⟩=some (.int .i64 128):=dS.cell 1;have q2:w1.cell? ⟨R,2,none⟩=some (.func (.func 75) #[] #[]):=dS.cell 2;have q3:w1.cell? ⟨R,3,none⟩=some (.func (.func 94) #[] #[]):=dS.cell 3;have q4:w1.cell? ⟨R,4,none⟩=some (.func (.func 96) #[] #[]):=dS.cell 4;have q5:w1.cell? ⟨R,5,none⟩=some (.func (.func 97) #[] #[]):=dS.cell 5;have q6:w1.cell? ⟨R,6,none⟩=some (.string ⟨#[98]⟩):=dS.cell 6;have hF:=Bk.drew (((((((hz.put 0 (.int .i64 1)).put 1 (.int .i64 128)).put 2 (.func (.func 75) #[] #[])).put 3 (.func (.func 94) #[] #[])).put 4 (.func (.func 96) #[] #[])).put 5 (.func (.func 97) #[] #[])).put 6 (.string ⟨#[98]⟩));have z0:=hF.cell 0;have z1:=hF.cell 1;have z2:=hF.cell 2;have z3:=hF.cell 3;have z4:=hF.cell 4;have z5:=hF.cell 5;have z6:=hF.cell 6;unfold zkC at z0 z1 z2 z3 z4 z5 z6;simp at z0 z1 z2 z3 z4 z5 z6;have HB:=h_ ((((((((hB.setCell (p:=⟨w.heap.size,0,none⟩) UZz (.int .i64 1)).setCell (p:=⟨w.heap.size,1,none⟩) UZz (.int .i64 128)).setCell (p:=⟨w.heap.size,2,none⟩) UZz (.func (.func 75) #[] #[])).setCell (p:=⟨w.heap.size,3,none⟩) UZz (.func (.func 94) #[] #[])).setCell (p:=⟨w.heap.size,4,none⟩) UZz (.func (.func 96) #[] #[])).setCell (p:=⟨w.heap.size,5,none⟩) UZz (.func (.func 97) #[] #[])).setCell (p:=⟨w.heap.size,6,none⟩) UZz (.string ⟨#[98]⟩)).drew);have HK:=h_ (Bk.drew (Bk.seven cK (Bk.apart cK hz (by decide)) (.int .i64 1) (.int .i64 128) (.func (.func 75) #[] #[]) (.func (.func 94) #[] #[]) (.func (.func 96) #[] #[]) (.func (.func 97) #[] #[]) (.string ⟨#[98]⟩)));have HR:Hid (∀(b:Bool),(tyB (0,wd)=b)->∀w',Below w.heap.size w w'->Bk w' b2 9 #[.string (iniB 0)]->Ending.returned (.tuple #[.agg #[(.int .i64 1),(.int .i64 128),(.func (.func 75) #[] #[]),(.func (.func 94) #[] #[]),(.func (.func 96) #[] #[]),(.func (.func 97) #[] #[]),(.string ⟨#[98]⟩)],.bool b])=Ending.returned (.tuple #[.agg #[(.int .i64 1),(.int .i64 128),(.func (.func 75) #[] #[]),(.func (.func 94) #[] #[]),(.func (.func 96) #[] #[]),(.func (.func 97) #[] #[]),(.string ⟨#[98]⟩)],.bool (tyB (0,wd))])/\KdR w' 0 #[(.int .i64 1),(.int .i64 128),(.func (.func 75) #[] #[]),(.func (.func 94) #[] #[]),(.func (.func 96) #[] #[]),(.func (.func 97) #[] #[]),(.string ⟨#[98]⟩)]/\Below w.heap.size w w'):=h_ (λb hb w' h1 h2=>⟨by rw[hb],Or.inr ⟨by decide,by decide,b2,rfl,h2⟩,h1⟩);clear hF hz hB a7 dS bk cK eN Hr Hk;by_cases jd:(1:Int)<=wd
   ·by_cases lR:wd<=128
    ·have d1:decide ((1:Int)<=wd)=true:=Vam jd;have d2:decide (wd<=128)=true:=Vam lR;have iz:Hid (tyB (0,wd)=true):=h_ (by unfold tyB;simp;omega);go_wp2;go_region
     all_goals
      go_wp2_with ((with_reducible show bodyPost _ _ _ _ _ _);refine bodyPost_ret (v:=.tuple #[.agg #[(.int .i64 1),(.int .i64 128),(.func (.func 75) #[] #[]),(.func (.func 94) #[] #[]),(.func (.func 96) #[] #[]),(.func (.func 97) #[] #[]),(.string ⟨#[98]⟩)],.bool true]) (by simp[results,Tryz.results43,go_sem,z0,z1,z2,z3,z4,z5,z6];try rfl) rfl ?_;exact⟨_,HR.o _ iz.o _ HB.o HK.o⟩)
    ·have d1:decide ((1:Int)<=wd)=true:=Vam jd;have d2:decide (wd<=128)=false:=Vah lR;have iz:Hid (tyB (0,wd)=false):=h_ (by unfold tyB;simp;omega);go_wp2;go_region
     all_goals
      go_wp2_with ((with_reducible show bodyPost _ _ _ _ _ _);refine bodyPost_ret (v:=.tuple #[.agg #[(.int .i64 1),(.int .i64 128),(.func (.func 75) #[] #[]),(.func (.func 94) #[] #[]),(.func (.func 96) #[] #[]),(.func (.func 97) #[] #[]),(.string ⟨#[98]⟩)],.bool false]) (by simp[results,Tryz.results43,go_sem,z0,z1,z2,z3,z4,z5,z6];try rfl) rfl ?_;exact⟨_,HR.o _ iz.o _ HB.o HK.o⟩)
   ·have d1:decide ((1:Int)<=wd)=false:=Vah jd;have iz:Hid (tyB (0,wd)=false):=h_ (by unfold tyB;simp;omega);go_wp2;go_region
    all_goals
     go_wp2_with ((with_reducible show bodyPost _ _ _ _ _ _);refine bodyPost_ret (v:=.tuple #[.agg #[(.int .i64 1),(.int .i64 128),(.func (.func 75) #[] #[]),(.func (.func 94) #[] #[]),(.func (.func 96) #[] #[]),(.func (.func 97) #[] #[]),(.string ⟨#[98]⟩)],.bool false]) (by simp[results,Tryz.results43,go_sem,z0,z1,z2,z3,z4,z5,z6];try rfl) rfl ?_;exact⟨_,HR.o _ iz.o _ HB.o HK.o⟩)
  ·clear bx;go_enter Tryz.func43,Tryz.ntmps43;go_wp2_with fail;refine(Hk.o _).mono ?_;rintro x w1 ⟨R,b1,b2,b3,rfl,dS,bk,cK,eN,a7⟩;obtain⟨⟨c0,c1,c2,c3,c4,c5,c6⟩,⟨f0,f1,f2,f3,f4,f5,f6⟩,hz,hB⟩:=Hr.o _ a7;have G8:R≠w.heap.size:=Bk.apart2 dS hz;have q0:w1.cell? ⟨R,7,none⟩=some (.int .i64 0):=dS.cell 7;have q1:w1.cell? ⟨R,8,none⟩=some (.int .i64 0):=dS.cell 8;have q2:w1.cell? ⟨R,9,none⟩=some (.func (.func 98) #[] #[]):=dS.cell 9;have q3:w1.cell? ⟨R,10,none⟩=some (.func (.func 150) #[] #[.pointer (some ⟨b1,0,none⟩)]):=dS.cell 10;have q4:w1.cell? ⟨R,11,none⟩=some (.func (.func 101) #[] #[]):=dS.cell 11;have q5:w1.cell? ⟨R,12,none⟩=some (.func (.func 103) #[] #[]):=dS.cell 12;have q6:w1.cell? ⟨R,13,none⟩=some (.string ⟨#[114]⟩):=dS.cell 13;have hF:=Bk.drew (((((((hz.put 0 (.int .i64 0)).put 1 (.int .i64 0)).put 2 (.func (.func 98) #[] #[])).put 3 (.func (.func 150) #[] #[.pointer (some ⟨b1,0,none⟩)])).put 4 (.func (.func 101) #[] #[])).put 5 (.func (.func 103) #[] #[])).put 6 (.string ⟨#[114]⟩));have z0:=hF.cell 0;have z1:=hF.cell 1;have z2:=hF.cell 2;have z3:=hF.cell 3;have z4:=hF.cell 4;have z5:=hF.cell 5;have z6:=hF.cell 6;unfold zkC at z0 z1 z2 z3 z4 z5 z6;simp at z0 z1 z2 z3 z4 z5 z6;have HB:=h_ ((((((((hB.setCell (p:=⟨w.heap.size,0,none⟩) UZz (.int .i64 0)).setCell (p:=⟨w.heap.size,1,none⟩) UZz (.int .i64 0)).setCell (p:=⟨w.heap.size,2,none⟩) UZz (.func (.func 98) #[] #[])).setCell (p:=⟨w.heap.size,3,none⟩) UZz (.func (.func 150) #[] #[.pointer (some ⟨b1,0,none⟩)])).setCell (p:=⟨w.heap.size,4,none⟩) UZz (.func (.func 101) #[] #[])).setCell (p:=⟨w.heap.size,5,none⟩) UZz (.func (.func 103) #[] #[])).setCell (p:=⟨w.heap.size,6,none⟩) UZz (.string ⟨#[114]⟩)).drew);have HK:=h_ (Bk.drew (Bk.seven bk (Bk.apart bk hz (by decide)) (.int .i64 0) (.int .i64 0) (.func (.func 98) #[] #[]) (.func (.func 150) #[] #[.pointer (some ⟨b1,0,none⟩)]) (.func (.func 101) #[] #[]) (.func (.func 103) #[] #[]) (.string ⟨#[114]⟩)));have HR:Hid (∀(b:Bool),(tyB (1,wd)=b)->∀w',Below w.heap.size w w'->Bk w' b1 9 #[.string (iniB 1)]->Ending.returned (.tuple #[.agg #[(.int .i64 0),(.int .i64 0),(.func (.func 98) #[] #[]),(.func (.func 150) #[] #[.pointer (some ⟨b1,0,none⟩)]),(.func (.func 101) #[] #[]),(.func (.func 103) #[] #[]),(.string ⟨#[114]⟩)],.bool b])=Ending.returned (.tuple #[.agg #[(.int .i64 0),(.int .i64 0),(.func (.func 98) #[] #[]),(.func (.func 150) #[] #[.pointer (some ⟨b1,0,none⟩)]),(.func (.func 101) #[] #[]),(.func (.func 103) #[] #[]),(.string ⟨#[114]⟩)],.bool (tyB (1,wd))])/\KdR w' 1 #[(.int .i64 0),(.int .i64 0),(.func (.func 98) #[] #[]),(.func (.func 150) #[] #[.pointer (some ⟨b1,0,none⟩)]),(.func (.func 101) #[] #[]),(.func (.func 103) #[] #[]),(.string ⟨#[114]⟩)]/\Below w.heap.size w w'):=h_ (λb hb w' h1 h2=>⟨by rw[hb],Or.inr ⟨by decide,by decide,b1,rfl,h2⟩,h1⟩);clear hF hz hB a7 dS bk cK eN Hr Hk;by_cases jd:(0:Int)<=wd
   ·by_cases lR:wd<=0
    ·have d1:decide ((0:Int)<=wd)=true:=Vam jd;have d2:decide (wd<=0)=true:=Vam lR;have iz:Hid (tyB (1,wd)=true):=h_ (by unfold tyB;simp;omega);go_wp2;go_region
     all_goals
      go_wp2_with ((with_reducible show bodyPost _ _ _ _ _ _);refine bodyPost_ret (v:=.tuple #[.agg #[(.int .i64 0),(.int .i64 0),(.func (.func 98) #[] #[]),(.func (.func 150) #[] #[.pointer (some ⟨b1,0,none⟩)]),(.func (.func 101) #[] #[]),(.func (.func 103) #[] #[]),(.string ⟨#[114]⟩)],.bool true]) (by simp[results,Tryz.results43,go_sem,z0,z1,z2,z3,z4,z5,z6];try rfl) rfl ?_;exact⟨_,HR.o _ iz.o _ HB.o HK.o⟩)
    ·have d1:decide ((0:Int)<=wd)=true:=Vam jd;have d2:decide (wd<=0)=false:=Vah lR;have iz:Hid (tyB (1,wd)=false):=h_ (by unfold tyB;simp;omega);go_wp2;go_region
     all_goals
      go_wp2_with ((with_reducible show bodyPost _ _ _ _ _ _);refine bodyPost_ret (v:=.tuple #[.agg #[(.int .i64 0),(.int .i64 0),(.func (.func 98) #[] #[]),(.func (.func 150) #[] #[.pointer (some ⟨b1,0,none⟩)]),(.func (.func 101) #[] #[]),(.func (.func 103) #[] #[]),(.string ⟨#[114]⟩)],.bool false]) (by simp[results,Tryz.results43,go_sem,z0,z1,z2,z3,z4,z5,z6];try rfl) rfl ?_;exact⟨_,HR.o _ iz.o _ HB.o HK.o⟩)
   ·have d1:decide ((0:Int)<=wd)=false:=Vah jd;have iz:Hid (tyB (1,wd)=false):=h_ (by unfold tyB;simp;omega);go_wp2;go_region
    all_goals
     go_wp2_with ((with_reducible show bodyPost _ _ _ _ _ _);refine bodyPost_ret (v:=.tuple #[.agg #[(.int .i64 0),(.int .i64 0),(.func (.func 98) #[] #[]),(.func (.func 150) #[] #[.pointer (some ⟨b1,0,none⟩)]),(.func (.func 101) #[] #[]),(.func (.func 103) #[] #[]),(.string ⟨#[114]⟩)],.bool false]) (by simp[results,Tryz.results43,go_sem,z0,z1,z2,z3,z4,z5,z6];try rfl) rfl ?_;exact⟨_,HR.o _ iz.o _ HB.o HK.o⟩)
  ·clear bx;go_enter Tryz.func43,Tryz.ntmps43;go_wp2_with fail;refine(Hk.o _).mono ?_;rintro x w1 ⟨R,b1,b2,b3,rfl,dS,bk,cK,eN,a7⟩;obtain⟨⟨c0,c1,c2,c3,c4,c5,c6⟩,⟨f0,f1,f2,f3,f4,f5,f6⟩,hz,hB⟩:=Hr.o _ a7;have G8:R≠w.heap.size:=Bk.apart2 dS hz;have q0:w1.cell? ⟨R,14,none⟩=some (.int .i64 0):=dS.cell 14;have q1:w1.cell? ⟨R,15,none⟩=some (.int .i64 0):=dS.cell 15;have q2:w1.cell? ⟨R,16,none⟩=some (.func (.func 104) #[] #[]):=dS.cell 16;have q3:w1.cell? ⟨R,17,none⟩=some (.func (.func 150) #[] #[.pointer (some ⟨b2,0,none⟩)]):=dS.cell 17;have q4:w1.cell? ⟨R,18,none⟩=some (.func (.func 105) #[] #[]):=dS.cell 18;have q5:w1.cell? ⟨R,19,none⟩=some (.func (.func 107) #[] #[]):=dS.cell 19;have q6:w1.cell? ⟨R,20,none⟩=some (.string ⟨#[115]⟩):=dS.cell 20;have hF:=Bk.drew (((((((hz.put 0 (.int .i64 0)).put 1 (.int .i64 0)).put 2 (.func (.func 104) #[] #[])).put 3 (.func (.func 150) #[] #[.pointer (some ⟨b2,0,none⟩)])).put 4 (.func (.func 105) #[] #[])).put 5 (.func (.func 107) #[] #[])).put 6 (.string ⟨#[115]⟩));have z0:=hF.cell 0;have z1:=hF.cell 1;have z2:=hF.cell 2;have z3:=hF.cell 3;have z4:=hF.cell 4;have z5:=hF.cell 5;have z6:=hF.cell 6;unfold zkC at z0 z1 z2 z3 z4 z5 z6;simp at z0 z1 z2 z3 z4 z5 z6;have HB:=h_ ((((((((hB.setCell (p:=⟨w.heap.size,0,none⟩) UZz (.int .i64 0)).setCell (p:=⟨w.heap.size,1,none⟩) UZz (.int .i64 0)).setCell (p:=⟨w.heap.size,2,none⟩) UZz (.func (.func 104) #[] #[])).setCell (p:=⟨w.heap.size,3,none⟩) UZz (.func (.func 150) #[] #[.pointer (some ⟨b2,0,none⟩)])).setCell (p:=⟨w.heap.size,4,none⟩) UZz (.func (.func 105) #[] #[])).setCell (p:=⟨w.heap.size,5,none⟩) UZz (.func (.func 107) #[] #[])).setCell (p:=⟨w.heap.size,6,none⟩) UZz (.string ⟨#[115]⟩)).drew);have HK:=h_ (Bk.drew (Bk.seven cK (Bk.apart cK hz (by decide)) (.int .i64 0) (.int .i64 0) (.func (.func 104) #[] #[]) (.func (.func 150) #[] #[.pointer (some ⟨b2,0,none⟩)]) (.func (.func 105) #[] #[]) (.func (.func 107) #[] #[]) (.string ⟨#[115]⟩)));have HR:Hid (∀(b:Bool),(tyB (2,wd)=b)->∀w',Below w.heap.size w w'->Bk w' b2 9 #[.string (iniB 2)]->Ending.returned (.tuple #[.agg #[(.int .i64 0),(.int .i64 0),(.func (.func 104) #[] #[]),(.func (.func 150) #[] #[.pointer (some ⟨b2,0,none⟩)]),(.func (.func 105) #[] #[]),(.func (.func 107) #[] #[]),(.string ⟨#[115]⟩)],.bool b])=Ending.returned (.tuple #[.agg #[(.int .i64 0),(.int .i64 0),(.func (.func 104) #[] #[]),(.func (.func 150) #[] #[.pointer (some ⟨b2,0,none⟩)]),(.func (.func 105) #[] #[]),(.func (.func 107) #[] #[]),(.string ⟨#[115]⟩)],.bool (tyB (2,wd))])/\KdR w' 2 #[(.int .i64 0),(.int .i64 0),(.func (.func 104) #[] #[]),(.func (.func 150) #[] #[.pointer (some ⟨b2,0,none⟩)]),(.func (.func 105) #[] #[]),(.func (.func 107) #[] #[]),(.string ⟨#[115]⟩)]/\Below w.heap.size w w'):=h_ (λb hb w' h1 h2=>⟨by rw[hb],Or.inr ⟨by decide,by decide,b2,rfl,h2⟩,h1⟩);clear hF hz hB a7 dS bk cK eN Hr Hk;by_cases jd:(0:Int)<=wd
   ·by_cases lR:wd<=0
    ·have d1:decide ((0:Int)<=wd)=true:=Vam jd;have d2:decide (wd<=0)=true:=Vam lR;have iz:Hid (tyB (2,wd)=true):=h_ (by unfold tyB;simp;omega);go_wp2;go_region
     all_goals
      go_wp2_with ((with_reducible show bodyPost _ _ _ _ _ _);refine bodyPost_ret (v:=.tuple #[.agg #[(.int .i64 0),(.int .i64 0),(.func (.func 104) #[] #[]),(.func (.func 150) #[] #[.pointer (some ⟨b2,0,none⟩)]),(.func (.func 105) #[] #[]),(.func (.func 107) #[] #[]),(.string ⟨#[115]⟩)],.bool true]) (by simp[results,Tryz.results43,go_sem,z0,z1,z2,z3,z4,z5,z6];try rfl) rfl ?_;exact⟨_,HR.o _ iz.o _ HB.o HK.o⟩)
    ·have d1:decide ((0:Int)<=wd)=true:=Vam jd;have d2:decide (wd<=0)=false:=Vah lR;have iz:Hid (tyB (2,wd)=false):=h_ (by unfold tyB;simp;omega);go_wp2;go_region
     all_goals
      go_wp2_with ((with_reducible show bodyPost _ _ _ _ _ _);refine bodyPost_ret (v:=.tuple #[.agg #[(.int .i64 0),(.int .i64 0),(.func (.func 104) #[] #[]),(.func (.func 150) #[] #[.pointer (some ⟨b2,0,none⟩)]),(.func (.func 105) #[] #[]),(.func (.func 107) #[] #[]),(.string ⟨#[115]⟩)],.bool false]) (by simp[results,Tryz.results43,go_sem,z0,z1,z2,z3,z4,z5,z6];try rfl) rfl ?_;exact⟨_,HR.o _ iz.o _ HB.o HK.o⟩)
   ·have d1:decide ((0:Int)<=wd)=false:=Vah jd;have iz:Hid (tyB (2,wd)=false):=h_ (by unfold tyB;simp;omega);go_wp2;go_region
    all_goals
     go_wp2_with ((with_reducible show bodyPost _ _ _ _ _ _);refine bodyPost_ret (v:=.tuple #[.agg #[(.int .i64 0),(.int .i64 0),(.func (.func 104) #[] #[]),(.func (.func 150) #[] #[.pointer (some ⟨b2,0,none⟩)]),(.func (.func 105) #[] #[]),(.func (.func 107) #[] #[]),(.string ⟨#[115]⟩)],.bool false]) (by simp[results,Tryz.results43,go_sem,z0,z1,z2,z3,z4,z5,z6];try rfl) rfl ?_;exact⟨_,HR.o _ iz.o _ HB.o HK.o⟩)
  ·clear bx;go_enter Tryz.func43,Tryz.ntmps43;go_wp2_with fail;refine(Hk.o _).mono ?_;rintro x w1 ⟨R,b1,b2,b3,rfl,dS,bk,cK,eN,a7⟩;obtain⟨⟨c0,c1,c2,c3,c4,c5,c6⟩,⟨f0,f1,f2,f3,f4,f5,f6⟩,hz,hB⟩:=Hr.o _ a7;have G8:R≠w.heap.size:=Bk.apart2 dS hz;have q0:w1.cell? ⟨R,21,none⟩=some (.int .i64 0):=dS.cell 21;have q1:w1.cell? ⟨R,22,none⟩=some (.int .i64 0):=dS.cell 22;have q2:w1.cell? ⟨R,23,none⟩=some (.func (.func 108) #[] #[]):=dS.cell 23;have q3:w1.cell? ⟨R,24,none⟩=some (.func (.func 150) #[] #[.pointer (some ⟨b3,0,none⟩)]):=dS.cell 24;have q4:w1.cell? ⟨R,25,none⟩=some (.func (.func 109) #[] #[]):=dS.cell 25;have q5:w1.cell? ⟨R,26,none⟩=some (.func (.func 110) #[] #[]):=dS.cell 26;have q6:w1.cell? ⟨R,27,none⟩=some (.string ⟨#[]⟩):=dS.cell 27;have hF:=Bk.drew (((((((hz.put 0 (.int .i64 0)).put 1 (.int .i64 0)).put 2 (.func (.func 108) #[] #[])).put 3 (.func (.func 150) #[] #[.pointer (some ⟨b3,0,none⟩)])).put 4 (.func (.func 109) #[] #[])).put 5 (.func (.func 110) #[] #[])).put 6 (.string ⟨#[]⟩));have z0:=hF.cell 0;have z1:=hF.cell 1;have z2:=hF.cell 2;have z3:=hF.cell 3;have z4:=hF.cell 4;have z5:=hF.cell 5;have z6:=hF.cell 6;unfold zkC at z0 z1 z2 z3 z4 z5 z6;simp at z0 z1 z2 z3 z4 z5 z6;have HB:=h_ ((((((((hB.setCell (p:=⟨w.heap.size,0,none⟩) UZz (.int .i64 0)).setCell (p:=⟨w.heap.size,1,none⟩) UZz (.int .i64 0)).setCell (p:=⟨w.heap.size,2,none⟩) UZz (.func (.func 108) #[] #[])).setCell (p:=⟨w.heap.size,3,none⟩) UZz (.func (.func 150) #[] #[.pointer (some ⟨b3,0,none⟩)])).setCell (p:=⟨w.heap.size,4,none⟩) UZz (.func (.func 109) #[] #[])).setCell (p:=⟨w.heap.size,5,none⟩) UZz (.func (.func 110) #[] #[])).setCell (p:=⟨w.heap.size,6,none⟩) UZz (.string ⟨#[]⟩)).drew);have HK:=h_ (Bk.drew (Bk.seven eN (Bk.apart eN hz (by decide)) (.int .i64 0) (.int .i64 0) (.func (.func 108) #[] #[]) (.func (.func 150) #[] #[.pointer (some ⟨b3,0,none⟩)]) (.func (.func 109) #[] #[]) (.func (.func 110) #[] #[]) (.string ⟨#[]⟩)));have HR:Hid (∀(b:Bool),(tyB (3,wd)=b)->∀w',Below w.heap.size w w'->Bk w' b3 9 #[.string (iniB 3)]->Ending.returned (.tuple #[.agg #[(.int .i64 0),(.int .i64 0),(.func (.func 108) #[] #[]),(.func (.func 150) #[] #[.pointer (some ⟨b3,0,none⟩)]),(.func (.func 109) #[] #[]),(.func (.func 110) #[] #[]),(.string ⟨#[]⟩)],.bool b])=Ending.returned (.tuple #[.agg #[(.int .i64 0),(.int .i64 0),(.func (.func 108) #[] #[]),(.func (.func 150) #[] #[.pointer (some ⟨b3,0,none⟩)]),(.func (.func 109) #[] #[]),(.func (.func 110) #[] #[]),(.string ⟨#[]⟩)],.bool (tyB (3,wd))])/\KdR w' 3 #[(.int .i64 0),(.int .i64 0),(.func (.func 108) #[] #[]),(.func (.func 150) #[] #[.pointer (some ⟨b3,0,none⟩)]),(.func (.func 109) #[] #[]),(.func (.func 110) #[] #[]),(.string ⟨#[]⟩)]/\Below w.heap.size w w'):=h_ (λb hb w' h1 h2=>⟨by rw[hb],Or.inr ⟨by decide,by decide,b3,rfl,h2⟩,h1⟩);clear hF hz hB a7 dS bk cK eN Hr Hk;by_cases jd:(0:Int)<=wd
   ·by_cases lR:wd<=0
    ·have d1:decide ((0:Int)<=wd)=true:=Vam jd;have d2:decide (wd<=0)=true:=Vam lR;have iz:Hid (tyB (3,wd)=true):=h_ (by unfold tyB;simp;omega);go_wp2;go_region
     all_goals
      go_wp2_with ((with_reducible show bodyPost _ _ _ _ _ _);refine bodyPost_ret (v:=.tuple #[.agg #[(.int .i64 0),(.int .i64 0),(.func (.func 108) #[] #[]),(.func (.func 150) #[] #[.pointer (some ⟨b3,0,none⟩)]),(.func (.func 109) #[] #[]),(.func (.func 110) #[] #[]),(.string ⟨#[]⟩)],.bool true]) (by simp[results,Tryz.results43,go_sem,z0,z1,z2,z3,z4,z5,z6];try rfl) rfl ?_;exact⟨_,HR.o _ iz.o _ HB.o HK.o⟩)
    ·have d1:decide ((0:Int)<=wd)=true:=Vam jd;have d2:decide (wd<=0)=false:=Vah lR;have iz:Hid (tyB (3,wd)=false):=h_ (by unfold tyB;simp;omega);go_wp2;go_region
     all_goals
      go_wp2_with ((with_reducible show bodyPost _ _ _ _ _ _);refine bodyPost_ret (v:=.tuple #[.agg #[(.int .i64 0),(.int .i64 0),(.func (.func 108) #[] #[]),(.func (.func 150) #[] #[.pointer (some ⟨b3,0,none⟩)]),(.func (.func 109) #[] #[]),(.func (.func 110) #[] #[]),(.string ⟨#[]⟩)],.bool false]) (by simp[results,Tryz.results43,go_sem,z0,z1,z2,z3,z4,z5,z6];try rfl) rfl ?_;exact⟨_,HR.o _ iz.o _ HB.o HK.o⟩)
   ·have d1:decide ((0:Int)<=wd)=false:=Vah jd;have iz:Hid (tyB (3,wd)=false):=h_ (by unfold tyB;simp;omega);go_wp2;go_region
    all_goals
     go_wp2_with ((with_reducible show bodyPost _ _ _ _ _ _);refine bodyPost_ret (v:=.tuple #[.agg #[(.int .i64 0),(.int .i64 0),(.func (.func 108) #[] #[]),(.func (.func 150) #[] #[.pointer (some ⟨b3,0,none⟩)]),(.func (.func 109) #[] #[]),(.func (.func 110) #[] #[]),(.string ⟨#[]⟩)],.bool false]) (by simp[results,Tryz.results43,go_sem,z0,z1,z2,z3,z4,z5,z6];try rfl) rfl ?_;exact⟨_,HR.o _ iz.o _ HB.o HK.o⟩)
end Go.Proofs.YtchokmkfobandaaGreatDoor
namespace Go.Proofs.YtchokmkfobandaaGreatDoor
open Go.RowKit Go.Proofs Wv Wv.Dc
def Z2A:List (String×DataW Unit):=[("math/bits.deBruijn32tab",Rows.laid_math_bits_deBruijn32tab),("math/bits.deBruijn64tab",Rows.laid_math_bits_deBruijn64tab),("internal/strconv.uint64pow10",Rows.laid_internal_strconv_uint64pow10),("unicode/utf8.acceptRanges",Rows.laid_unicode_utf8_acceptRanges),("unicode/utf8.first",Rows.laid_unicode_utf8_first)]
theorem Z50 {P:Program} {x:String×DataW Unit} {l:List (String×DataW Unit)} {W:World} (h:laidMet P (x::l) W):laidMet P l W:=by
 obtain⟨n,d⟩:=x;obtain⟨ps,⟨g,t,cs,fuel,p,q,h1,h2,h3,h4,h5,rfl⟩,hn,hr⟩:=h;refine⟨q,h5,(List.nodup_append.1 hn).2.1,λb off hp=>hr b off (List.mem_append_right _ hp)⟩
theorem Zfh {W:World} (h:laidMetH Tryz.prog Z2A W):Lib.TabIs Tryz.prog W "internal/strconv.uint64pow10" .u64 Lib.pow10Tab:=by
 rw[MakeChecks.laidMetH_plain _ _ _ (by kernel_rfl)] at h;have h2:=Z50 (Z50 h);exact Lib.tabIs_of_head (g:=1) (by kernel_rfl) (t:=348) (e:=288) (n:=20) (by kernel_rfl) (by kernel_rfl) (by kernel_rfl) (by kernel_rfl) (by kernel_rfl) h2
theorem ZbW {W W':World} (hb:Below W.heap.size W W') {cs:Array Value} (h:W.var? Tryz.prog "internal/strconv.uint64pow10" =some cs):W'.var? Tryz.prog "internal/strconv.uint64pow10" =W.var? Tryz.prog "internal/strconv.uint64pow10" :=by
 have hg:Tryz.prog.globalNamed "internal/strconv.uint64pow10" =some 1:=(by kernel_rfl);unfold World.var? at h⊢;rw[hg] at h⊢;simp only[Option.bind_some] at h⊢
 have ab:1<W.heap.size:=by
  rcases Nat.lt_or_ge 1 W.heap.size with h1|h1
  ·exact h1
  ·rw[Array.getElem?_eq_none h1] at h;cases h
 rw[hb.block _ ab]
theorem Z51 {W:World} (h:laidMetH Tryz.prog Z2A W):Tab W:=λW' hb=>by
 have h1:=Zfh h;unfold Lib.TabIs at h1⊢;rw[<-h1];exact ZbW hb h1
end Go.Proofs.YtchokmkfobandaaGreatDoor
namespace Wv
open Go Go.RowKit Go.Deep Go.ChangeShapes Go.WideShapes
def cv (l:List (Int×ByteArray)):List Value:=l.flatMap λx=>[iv x.1,sv x.2]
theorem Z52 (l:List (Int×ByteArray)):(cv l).length=l.length*2:=by
 induction l with
 |nil=>rfl
 |cons c D ih=>rw[show cv (c::D)=[iv c.1,sv c.2]++cv D from rfl,Vab,ih,Vaz];simp;omega
theorem ZgY (D:List (Int×ByteArray)):∀(i:Nat) (h:i<D.length),(cv D)[i*2]? =some (iv D[i].1)/\(cv D)[i*2+1]? =some (sv D[i].2):=by
 induction D with
 |nil=>intro i h;simp at h
 |cons c D ih=>
  intro i h;have e:cv (c::D)=[iv c.1,sv c.2]++cv D:=rfl;match i,h with
  |0,_=>exact⟨rfl,rfl⟩
  |i+1,h=>
   have h2:i<D.length:=(by simpa using h);rw[e,Vbd (by simp;omega),Vbd (by simp;omega)];have:=ih i h2;rw[show(i+1)*2-[iv c.1,sv c.2].length=i*2 from by simp;omega,show(i+1)*2+1-[iv c.1,sv c.2].length=i*2+1 from by simp;omega];exact this
def ChA (w:World) (A:Option Addr) (L:List (List (Int×ByteArray))):Prop:=
 ∀i (h:i<L.length),∃b o B cap,A=some ⟨b,o,none⟩/\b<w.heap.size/\w.cell? ⟨b,o+i,none⟩=some (.slice B L[i].length cap)/\At w B (cv L[i])/\L[i].length<=cap
theorem ChA.below {w w':World} {A:Option Addr} {L:List (List (Int×ByteArray))} (h:ChA w A L) (hb:Below w.heap.size w w'):ChA w' A L:=by
 intro i hi;obtain⟨b,o,B,cap,hA,ab,h1,h2,h3⟩:=h i hi;exact⟨b,o,B,cap,hA,Va5 ab hb.size,(hb.cell (p:=⟨b,_,none⟩) ab).trans h1,h2.below hb,h3⟩
section
variable {H:Type} {enc:TypeId×Value->H} {P:Program} {w:World} {base:Nat} {spare:Nat->Bool} {held:Bool}
theorem Zfi {t e i0 i1:TypeId} {f0 f1:Field} {fuel n cap:Nat} {A:Option Addr} {x:DataW H×List MemPlace} (ht:P.underlying t=some (.slice e)) (he:P.underlying e=some (.struct #[f0,f1]))
  (ce:P.cellsOf e=2) (o:f0.offset=0/\f1.offset=1) (tt:f0.type=i0/\f1.type=i1) (c0:P.cellsOf i0=1) (u0:P.underlying i0=some (.int .i64)) (c1:P.cellsOf i1=1) (u1:P.underlying i1=some .string)
  (h:DataW.trod enc P w base spare held fuel t [.slice A n cap]=some x):
  ∃l:List (Int×ByteArray),At w A (cv l)/\(∀c∈l,I64 c.1/\c.2.size<=9223372036854775807)/\n=l.length/\n<=9223372036854775807:=by
 obtain⟨o0,o1⟩:=o;obtain⟨t0,t1⟩:=tt;rcases open_slice ht h with ⟨h0,_⟩|⟨a,len,c,m,k,D,Pl,hcs,hb,hl,hm,jF,rfl,hx⟩
 ·simp at h0;obtain⟨rfl,rfl,rfl⟩:=h0;exact⟨[],At.nil _ _,by simp,rfl,by omega⟩
 ·simp at hcs;obtain⟨rfl,rfl,rfl⟩:=hcs;have Vj:n<=m:=(by rw[jF];split<;>omega)
  have each:∀i,i<n->∃q:Int×ByteArray,(I64 q.1/\q.2.size<=9223372036854775807)/\w.cell? (a.add (i*2))=some (.int .i64 q.1)/\w.cell? (a.add (i*2+1))=some (.string q.2):=by
   intro i hi;obtain⟨Fa,h1,h2⟩:=hx i (by omega);rw[ce] at h1;obtain⟨_,hlen,hcell⟩:=World.cells?_some h1;obtain⟨xs,k',hk,Vk,_,dV,hf⟩:=DataW.trod_struct he h2;match xs,dV,Fa,hlen with
   |[y0,y1],_,[v0,v1],_=>
    have g0:=hf 0 f0 rfl;have g1:=hf 1 f1 rfl;simp[o0,t0,c0] at g0;simp[o1,t1,c1] at g1;obtain⟨a0,r0,_,w0⟩:=DataW.trod_int u0 g0;obtain⟨a1,r1,_,w1⟩:=DataW.trod_string u1 g1;simp at r0 r1;subst r0 r1;have e0:=hcell 0 (by omega);have e1:=hcell 1 (by omega);rw[add_add] at e0 e1;exact⟨(a0,a1),⟨QG w0,by unfold maxLen at w1;omega⟩,by simpa using e0,by simpa using e1⟩
  have Vl:Inhabited (Int×ByteArray):=⟨(0,⟨#[]⟩)⟩;obtain⟨q,hq⟩:=choose_lt each;refine⟨(List.range n).map q,?_,?_,by simp,by unfold maxLen at hm;omega⟩
  ·intro i hi;rw[Z52] at hi;obtain⟨j,hj⟩:∃j,i/2=j:=⟨_,rfl⟩;have Lp:j<n:=(by simp at hi;omega);obtain⟨_,q0,q1⟩:=hq j Lp;obtain⟨b,off,spot⟩:=a
   have zL:spot=none:=by
    obtain⟨_,z0,_⟩:=hq 0 (by omega);simpa [Addr.add] using World.cell?_spot z0
   subst zL;rw[add_plain] at q0 q1;refine⟨b,off,rfl,ZeL q0,?_⟩;obtain⟨p0,p1⟩:=ZgY ((List.range n).map q) j (by simpa using Lp);have hz:i=j*2\/i=j*2+1:=(by omega)
   have key:∀v,(cv ((List.range n).map q))[i]? =some v->w.cell? ⟨b,off+i,none⟩=some v->w.cell? ⟨b,off+i,none⟩=some ((cv ((List.range n).map q))[i]'(by rw[Z52];exact hi)):=by
    intro v h1 h2;obtain⟨_,h3⟩:=List.getElem?_eq_some_iff.1 h1;rw[h3];exact h2
   rcases hz with hz|hz
   ·refine key (iv (q j).1) ?_ (by rw[hz];exact q0);rw[hz];simpa using p0
   ·refine key (sv (q j).2) ?_ (by rw[hz];exact q1);rw[hz];simpa using p1
  ·intro c hc;obtain⟨i,hi,rfl⟩:=Va6.1 hc;exact(hq i (List.mem_range.1 hi)).1
end
end Wv
