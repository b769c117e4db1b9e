import Derived.Test.YtchokmkfobandaaGreatDoorJ11
import Derived.Test.YtchokmkfobandaaGreatDoorJ12
import Derived.Test.YtchokmkfobandaaGreatDoorJ13
import Derived.Test.YtchokmkfobandaaGreatDoorRows
import Derived.Lay
import Derived.LaidMore
import Derived.Lib.LaidTab
set_option linter.unusedVariables false
set_option linter.unusedSimpArgs false
set_option maxRecDepth 100000
set_option maxHeartbeats 8000000
namespace Wv.Fm
open Wv.Vi Wv.Ru Wv.Lz
def csh (r:Nat):Nat:=(r/2) ^^^ (if r % 2=1 then 3988292384 else 0)
def cshN:Nat->Nat->Nat
 |0,r=>r
 |k+1,r=>csh (cshN k r)
def crg (r:Nat):List UInt8->Nat
 |[]=>r
 |b::l=>crg (cshN 8 (r ^^^ b.toNat)) l
def crcN (l:List UInt8):Nat:=4294967295-crg 4294967295 l
theorem ZgS {r:Nat} (h:r<2 ^ 32):csh r<2 ^ 32:=by
 unfold csh;refine Nat.xor_lt_two_pow (by omega) ?_;split
 ·decide
 ·decide
theorem Zi8 {r:Nat} (h:r<2 ^ 32) (k:Nat):cshN k r<2 ^ 32:=by
 induction k with
 |zero=>exact h
 |succ k ih=>exact ZgS ih
theorem Zf6 (l:List UInt8) (b:UInt8):∀r,crg r (l++[b])=cshN 8 (crg r l ^^^ b.toNat):=by
 induction l with
 |nil=>intro r;rfl
 |cons a l ih=>intro r;exact ih _
theorem Z6a (l:List UInt8):crcN l<4294967296:=by unfold crcN;omega
def le4 (n:Nat):List UInt8:=[UInt8.ofNat n,UInt8.ofNat (n/256),UInt8.ofNat (n/65536),UInt8.ofNat (n/16777216)]
def QB (s:List UInt8):List UInt8:=s++le4 (crcN s)
def Z3N (s:List UInt8):Nat:=(s.getD (s.length-4) 0).toNat+256*(s.getD (s.length-3) 0).toNat+65536*(s.getD (s.length-2) 0).toNat+16777216*(s.getD (s.length-1) 0).toNat
def QO (s:List UInt8):Bool:=decide (4<=s.length)&&decide (crcN (s.take (s.length-4))=Z3N s)
theorem Zi9 {n:Nat} (h:n<4294967296):(UInt8.ofNat n).toNat+256*(UInt8.ofNat (n/256)).toNat+65536*(UInt8.ofNat (n/65536)).toNat+16777216*(UInt8.ofNat (n/16777216)).toNat=n:=by
 simp only[UInt8.toNat_ofNat'];omega
theorem Z6b (s:List UInt8):QO (QB s)=true:=by
 have hl:(QB s).length=s.length+4:=(by simp[QB,le4]);unfold QO;rw[Va1,Vas,Vas,hl];refine⟨by omega,?_⟩
 have h1:(QB s).take (s.length+4-4)=s:=by
  rw[show s.length+4-4=s.length by omega];exact Vcy
 rw[h1];unfold Z3N;rw[hl]
 have g:∀i,i<4->(QB s).getD (s.length+i) 0=(le4 (crcN s)).getD i 0:=λi hi=>by
  unfold QB;simp only[List.getD];rw[Vbc (by omega),Nat.add_sub_cancel_left]
 rw[show s.length+4-4=s.length+0 by omega,show s.length+4-3=s.length+1 by omega,show s.length+4-2=s.length+2 by omega,show s.length+4-1=s.length+3 by omega,g 0 (by omega),g 1 (by omega),g 2 (by omega),g 3 (by omega)];exact(Zi9 (Z6a s)).symm
theorem ZbK (s:List UInt8):(QB s).length=s.length+4:=by simp[QB,le4]
def XX (k:Nat) (c t:List UInt8):Nat:=if t.length<c.length then k+16 else k
def ZS (c t:List UInt8):List UInt8:=if t.length<c.length then t else c
def Z2s (k:Nat) (c t:List UInt8):List UInt8:=QB (165::UInt8.ofNat (XX k c t)::(num (ZS c t).length++ZS c t))
def ZB (k:Nat) (c:List UInt8):Option (List UInt8):=(lzE c).map (Z2s k c)
def conT (b:Nat) (body:List UInt8):Option (List UInt8):=if 16<=b then(if(lzD body 4096).2=0 then some (lzD body 4096).1 else none) else some body
def YD (data:List UInt8):Option (Nat×List UInt8×Nat):=match data with
 |a::b::r=>if a≠165\/32<=b.toNat then none else match ZH r 4096 with
  |none=>none
  |some (body,r2)=>if r2.length<4 then none else if QO (data.take (data.length-(r2.length-4)))=false then none else
   match conT b.toNat body with
   |none=>none
   |some c=>if ZB (b.toNat % 16) c=some (data.take (data.length-(r2.length-4))) then some (b.toNat % 16,c,data.length-(r2.length-4)) else none
 |_=>none
theorem Z4S (k:Nat) (c t:List UInt8):(Z2s k c t).length=(num (ZS c t).length).length+(ZS c t).length+6:=by
 unfold Z2s;rw[ZbK];simp only[Vaz,Vab]
theorem Z6c {k:Nat} (hk:k<16) {c w:List UInt8} (h:ZB k c=some w) (rest:List UInt8):YD (w++rest)=some (k,c,w.length):=by
 have h0:=h;unfold ZB at h;cases ht:lzE c with
 |none=>rw[ht] at h;cases h
 |some t=>
  rw[ht] at h;injection h with h;have hc:=Z1e ht;have hb:(ZS c t).length<=4096:=(by unfold ZS;split<;>omega)
  have hw:w=165::UInt8.ofNat (XX k c t)::(num (ZS c t).length++ZS c t++le4 (crcN (165::UInt8.ofNat (XX k c t)::(num (ZS c t).length++ZS c t)))):=by
   rw[<-h];unfold Z2s QB;simp
  obtain⟨q,hq⟩:∃q,le4 (crcN (165::UInt8.ofNat (XX k c t)::(num (ZS c t).length++ZS c t)))=q:=⟨_,rfl⟩;have px:q.length=4:=(by rw[<-hq];rfl);rw[hq] at hw
  have da:(UInt8.ofNat (XX k c t)).toNat=XX k c t:=by
   rw[UInt8.toNat_ofNat'];unfold XX;split<;>omega
  have hd:w++rest=165::UInt8.ofNat (XX k c t)::(num (ZS c t).length++(ZS c t++(q++rest))):=(by rw[hw];simp);have zD:w.length=2+(num (ZS c t).length).length+(ZS c t).length+4:=(by rw[hw];simp[px];omega);have fX:QO w=true:=(by rw[<-h];exact Z6b _)
  have jW:conT (XX k c t) (ZS c t)=some c:=by
   unfold conT XX ZS;by_cases hl:t.length<c.length
   ·rw[Vaf hl,Vaf hl,Vaf (by omega),Zla ht 4096 (by omega),Vaf rfl]
   ·rw[Vad hl,Vad hl,Vad (by omega)]
  have G6:XX k c t % 16=k:=(by unfold XX;split<;>omega);have zE:(w++rest).length-((q++rest).length-4)=w.length:=(by rw[Vab,Vab,px];omega);rw[hd];unfold YD;simp only;rw[Vad (by rw[da];unfold XX;rintro(h1|h1);exact h1 rfl;split at h1<;>omega),Yn _ _ hb (by omega)];simp only;rw[<-hd,zE,Vcy,Vad (by rw[Vab,px];omega),Vad (by simp[fX]),da,jW];simp only;rw[G6,Vaf h0]
theorem Z4T {data c:List UInt8} {k n:Nat} (h:YD data=some (k,c,n)):ZB k c=some (data.take n)/\k<16/\n<=data.length:=by
 unfold YD at h;split at h
 ·split at h
  ·cases h
  ·split at h
   ·cases h
   ·split at h
    ·cases h
    ·split at h
     ·cases h
     ·split at h
      ·cases h
      ·split at h
       ·rename_i he;injection h with h;injection h with h1 h;injection h with h2 h3;rw[h2,h3,h1] at he;exact⟨he,by omega,by omega⟩
       ·cases h
 ·cases h
theorem Z2H {k:Nat} {c:List UInt8} :(ZB k c).isSome=decide (c.length<=4096):=by
 unfold ZB lzE;split
 ·rename_i h;rw[Vai (by omega)];rfl
 ·rename_i h;rw[Vao (by omega)];rfl
end Wv.Fm
namespace Wv.Sn
open Wv.Vi Wv.Ru Wv.Bc Wv.Fm Wv.Lz
def lowB (v:List UInt8):List Bool:=v.map (λc=>decide (cd c % 2=1))
def higB (v:List UInt8):List Bool:=v.map (λc=>decide (2<=cd c))
/-! ## Kinds, parts of values -/
def tyB (s:Int×Int):Bool:=(decide (s.1=0)&&decide (1<=s.2)&&decide (s.2<=128))||((decide (s.1=1)||decide (s.1=2)||decide (s.1=3))&&decide (s.2=0))
section
variable (dv:List UInt8->Bool)
def kvB (k w:Int) (v:List UInt8):Bool:=if k=0 then vld w v else if k=1 then dv v else if k=2 then decide (v.length<=64) else decide (v=[])
def vaB (s:Int×Int) (v:List UInt8):Bool:=tyB s&&kvB dv s.1 s.2 v
end
def wrV (s:Int×Int) (v:List UInt8):List UInt8:=if s.1=0 then Bit.pack (lowB v)++Bit.pack (higB v) else if s.1=3 then[] else num v.length++v
theorem Z7H {s:Int×Int} (h:tyB s=true) (h0:s.1=0):1<=s.2/\s.2<=128:=by
 unfold tyB at h;rw[h0] at h;simpa using h
theorem Z3O {s:Int×Int} (h:tyB s=true):s.1=0\/((s.1=1\/s.1=2\/s.1=3)/\s.2=0):=by
 unfold tyB at h;simp only[Bool.or_eq_true,Va1,Vas] at h;omega
section
variable {dv:List UInt8->Bool}
end
theorem Z7I {k:Nat} {c w:List UInt8} (h:ZB k c=some w):w≠[]:=by
 unfold ZB at h;cases ht:lzE c with
 |none=>rw[ht] at h;cases h
 |some t=>
  rw[ht] at h;injection h with h;rw[<-h];unfold Z2s QB;simp
end Wv.Sn
namespace Wv.Lz
open Wv.Mo
def Z0d (s:List UInt8) (i most p b:Nat) (o:List (Nat×Nat)):Option (Nat×List (Nat×Nat)):=if 4096<i-p\/most<=b then none
 else if s.getD (p+b) 0≠s.getD (i+b) 0 then some (b,o) else if b<com s p i most then some (com s p i most,o++[(com s p i most,i-p)]) else some (b,o)
theorem Zf7 (s:List UInt8) (i most p b:Nat) (o:List (Nat×Nat)):btr s i most (p+1) b o=match Z0d s i most p b o with
  |none=>o
  |some x=>btr s i most p x.1 x.2:=by
 unfold Z0d;rw[btr];split
 ·rfl
 ·split
  ·rfl
  ·split<;>rfl
theorem ZbL {s:List UInt8} {i j n k:Nat} :comA s i j n (k+1)=if s.getD (i+n) 0=s.getD (j+n) 0 then comA s i j (n+1) k else n:=rfl
theorem ZbM {s:List UInt8} {i j n:Nat} :comA s i j n 0=n:=rfl
theorem ZbN {hi lo d:Nat} (h:lo<hi):down hi lo d=⟨hi,d,0⟩::down (hi-1) lo d:=by
 unfold down;obtain⟨k,hk⟩:∃k,hi-lo=k+1:=⟨hi-lo-1,by omega⟩;rw[hk,List.range_succ_eq_map,Vcj,Vb8,show hi-1-lo=k by omega];congr 1;apply List.map_congr_left;intro t _;show(⟨hi-(t+1),d,0⟩:Pc)=⟨hi-1-t,d,0⟩;congr 1;omega
theorem Zf8 {hi lo d:Nat} (h:hi<=lo):down hi lo d=[]:=by
 unfold down;rw[show hi-lo=0 by omega];rfl
def Z2I (l:List (Nat×Nat)) (k:Nat):Nat:=if 0<k then(l.getD (k-1) (0,0)).1 else 1
theorem Z7J {l:List (Nat×Nat)} {k:Nat} (hk:k<l.length):(l.take (k+1)).reverse=l.getD k (0,0)::(l.take k).reverse:=by
 rw[Vac hk,Vc3];simp[List.getD,hk]
theorem Z8S {l:List (Nat×Nat)} {k:Nat} (hk:k<l.length):Z06 ((l.take (k+1)).reverse)=down (l.getD k (0,0)).1 (Z2I l k) (l.getD k (0,0)).2++Z06 ((l.take k).reverse):=by
 rw[Z7J hk];cases k with
 |zero=>
  show Z06 (l.getD 0 (0,0)::([]:List (Nat×Nat)).reverse)=_++Z06 ([]:List (Nat×Nat)).reverse;show down _ 1 _=down _ 1 _++[];rw[Va3]
 |succ k=>
  rw[Z7J (show k<l.length by omega)];show down (l.getD (k+1) (0,0)).1 (l.getD k (0,0)).1 (l.getD (k+1) (0,0)).2++Z06 (l.getD k (0,0)::(l.take k).reverse)=_;congr 1
theorem Z6d {s:List UInt8} {f i:Nat} (h:i<s.length):follow s (f+1) i=((QN s).getD i st0).first::follow s f (i+((QN s).getD i st0).first.len):=by
 show(if i<s.length then _ else _)=_;rw[Vaf h]
theorem Z8T {s:List UInt8} {f i:Nat} (h:s.length<=i):follow s f i=[]:=by
 cases f with
 |zero=>rfl
 |succ f=>
  show(if i<s.length then _ else _)=_;rw[Vad (by omega)]
theorem Z0C {n:Nat} (h:n<=4096):blen n<=13:=by
 unfold blen;split
 ·omega
 ·rename_i h0;have:=(Nat.log2_lt h0).2 (show n<2 ^ 13 by omega);omega
theorem Z1g {p:Pc} (h1:p.dist<=4096) (h2:p.len<=4096):price p<=38:=by
 unfold price;have:=Z0C h1;have:=Z0C h2;split<;>omega
theorem PcOk.price {s:List UInt8} {i:Nat} {p:Pc} (h:PcOk s i p):price p<=38:=by
 rcases h with ⟨h1,h2,_⟩|⟨_,_,h3,_,h5,_⟩
 ·exact Z1g (by omega) (by omega)
 ·exact Z1g h3 (by omega)
theorem ZbO {tb:List St} {c:Option St} {p:Pc} {M:Nat} (py:∀x∈tb,x.cost<=M/\x.pcs<=M) (hc:∀x,c=some x->x.cost<=M+38/\x.pcs<=M+38) (hp:price p<=38):∀x,tryP tb c p=some x->x.cost<=M+38/\x.pcs<=M+38:=by
 have hg:(tb.getD (p.len-1) st0).cost<=M/\(tb.getD (p.len-1) st0).pcs<=M:=by
  rw[Vbn];cases h:tb[p.len-1]? with
  |none=>exact⟨Vat _,Vat _⟩
  |some y=>exact py y (List.mem_of_getElem? h)
 have hs:(stOf tb p).cost<=M+38/\(stOf tb p).pcs<=M+38:=⟨by show _+_<=_;omega,by show _+1<=_;omega⟩;intro x hx;unfold tryP at hx;cases c with
 |none=>injection hx with hx;rw[<-hx];exact hs
 |some c=>
  simp only at hx;split at hx
  ·injection hx with hx;rw[<-hx];exact hs
  ·injection hx with hx;rw[<-hx];exact hc c rfl
theorem Zia {tb:List St} {M:Nat} (py:∀x∈tb,x.cost<=M/\x.pcs<=M):∀(l:List Pc) (c:Option St),(∀x,c=some x->x.cost<=M+38/\x.pcs<=M+38)->(∀p∈l,price p<=38)->∀x,l.foldl (tryP tb) c=some x->x.cost<=M+38/\x.pcs<=M+38:=by
 intro l;induction l with
 |nil=>intro c hc _ x hx;exact hc x hx
 |cons p r ih=>intro c hc hp x hx;exact ih _ (ZbO py hc (hp p Vap)) (λq hq=>hp q (Var _ hq)) x hx
theorem ZbP (s:List UInt8):∀k,k<=s.length->∀x∈tbl s k,x.cost<=38*k/\x.pcs<=38*k:=by
 intro k;induction k with
 |zero=>
  intro _ x hx;rw[Vax.1 hx];exact⟨UZz,UZz⟩
 |succ k ih=>
  intro hk x hx;have ih:=ih (by omega);rcases Vba.1 hx with hx|hx
  ·have hi:s.length-1-k<s.length:=by omega
   have cU:∃y,(Z2o s (s.length-1-k)).foldl (tryP (tbl s k)) none=some y:=by
    unfold Z2o;rw[Vbq];exact Z07 _ _ _
   obtain⟨y,hy⟩:=cU;have:=Zia ih (Z2o s (s.length-1-k)) none (λx h=>by cases h) (λp hp=>(Z7m hi p hp).price) y hy;have e:x=y:=(by rw[hx];unfold Z0T;rw[hy];rfl);rw[e];omega
  ·have:=ih x hx;omega
end Wv.Lz
namespace Wv.Dc
def Z9 (s:List UInt8):Bool:=(canN s).isSome
end Wv.Dc
namespace Wv.Sn
open Go Go.RowKit Wv Wv.Bc Wv.Dc Wv.Vi
theorem Zf9 {z:Int} (h: -400<=z) (h2:z<=400):(decZ z).length<=4:=by
 unfold decZ;split
 ·have:=Qq (n:=(-z).toNat) (k:=3) (by omega) (by omega);rw[Vaz];omega
 ·have:=Qq (n:=z.toNat) (k:=3) (by omega) (by omega);omega
theorem ZbQ (n:Num):(Xc n).1.length<=30:=by
 unfold Xc;split
 ·decide
 ·split
  ·decide
  ·rename_i h1 h2;have h3:n.dg.length<=17/\-400<=XV n/\XV n<=400:=(by omega);have h4:=Zf9 h3.2.1 h3.2.2;simp only[Vab,Vaz,Vau];split<;>split<;>simp<;>omega
theorem Z8U {s:List UInt8} (h:Z9 s=true):s.length<=30:=by
 unfold Z9 at h;cases hc:canN s with
 |none=>rw[hc] at h;cases h
 |some n=>rw[(ZeA.1 hc).2];exact ZbQ n
theorem ZbR {s:Int×Int} {v:List UInt8} (h:vaB Z9 s v=true):(wrV s v).length<=100/\v.length<=128:=by
 unfold vaB at h;rw[Va1] at h;obtain⟨ht,hk⟩:=h;unfold kvB at hk;unfold wrV;have h9:∀n,(num n).length<=9:=λn=>(by rw[Z7];have:=Y5 n;omega);rcases Z3O ht with h0|⟨h1,h2⟩
 ·rw[Vaf h0] at hk⊢;have hv:isV v=true:=(by unfold vld at hk;rw[Va1] at hk;exact hk.1);have hl:=(Zv.1 hv).2.2;rw[Vab,Bit.pack_length,Bit.pack_length];unfold lowB higB;rw[Vag,Vag];omega
 ·have h0:¬s.1=0:=(by omega);rw[Vad h0] at hk⊢;have:=h9 v.length;by_cases k1:s.1=1
  ·rw[Vaf k1] at hk;rw[Vad (by omega),Vab];have:=Z8U hk;omega
  ·rw[Vad k1] at hk;by_cases k2:s.1=2
   ·rw[Vaf k2] at hk;rw[Vad (by omega),Vab];have:=of_decide_eq_true hk;omega
   ·rw[Vad k2] at hk;have:=of_decide_eq_true hk;rw[Vaf (by omega),this];simp
end Wv.Sn
namespace Go.Proofs.YtchokmkfobandaaGreatDoor
open Go.RowKit Go.Proofs Wv Wv.Vi Wv.Rc Wv.Mo Wv.Ru
theorem Zfa {s:List UInt8} {n z:Nat} {most:Int} (h:rd s=some (n,z)) (hm:¬most<(n:Int)):numR (bs s) 0 most=(n,bs (s.drop z),0):=by
 unfold numR;rw[Vaf rfl,Ze,h];simp only;rw[Vad hm]
theorem ZbS {s:List UInt8} {n z:Nat} {most:Int} (h:rd s=some (n,z)) (hm:most<(n:Int)):numR (bs s) 0 most=(0,bs s,2):=by
 unfold numR;rw[Vaf rfl,Ze,h];simp only;rw[Vaf hm]
theorem Z8V {s:List UInt8} {most:Int} (h:rd s=none):numR (bs s) 0 most=(0,bs s,12):=by
 unfold numR;rw[Vaf rfl,Ze,h]
theorem Z2J {s:ByteArray} {e:Nat} (he:e≠0) (n:Int):ZC s e n=(bs [],s,e):=by unfold ZC;rw[Vad he]
theorem Z0D {s t:List UInt8} {n most:Nat} (h:rnum s most=some (n,t)):numR (bs s) 0 (most:Int)=(n,bs t,0)/\n<=most/\t.length<=s.length:=by
 unfold rnum at h;match hr:rd s with
 |none=>rw[hr] at h;cases h
 |some (m,z)=>
  rw[hr] at h;simp only at h;by_cases hm:most<m
  ·rw[Vaf hm] at h;cases h
  ·rw[Vad hm] at h;injection h with h;injection h with h1 h2;subst h1;subst h2;exact⟨Zfa hr (by omega),by omega,by rw[Va2];omega⟩
theorem Z4U {s:List UInt8} {most:Nat} (h:rnum s most=none):∃e,e≠0/\numR (bs s) 0 (most:Int)=(0,bs s,e):=by
 unfold rnum at h;match hr:rd s with
 |none=>exact⟨12,by decide,Z8V hr⟩
 |some (m,z)=>
  rw[hr] at h;simp only at h;by_cases hm:most<m
  ·exact⟨2,by decide,ZbS hr (by omega)⟩
  ·rw[Vad hm] at h;cases h
theorem Z6e {s t a:List UInt8} {most:Nat} (h:ZH s most=some (a,t)):ZR (bs s) 0 (most:Int)=(bs a,bs t,0)/\a.length<=s.length/\t.length<=s.length/\a.length<=most:=by
 unfold ZH at h;match hr:rnum s most with
 |none=>rw[hr] at h;cases h
 |some (n,u)=>
  rw[hr] at h;simp only at h;obtain⟨h1,h2,h3⟩:=Z0D hr;by_cases hm:u.length<n
  ·rw[Vaf hm] at h;cases h
  ·rw[Vad hm] at h;injection h with h;injection h with h4 h5;subst h4;subst h5
   have ht:ZC (bs u) 0 (n:Int)=(bs (u.take n),bs (u.drop n),0):=by
    unfold ZC;rw[Vaf rfl,Vad (by omega),Vad (by rw[Z0];omega),Vav,Ze]
   refine⟨?_,by rw[Vau];omega,by rw[Va2];omega,by rw[Vau];omega⟩;unfold ZR;rw[h1];simp only;rw[ht];simp only[if_true]
theorem Z8W {s:List UInt8} {most:Nat} (h:ZH s most=none):∃e,e≠0/\ZR (bs s) 0 (most:Int)=(bs [],bs s,e):=by
 unfold ZH at h;match hr:rnum s most with
 |none=>
  obtain⟨e,h1,h2⟩:=Z4U hr;refine⟨e,h1,?_⟩;unfold ZR;rw[h2];simp only;rw[Z2J h1];simp only;rw[Vad h1]
 |some (n,u)=>
  rw[hr] at h;simp only at h;obtain⟨h1,h2,h3⟩:=Z0D hr;by_cases hm:u.length<n
  ·have ht:ZC (bs u) 0 (n:Int)=(bs [],bs u,12):=by
    unfold ZC;rw[Vaf rfl,Vad (by omega),Vaf (by rw[Z0];omega)]
   refine⟨12,by decide,?_⟩;unfold ZR;rw[h1];simp only;rw[ht];simp only;rw[Vad (by decide)]
  ·rw[Vad hm] at h;cases h
theorem Z1M {s:List UInt8} {n:Nat} (h:n<=s.length):ZC (bs s) 0 (n:Int)=(bs (s.take n),bs (s.drop n),0):=by
 unfold ZC;rw[Vaf rfl,Vad (by omega),Vad (by rw[Z0];omega),Vav,Ze]
theorem ZbT {s:List UInt8} {n:Nat} (h:s.length<n):ZC (bs s) 0 (n:Int)=(bs [],bs s,12):=by
 unfold ZC;rw[Vaf rfl,Vad (by omega),Vaf (by rw[Z0];omega)]
theorem ZI {w w1 w2:World} {b:Nat} (h:Below w.heap.size w w1) (hb:w.heap.size<=b) (k:Fr (only b) w1 w2):Below w.heap.size w w2:=
 h.trans (k.toBelow' h.size (λj hj e=>by have:j=b:=e;omega))
end Go.Proofs.YtchokmkfobandaaGreatDoor
namespace Go.Proofs.YtchokmkfobandaaGreatDoor
open Go.RowKit Go.Proofs Wv Wv.Vi Wv.Bc Wv.Sn
def knC (b1 b2 b3:Nat):Array Value:= #[.int .i64 1,.int .i64 128,.func (.func 75) #[] #[],.func (.func 94) #[] #[],.func (.func 96) #[] #[],.func (.func 97) #[] #[],.string ⟨#[98]⟩,
 .int .i64 0,.int .i64 0,.func (.func 98) #[] #[],.func (.func 150) #[] #[.pointer (some ⟨b1,0,none⟩)],.func (.func 101) #[] #[],.func (.func 103) #[] #[],.string ⟨#[114]⟩,
 .int .i64 0,.int .i64 0,.func (.func 104) #[] #[],.func (.func 150) #[] #[.pointer (some ⟨b2,0,none⟩)],.func (.func 105) #[] #[],.func (.func 107) #[] #[],.string ⟨#[115]⟩,
 .int .i64 0,.int .i64 0,.func (.func 108) #[] #[],.func (.func 150) #[] #[.pointer (some ⟨b3,0,none⟩)],.func (.func 109) #[] #[],.func (.func 110) #[] #[],.string ⟨#[]⟩]
theorem Zfb (s:ByteArray) (w:World):
  Calls Tryz.prog 100 #[.string s] w λx w'=>x=.returned (.func (.func 150) #[] #[.pointer (some ⟨w.heap.size,0,none⟩)])/\Bk w' w.heap.size 9 #[.string s]/\Below w.heap.size w w':=by
 go_enter Tryz.func100,Tryz.ntmps100;go_wp2;go_returns;exact⟨rfl,Bk.new _ _ _,(Vae _ _).alloc UZz _⟩
theorem Z1y (w:World):
  Calls Tryz.prog 62 #[] w λx w'=>∃R b1 b2 b3,x=.returned (.slice (some ⟨R,0,none⟩) 4 4)/\Bk w' R 84 (knC b1 b2 b3)/\Bk w' b1 9 #[.string ⟨#[48]⟩]/\Bk w' b2 9 #[.string ⟨#[]⟩]/\Bk w' b3 9 #[.string ⟨#[]⟩]/\Below w.heap.size w w':=by
 have Hs:=h_ (λs W=>Zfb s W);go_enter Tryz.func62,Tryz.ntmps62;go_wp2_with fail;refine(Hs.o _ _).mono ?_;rintro x w1 ⟨rfl,k1,a7⟩;have K1:=h_ k1;clear k1;go_wp2_with fail;refine(Hs.o _ _).mono ?_;rintro x w2 ⟨rfl,k2,a8⟩;have G7:=h_ (K1.out.below a8 K1.out.lt);have iz:=a7.trans (a8.mono a7.size);have K2:=h_ k2;clear k2 a8 K1 a7;go_wp2_with fail;refine(Hs.o _ _).mono ?_;rintro x w3 ⟨rfl,k3,af⟩;have K1:=h_ ((G7.out.below af G7.out.lt).alloc (.cells (knC w.heap.size w1.heap.size w2.heap.size) 84));have Rs:=h_ ((K2.out.below af K2.out.lt).alloc (.cells (knC w.heap.size w1.heap.size w2.heap.size) 84));have K3:=h_ (k3.alloc (.cells (knC w.heap.size w1.heap.size w2.heap.size) 84));have hb:=iz.trans (af.mono iz.size);have HB:=h_ (hb.alloc hb.size (.cells (knC w.heap.size w1.heap.size w2.heap.size) 84));clear hb iz af k3 K2 G7;go_wp2;go_returns;exact⟨_,_,_,_,rfl,Bk.new _ _ _,K1.out,Rs.out,K3.out,HB.o⟩
def kcOf (n b:Nat):Array Value:=match n with
 |0=> #[.int .i64 1,.int .i64 128,.func (.func 75) #[] #[],.func (.func 94) #[] #[],.func (.func 96) #[] #[],.func (.func 97) #[] #[],.string ⟨#[98]⟩]
 |1=> #[.int .i64 0,.int .i64 0,.func (.func 98) #[] #[],.func (.func 150) #[] #[.pointer (some ⟨b,0,none⟩)],.func (.func 101) #[] #[],.func (.func 103) #[] #[],.string ⟨#[114]⟩]
 |2=> #[.int .i64 0,.int .i64 0,.func (.func 104) #[] #[],.func (.func 150) #[] #[.pointer (some ⟨b,0,none⟩)],.func (.func 105) #[] #[],.func (.func 107) #[] #[],.string ⟨#[115]⟩]
 |_=> #[.int .i64 0,.int .i64 0,.func (.func 108) #[] #[],.func (.func 150) #[] #[.pointer (some ⟨b,0,none⟩)],.func (.func 109) #[] #[],.func (.func 110) #[] #[],.string ⟨#[]⟩]
def iniB (n:Nat):ByteArray:=if n=1 then⟨#[48]⟩ else⟨#[]⟩
def zkC:Array Value:= #[.int .i64 0,.int .i64 0,.nilFunc,.nilFunc,.nilFunc,.nilFunc,.string ⟨#[]⟩]
def KdR (w':World) (n:Int) (kc:Array Value):Prop:=((n<0\/4<=n)/\kc=zkC)\/(0<=n/\n<4/\∃b,kc=kcOf n.toNat b/\Bk w' b 9 #[.string (iniB n.toNat)])
theorem ZgT {n wd:Int} (h:n<0\/4<=n):tyB (n,wd)=false:=by
 unfold tyB;simp only;rw[Vai (show ¬n=0 by omega),Vai (show ¬n=1 by omega),Vai (show ¬n=2 by omega),Vai (show ¬n=3 by omega)];rfl
theorem Zki {w W:World} (hb:Below (w.alloc (.cells zkC 84)).heap.size (w.alloc (.cells zkC 84)) W):
  (W.cell? ⟨w.heap.size,0,none⟩=some (.int .i64 0)/\W.cell? ⟨w.heap.size,1,none⟩=some (.int .i64 0)/\W.cell? ⟨w.heap.size,2,none⟩=some .nilFunc/\W.cell? ⟨w.heap.size,3,none⟩=some .nilFunc/\W.cell? ⟨w.heap.size,4,none⟩=some .nilFunc/\W.cell? ⟨w.heap.size,5,none⟩=some .nilFunc/\W.cell? ⟨w.heap.size,6,none⟩=some (.string ⟨#[]⟩))/\
  (W.frozen? ⟨w.heap.size,0,none⟩=false/\W.frozen? ⟨w.heap.size,1,none⟩=false/\W.frozen? ⟨w.heap.size,2,none⟩=false/\W.frozen? ⟨w.heap.size,3,none⟩=false/\W.frozen? ⟨w.heap.size,4,none⟩=false/\W.frozen? ⟨w.heap.size,5,none⟩=false/\W.frozen? ⟨w.heap.size,6,none⟩=false)/\Bk W w.heap.size 84 zkC/\Below w.heap.size w W:=by
 have h0:=(Bk.new w 84 zkC).below hb (by simp);have hB:=((Vae w.heap.size w).alloc UZz (.cells zkC 84)).trans (hb.mono (by simp));exact⟨⟨h0.cell 0,h0.cell 1,h0.cell 2,h0.cell 3,h0.cell 4,h0.cell 5,h0.cell 6⟩,⟨h0.frozen 0,h0.frozen 1,h0.frozen 2,h0.frozen 3,h0.frozen 4,h0.frozen 5,h0.frozen 6⟩,h0,hB⟩
theorem Bk.apart2 {w W:World} {R:Nat} {a b c:Nat} (h:Bk W R 84 (knC a b c)) (h2:Bk W w.heap.size 84 zkC):R≠w.heap.size:=by
 rintro rfl;unfold Bk at h h2;rw[h] at h2;injection h2 with h2;injection h2 with h3 h4;have:=congrArg Array.size h3;simp[knC,zkC] at this
theorem Bk.seven {w:World} {g N:Nat} {t:TypeId} {cs:Array Value} (h:Bk w g t cs) (hn:g≠N) (a0 a1 a2 a3 a4 a5 a6:Value):Bk (((((((w.setCell ⟨N,0,none⟩ a0).setCell ⟨N,1,none⟩ a1).setCell ⟨N,2,none⟩ a2).setCell ⟨N,3,none⟩ a3).setCell ⟨N,4,none⟩ a4).setCell ⟨N,5,none⟩ a5).setCell ⟨N,6,none⟩ a6) g t cs:=
 ((((((h.off (p:=⟨N,0,none⟩) hn _).off (p:=⟨N,1,none⟩) hn _).off (p:=⟨N,2,none⟩) hn _).off (p:=⟨N,3,none⟩) hn _).off (p:=⟨N,4,none⟩) hn _).off (p:=⟨N,5,none⟩) hn _).off (p:=⟨N,6,none⟩) hn _
theorem ZbU (n wd:Int) (w:World):
  Calls Tryz.prog 43 #[.int .i64 n,.int .i64 wd] w λx w'=>∃kc,x=.returned (.tuple #[.agg kc,.bool (tyB (n,wd))])/\KdR w' n kc/\Below w.heap.size w w':=by
 have Hk:=h_ (λW=>Z1y W);have Hr:=h_ (λW hb=>Zki (w:=w) (W:=W) hb);unfold zkC at Hr;by_cases bw:n<0\/4<=n
 ·have hty:=ZgT (wd:=wd) bw;have hR:Hid (∀w',Below w.heap.size w w'->KdR w' n zkC):=h_ (λw' _=>Or.inl ⟨bw,rfl⟩);rw[hty];unfold zkC at hR;have hc:n<0\/(¬n<0/\4<=n):=(by omega);rcases hc with hc|⟨hc,dI⟩
  all_goals
   clear bw hty;go_enter Tryz.func43,Tryz.ntmps43;go_wp2_with fail;refine(Hk.o _).mono ?_;rintro x w1 ⟨R,b1,b2,b3,rfl,dN,aZ,cL,eJ,a7⟩;obtain⟨⟨c0,c1,c2,c3,c4,c5,c6⟩,⟨f0,f1,f2,f3,f4,f5,f6⟩,hz,hB⟩:=Hr.o _ a7;have hF:=((((((hz.put 0 (.int .i64 0)).put 1 (.int .i64 0)).put 2 .nilFunc).put 3 .nilFunc).put 4 .nilFunc).put 5 .nilFunc).put 6 (.string ⟨#[]⟩);have z0:=hF.cell 0;have z1:=hF.cell 1;have z2:=hF.cell 2;have z3:=hF.cell 3;have z4:=hF.cell 4;have z5:=hF.cell 5;have z6:=hF.cell 6;unfold zkC at z0 z1 z2 z3 z4 z5 z6;simp at z0 z1 z2 z3 z4 z5 z6;have HB:=h_ ((((((((hB.setCell (p:=⟨w.heap.size,0,none⟩) UZz (.int .i64 0)).setCell (p:=⟨w.heap.size,1,none⟩) UZz (.int .i64 0)).setCell (p:=⟨w.heap.size,2,none⟩) UZz .nilFunc).setCell (p:=⟨w.heap.size,3,none⟩) UZz .nilFunc).setCell (p:=⟨w.heap.size,4,none⟩) UZz .nilFunc).setCell (p:=⟨w.heap.size,5,none⟩) UZz .nilFunc).setCell (p:=⟨w.heap.size,6,none⟩) UZz (.string ⟨#[]⟩)));clear hF hz hB a7 dN aZ cL eJ Hr Hk;go_wp2_with ((with_reducible show bodyPost _ _ _ _ _ _);refine bodyPost_ret (v:=.tuple #[.agg #[.int .i64 0,.int .i64 0,.nilFunc,.nilFunc,.nilFunc,.nilFunc,.string ⟨#[]⟩],.bool false]) (by simp[results,Tryz.results43,go_sem,z0,z1,z2,z3,z4,z5,z6];try rfl) rfl ?_;exact⟨_,rfl,hR.o _ HB.o,HB.o⟩)
 ·have bo:n=0\/n=1\/n=2\/n=3:=(by omega);rcases bo with rfl|rfl|rfl|rfl
  ·clear bw;go_enter Tryz.func43,Tryz.ntmps43;go_wp2_with fail;refine(Hk.o _).mono ?_;rintro x w1 ⟨R,b1,b2,b3,rfl,dN,aZ,cL,eJ,a7⟩;obtain⟨⟨c0,c1,c2,c3,c4,c5,c6⟩,⟨f0,f1,f2,f3,f4,f5,f6⟩,hz,hB⟩:=Hr.o _ a7;have G8:R≠w.heap.size:=Bk.apart2 dN hz;have q0:w1.cell? ⟨R,0,none⟩=some (.int .i64 1):=dN.cell 0;have q1:w1.cell? ⟨R,1,none⟩=some (.int .i64 128):=dN.cell 1;have q2:w1.cell? ⟨R,2,none⟩=some (.func (.func 75) #[] #[]):=dN.cell 2;have q3:w1.cell? ⟨R,3,none⟩=some (.func (.func 94) #[] #[]):=dN.cell 3;have q4:w1.cell? ⟨R,4,none⟩=some (.func (.func 96) #[] #[]):=dN.cell 4;have q5:w1.cell? ⟨R,5,none⟩=some (.func (.func 97) #[] #[]):=dN.cell 5;have q6:w1.cell? ⟨R,6,none⟩=some (.string ⟨#[98]⟩):=dN.cell 6;have hF:=Bk.drew (((((((hz.put 0 (.int .i64 1)).put 1 (.int .i64 128)).put 2 (.func (.func 75) #[] #[])).put 3 (.func (.func 94) #[] #[])).put 4 (.func (.func 96) #[] #[])).put 5 (.func (.func 97) #[] #[])).put 6 (.string ⟨#[98]⟩));have z0:=hF.cell 0;have z1:=hF.cell 1;have z2:=hF.cell 2;have z3:=hF.cell 3;have z4:=hF.cell 4;have z5:=hF.cell 5;have z6:=hF.cell 6;unfold zkC at z0 z1 z2 z3 z4 z5 z6;simp at z0 z1 z2 z3 z4 z5 z6;have HB:=h_ ((((((((hB.setCell (p:=⟨w.heap.size,0,none⟩) UZz (.int .i64 1)).setCell (p:=⟨w.heap.size,1,none⟩) UZz (.int .i64 128)).setCell (p:=⟨w.heap.size,2,none⟩) UZz (.func (.func 75) #[] #[])).setCell (p:=⟨w.heap.size,3,none⟩) UZz (.func (.func 94) #[] #[])).setCell (p:=⟨w.heap.size,4,none⟩) UZz (.func (.func 96) #[] #[])).setCell (p:=⟨w.heap.size,5,none⟩) UZz (.func (.func 97) #[] #[])).setCell (p:=⟨w.heap.size,6,none⟩) UZz (.string ⟨#[98]⟩)).drew);have HK:=h_ (Bk.drew (Bk.seven cL (Bk.apart cL hz (by decide)) (.int .i64 1) (.int .i64 128) (.func (.func 75) #[] #[]) (.func (.func 94) #[] #[]) (.func (.func 96) #[] #[]) (.func (.func 97) #[] #[]) (.string ⟨#[98]⟩)));have HR:Hid (∀(b:Bool),(tyB (0,wd)=b)->∀w',Below w.heap.size w w'->Bk w' b2 9 #[.string (iniB 0)]->Ending.returned (.tuple #[.agg #[(.int .i64 1),(.int .i64 128),(.func (.func 75) #[] #[]),(.func (.func 94) #[] #[]),(.func (.func 96) #[] #[]),(.func (.func 97) #[] #[]),(.string ⟨#[98]⟩)],.bool b])=Ending.returned (.tuple #[.agg #[(.int .i64 1),(.int .i64 128),(.func (.func 75) #[] #[]),(.func (.func 94) #[] #[]),(.func (.func 96) #[] #[]),(.func (.func 97) #[] #[]),(.string ⟨#[98]⟩)],.bool (tyB (0,wd))])/\KdR w' 0 #[(.int .i64 1),(.int .i64 128),(.func (.func 75) #[] #[]),(.func (.func 94) #[] #[]),(.func (.func 96) #[] #[]),(.func (.func 97) #[] #[]),(.string ⟨#[98]⟩)]/\Below w.heap.size w w'):=h_ (λb hb w' h1 h2=>⟨by rw[hb],Or.inr ⟨by decide,by decide,b2,rfl,h2⟩,h1⟩);clear hF hz hB a7 dN aZ cL eJ Hr Hk;by_cases jl:(1:Int)<=wd
   ·by_cases lR:wd<=128
    ·have d1:decide ((1:Int)<=wd)=true:=Vao jl;have d2:decide (wd<=128)=true:=Vao lR;have gB:Hid (tyB (0,wd)=true):=h_ (by unfold tyB;simp;omega);go_wp2;go_region
     all_goals
      go_wp2_with ((with_reducible show bodyPost _ _ _ _ _ _);refine bodyPost_ret (v:=.tuple #[.agg #[(.int .i64 1),(.int .i64 128),(.func (.func 75) #[] #[]),(.func (.func 94) #[] #[]),(.func (.func 96) #[] #[]),(.func (.func 97) #[] #[]),(.string ⟨#[98]⟩)],.bool true]) (by simp[results,Tryz.results43,go_sem,z0,z1,z2,z3,z4,z5,z6];try rfl) rfl ?_;exact⟨_,HR.o _ gB.o _ HB.o HK.o⟩)
    ·have d1:decide ((1:Int)<=wd)=true:=Vao jl;have d2:decide (wd<=128)=false:=Vai lR;have gB:Hid (tyB (0,wd)=false):=h_ (by unfold tyB;simp;omega);go_wp2;go_region
     all_goals
      go_wp2_with ((with_reducible show bodyPost _ _ _ _ _ _);refine bodyPost_ret (v:=.tuple #[.agg #[(.int .i64 1),(.int .i64 128),(.func (.func 75) #[] #[]),(.func (.func 94) #[] #[]),(.func (.func 96) #[] #[]),(.func (.func 97) #[] #[]),(.string ⟨#[98]⟩)],.bool false]) (by simp[results,Tryz.results43,go_sem,z0,z1,z2,z3,z4,z5,z6];try rfl) rfl ?_;exact⟨_,HR.o _ gB.o _ HB.o HK.o⟩)
   ·have d1:decide ((1:Int)<=wd)=false:=Vai jl;have gB:Hid (tyB (0,wd)=false):=h_ (by unfold tyB;simp;omega);go_wp2;go_region
    all_goals
     go_wp2_with ((with_reducible show bodyPost _ _ _ _ _ _);refine bodyPost_ret (v:=.tuple #[.agg #[(.int .i64 1),(.int .i64 128),(.func (.func 75) #[] #[]),(.func (.func 94) #[] #[]),(.func (.func 96) #[] #[]),(.func (.func 97) #[] #[]),(.string ⟨#[98]⟩)],.bool false]) (by simp[results,Tryz.results43,go_sem,z0,z1,z2,z3,z4,z5,z6];try rfl) rfl ?_;exact⟨_,HR.o _ gB.o _ HB.o HK.o⟩)
  ·clear bw;go_enter Tryz.func43,Tryz.ntmps43;go_wp2_with fail;refine(Hk.o _).mono ?_;rintro x w1 ⟨R,b1,b2,b3,rfl,dN,aZ,cL,eJ,a7⟩;obtain⟨⟨c0,c1,c2,c3,c4,c5,c6⟩,⟨f0,f1,f2,f3,f4,f5,f6⟩,hz,hB⟩:=Hr.o _ a7;have G8:R≠w.heap.size:=Bk.apart2 dN hz;have q0:w1.cell? ⟨R,7,none⟩=some (.int .i64 0):=dN.cell 7;have q1:w1.cell? ⟨R,8,none⟩=some (.int .i64 0):=dN.cell 8;have q2:w1.cell? ⟨R,9,none⟩=some (.func (.func 98) #[] #[]):=dN.cell 9;have q3:w1.cell? ⟨R,10,none⟩=some (.func (.func 150) #[] #[.pointer (some ⟨b1,0,none⟩)]):=dN.cell 10;have q4:w1.cell? ⟨R,11,none⟩=some (.func (.func 101) #[] #[]):=dN.cell 11;have q5:w1.cell? ⟨R,12,none⟩=some (.func (.func 103) #[] #[]):=dN.cell 12;have q6:w1.cell? ⟨R,13,none⟩=some (.string ⟨#[114]⟩):=dN.cell 13;have hF:=Bk.drew (((((((hz.put 0 (.int .i64 0)).put 1 (.int .i64 0)).put 2 (.func (.func 98) #[] #[])).put 3 (.func (.func 150) #[] #[.pointer (some ⟨b1,0,none⟩)])).put 4 (.func (.func 101) #[] #[])).put 5 (.func (.func 103) #[] #[])).put 6 (.string ⟨#[114]⟩));have z0:=hF.cell 0;have z1:=hF.cell 1;have z2:=hF.cell 2;have z3:=hF.cell 3;have z4:=hF.cell 4;have z5:=hF.cell 5;have z6:=hF.cell 6;unfold zkC at z0 z1 z2 z3 z4 z5 z6;simp at z0 z1 z2 z3 z4 z5 z6;have HB:=h_ ((((((((hB.setCell (p:=⟨w.heap.size,0,none⟩) UZz (.int .i64 0)).setCell (p:=⟨w.heap.size,1,none⟩) UZz (.int .i64 0)).setCell (p:=⟨w.heap.size,2,none⟩) UZz (.func (.func 98) #[] #[])).setCell (p:=⟨w.heap.size,3,none⟩) UZz (.func (.func 150) #[] #[.pointer (some ⟨b1,0,none⟩)])).setCell (p:=⟨w.heap.size,4,none⟩) UZz (.func (.func 101) #[] #[])).setCell (p:=⟨w.heap.size,5,none⟩) UZz (.func (.func 103) #[] #[])).setCell (p:=⟨w.heap.size,6,none⟩) UZz (.string ⟨#[114]⟩)).drew);have HK:=h_ (Bk.drew (Bk.seven aZ (Bk.apart aZ hz (by decide)) (.int .i64 0) (.int .i64 0) (.func (.func 98) #[] #[]) (.func (.func 150) #[] #[.pointer (some ⟨b1,0,none⟩)]) (.func (.func 101) #[] #[]) (.func (.func 103) #[] #[]) (.string ⟨#[114]⟩)));have HR:Hid (∀(b:Bool),(tyB (1,wd)=b)->∀w',Below w.heap.size w w'->Bk w' b1 9 #[.string (iniB 1)]->Ending.returned (.tuple #[.agg #[(.int .i64 0),(.int .i64 0),(.func (.func 98) #[] #[]),(.func (.func 150) #[] #[.pointer (some ⟨b1,0,none⟩)]),(.func (.func 101) #[] #[]),(.func (.func 103) #[] #[]),(.string ⟨#[114]⟩)],.bool b])=Ending.returned (.tuple #[.agg #[(.int .i64 0),(.int .i64 0),(.func (.func 98) #[] #[]),(.func (.func 150) #[] #[.pointer (some ⟨b1,0,none⟩)]),(.func (.func 101) #[] #[]),(.func (.func 103) #[] #[]),(.string ⟨#[114]⟩)],.bool (tyB (1,wd))])/\KdR w' 1 #[(.int .i64 0),(.int .i64 0),(.func (.func 98) #[] #[]),(.func (.func 150) #[] #[.pointer (some ⟨b1,0,none⟩)]),(.func (.func 101) #[] #[]),(.func (.func 103) #[] #[]),(.string ⟨#[114]⟩)]/\Below w.heap.size w w'):=h_ (λb hb w' h1 h2=>⟨by rw[hb],Or.inr ⟨by decide,by decide,b1,rfl,h2⟩,h1⟩);clear hF hz hB a7 dN aZ cL eJ Hr Hk;by_cases jl:(0:Int)<=wd
   ·by_cases lR:wd<=0
    ·have d1:decide ((0:Int)<=wd)=true:=Vao jl;have d2:decide (wd<=0)=true:=Vao lR;have gB:Hid (tyB (1,wd)=true):=h_ (by unfold tyB;simp;omega);go_wp2;go_region
     all_goals
      go_wp2_with ((with_reducible show bodyPost _ _ _ _ _ _);refine bodyPost_ret (v:=.tuple #[.agg #[(.int .i64 0),(.int .i64 0),(.func (.func 98) #[] #[]),(.func (.func 150) #[] #[.pointer (some ⟨b1,0,none⟩)]),(.func (.func 101) #[] #[]),(.func (.func 103) #[] #[]),(.string ⟨#[114]⟩)],.bool true]) (by simp[results,Tryz.results43,go_sem,z0,z1,z2,z3,z4,z5,z6];try rfl) rfl ?_;exact⟨_,HR.o _ gB.o _ HB.o HK.o⟩)
    ·have d1:decide ((0:Int)<=wd)=true:=Vao jl;have d2:decide (wd<=0)=false:=Vai lR;have gB:Hid (tyB (1,wd)=false):=h_ (by unfold tyB;simp;omega);go_wp2;go_region
     all_goals
      go_wp2_with ((with_reducible show bodyPost _ _ _ _ _ _);refine bodyPost_ret (v:=.tuple #[.agg #[(.int .i64 0),(.int .i64 0),(.func (.func 98) #[] #[]),(.func (.func 150) #[] #[.pointer (some ⟨b1,0,none⟩)]),(.func (.func 101) #[] #[]),(.func (.func 103) #[] #[]),(.string ⟨#[114]⟩)],.bool false]) (by simp[results,Tryz.results43,go_sem,z0,z1,z2,z3,z4,z5,z6];try rfl) rfl ?_;exact⟨_,HR.o _ gB.o _ HB.o HK.o⟩)
   ·have d1:decide ((0:Int)<=wd)=false:=Vai jl;have gB:Hid (tyB (1,wd)=false):=h_ (by unfold tyB;simp;omega);go_wp2;go_region
    all_goals
     go_wp2_with ((with_reducible show bodyPost _ _ _ _ _ _);refine bodyPost_ret (v:=.tuple #[.agg #[(.int .i64 0),(.int .i64 0),(.func (.func 98) #[] #[]),(.func (.func 150) #[] #[.pointer (some ⟨b1,0,none⟩)]),(.func (.func 101) #[] #[]),(.func (.func 103) #[] #[]),(.string ⟨#[114]⟩)],.bool false]) (by simp[results,Tryz.results43,go_sem,z0,z1,z2,z3,z4,z5,z6];try rfl) rfl ?_;exact⟨_,HR.o _ gB.o _ HB.o HK.o⟩)
  ·clear bw;go_enter Tryz.func43,Tryz.ntmps43;go_wp2_with fail;refine(Hk.o _).mono ?_;rintro x w1 ⟨R,b1,b2,b3,rfl,dN,aZ,cL,eJ,a7⟩;obtain⟨⟨c0,c1,c2,c3,c4,c5,c6⟩,⟨f0,f1,f2,f3,f4,f5,f6⟩,hz,hB⟩:=Hr.o _ a7;have G8:R≠w.heap.size:=Bk.apart2 dN hz;have q0:w1.cell? ⟨R,14,none⟩=some (.int .i64 0):=dN.cell 14;have q1:w1.cell? ⟨R,15,none⟩=some (.int .i64 0):=dN.cell 15;have q2:w1.cell? ⟨R,16,none⟩=some (.func (.func 104) #[] #[]):=dN.cell 16;have q3:w1.cell? ⟨R,17,none⟩=some (.func (.func 150) #[] #[.pointer (some ⟨b2,0,none⟩)]):=dN.cell 17;have q4:w1.cell? ⟨R,18,none⟩=some (.func (.func 105) #[] #[]):=dN.cell 18;have q5:w1.cell? ⟨R,19,none⟩=some (.func (.func 107) #[] #[]):=dN.cell 19;have q6:w1.cell? ⟨R,20,none⟩=some (.string ⟨#[115]⟩):=dN.cell 20;have hF:=Bk.drew (((((((hz.put 0 (.int .i64 0)).put 1 (.int .i64 0)).put 2 (.func (.func 104) #[] #[])).put 3 (.func (.func 150) #[] #[.pointer (some ⟨b2,0,none⟩)])).put 4 (.func (.func 105) #[] #[])).put 5 (.func (.func 107) #[] #[])).put 6 (.string ⟨#[115]⟩));have z0:=hF.cell 0;have z1:=hF.cell 1;have z2:=hF.cell 2;have z3:=hF.cell 3;have z4:=hF.cell 4;have z5:=hF.cell 5;have z6:=hF.cell 6;unfold zkC at z0 z1 z2 z3 z4 z5 z6;simp at z0 z1 z2 z3 z4 z5 z6;have HB:=h_ ((((((((hB.setCell (p:=⟨w.heap.size,0,none⟩) UZz (.int .i64 0)).setCell (p:=⟨w.heap.size,1,none⟩) UZz (.int .i64 0)).setCell (p:=⟨w.heap.size,2,none⟩) UZz (.func (.func 104) #[] #[])).setCell (p:=⟨w.heap.size,3,none⟩) UZz (.func (.func 150) #[] #[.pointer (some ⟨b2,0,none⟩)])).setCell (p:=⟨w.heap.size,4,none⟩) UZz (.func (.func 105) #[] #[])).setCell (p:=⟨w.heap.size,5,none⟩) UZz (.func (.func 107) #[] #[])).setCell (p:=⟨w.heap.size,6,none⟩) UZz (.string ⟨#[115]⟩)).drew);have HK:=h_ (Bk.drew (Bk.seven cL (Bk.apart cL hz (by decide)) (.int .i64 0) (.int .i64 0) (.func (.func 104) #[] #[]) (.func (.func 150) #[] #[.pointer (some ⟨b2,0,none⟩)]) (.func (.func 105) #[] #[]) (.func (.func 107) #[] #[]) (.string ⟨#[115]⟩)));have HR:Hid (∀(b:Bool),(tyB (2,wd)=b)->∀w',Below w.heap.size w w'->Bk w' b2 9 #[.string (iniB 2)]->Ending.returned (.tuple #[.agg #[(.int .i64 0),(.int .i64 0),(.func (.func 104) #[] #[]),(.func (.func 150) #[] #[.pointer (some ⟨b2,0,none⟩)]),(.func (.func 105) #[] #[]),(.func (.func 107) #[] #[]),(.string ⟨#[115]⟩)],.bool b])=Ending.returned (.tuple #[.agg #[(.int .i64 0),(.int .i64 0),(.func (.func 104) #[] #[]),(.func (.func 150) #[] #[.pointer (some ⟨b2,0,none⟩)]),(.func (.func 105) #[] #[]),(.func (.func 107) #[] #[]),(.string ⟨#[115]⟩)],.bool (tyB (2,wd))])/\KdR w' 2 #[(.int .i64 0),(.int .i64 0),(.func (.func 104) #[] #[]),(.func (.func 150) #[] #[.pointer (some ⟨b2,0,none⟩)]),(.func (.func 105) #[] #[]),(.func (.func 107) #[] #[]),(.string ⟨#[115]⟩)]/\Below w.heap.size w w'):=h_ (λb hb w' h1 h2=>⟨by rw[hb],Or.inr ⟨by decide,by decide,b2,rfl,h2⟩,h1⟩);clear hF hz hB a7 dN aZ cL eJ Hr Hk;by_cases jl:(0:Int)<=wd
   ·by_cases lR:wd<=0
    ·have d1:decide ((0:Int)<=wd)=true:=Vao jl;have d2:decide (wd<=0)=true:=Vao lR;have gB:Hid (tyB (2,wd)=true):=h_ (by unfold tyB;simp;omega);go_wp2;go_region
     all_goals
      go_wp2_with ((with_reducible show bodyPost _ _ _ _ _ _);refine bodyPost_ret (v:=.tuple #[.agg #[(.int .i64 0),(.int .i64 0),(.func (.func 104) #[] #[]),(.func (.func 150) #[] #[.pointer (some ⟨b2,0,none⟩)]),(.func (.func 105) #[] #[]),(.func (.func 107) #[] #[]),(.string ⟨#[115]⟩)],.bool true]) (by simp[results,Tryz.results43,go_sem,z0,z1,z2,z3,z4,z5,z6];try rfl) rfl ?_;exact⟨_,HR.o _ gB.o _ HB.o HK.o⟩)
    ·have d1:decide ((0:Int)<=wd)=true:=Vao jl;have d2:decide (wd<=0)=false:=Vai lR;have gB:Hid (tyB (2,wd)=false):=h_ (by unfold tyB;simp;omega);go_wp2;go_region
     all_goals
      go_wp2_with ((with_reducible show bodyPost _ _ _ _ _ _);refine bodyPost_ret (v:=.tuple #[.agg #[(.int .i64 0),(.int .i64 0),(.func (.func 104) #[] #[]),(.func (.func 150) #[] #[.pointer (some ⟨b2,0,none⟩)]),(.func (.func 105) #[] #[]),(.func (.func 107) #[] #[]),(.string ⟨#[115]⟩)],.bool false]) (by simp[results,Tryz.results43,go_sem,z0,z1,z2,z3,z4,z5,z6];try rfl) rfl ?_;exact⟨_,HR.o _ gB.o _ HB.o HK.o⟩)
   ·have d1:decide ((0:Int)<=wd)=false:=Vai jl;have gB:Hid (tyB (2,wd)=false):=h_ (by unfold tyB;simp;omega);go_wp2;go_region
    all_goals
     go_wp2_with ((with_reducible show bodyPost _ _ _ _ _ _);refine bodyPost_ret (v:=.tuple #[.agg #[(.int .i64 0),(.int .i64 0),(.func (.func 104) #[] #[]),(.func (.func 150) #[] #[.pointer (some ⟨b2,0,none⟩)]),(.func (.func 105) #[] #[]),(.func (.func 107) #[] #[]),(.string ⟨#[115]⟩)],.bool false]) (by simp[results,Tryz.results43,go_sem,z0,z1,z2,z3,z4,z5,z6];try rfl) rfl ?_;exact⟨_,HR.o _ gB.o _ HB.o HK.o⟩)
  ·clear bw;go_enter Tryz.func43,Tryz.ntmps43;go_wp2_with fail;refine(Hk.o _).mono ?_;rintro x w1 ⟨R,b1,b2,b3,rfl,dN,aZ,cL,eJ,a7⟩;obtain⟨⟨c0,c1,c2,c3,c4,c5,c6⟩,⟨f0,f1,f2,f3,f4,f5,f6⟩,hz,hB⟩:=Hr.o _ a7;have G8:R≠w.heap.size:=Bk.apart2 dN hz;have q0:w1.cell? ⟨R,21,none⟩=some (.int .i64 0):=dN.cell 21;have q1:w1.cell? ⟨R,22,none⟩=some (.int .i64 0):=dN.cell 22;have q2:w1.cell? ⟨R,23,none⟩=some (.func (.func 108) #[] #[]):=dN.cell 23;have q3:w1.cell? ⟨R,24,none⟩=some (.func (.func 150) #[] #[.pointer (some ⟨b3,0,none⟩)]):=dN.cell 24;have q4:w1.cell? ⟨R,25,none⟩=some (.func (.func 109) #[] #[]):=dN.cell 25;have q5:w1.cell? ⟨R,26,none⟩=some (.func (.func 110) #[] #[]):=dN.cell 26;have q6:w1.cell? ⟨R,27,none⟩=some (.string ⟨#[]⟩):=dN.cell 27;have hF:=Bk.drew (((((((hz.put 0 (.int .i64 0)).put 1 (.int .i64 0)).put 2 (.func (.func 108) #[] #[])).put 3 (.func (.func 150) #[] #[.pointer (some ⟨b3,0,none⟩)])).put 4 (.func (.func 109) #[] #[])).put 5 (.func (.func 110) #[] #[])).put 6 (.string ⟨#[]⟩));have z0:=hF.cell 0;have z1:=hF.cell 1;have z2:=hF.cell 2;have z3:=hF.cell 3;have z4:=hF.cell 4;have z5:=hF.cell 5;have z6:=hF.cell 6;unfold zkC at z0 z1 z2 z3 z4 z5 z6;simp at z0 z1 z2 z3 z4 z5 z6;have HB:=h_ ((((((((hB.setCell (p:=⟨w.heap.size,0,none⟩) UZz (.int .i64 0)).setCell (p:=⟨w.heap.size,1,none⟩) UZz (.int .i64 0)).setCell (p:=⟨w.heap.size,2,none⟩) UZz (.func (.func 108) #[] #[])).setCell (p:=⟨w.heap.size,3,none⟩) UZz (.func (.func 150) #[] #[.pointer (some ⟨b3,0,none⟩)])).setCell (p:=⟨w.heap.size,4,none⟩) UZz (.func (.func 109) #[] #[])).setCell (p:=⟨w.heap.size,5,none⟩) UZz (.func (.func 110) #[] #[])).setCell (p:=⟨w.heap.size,6,none⟩) UZz (.string ⟨#[]⟩)).drew);have HK:=h_ (Bk.drew (Bk.seven eJ (Bk.apart eJ hz (by decide)) (.int .i64 0) (.int .i64 0) (.func (.func 108) #[] #[]) (.func (.func 150) #[] #[.pointer (some ⟨b3,0,none⟩)]) (.func (.func 109) #[] #[]) (.func (.func 110) #[] #[]) (.string ⟨#[]⟩)));have HR:Hid (∀(b:Bool),(tyB (3,wd)=b)->∀w',Below w.heap.size w w'->Bk w' b3 9 #[.string (iniB 3)]->Ending.returned (.tuple #[.agg #[(.int .i64 0),(.int .i64 0),(.func (.func 108) #[] #[]),(.func (.func 150) #[] #[.pointer (some ⟨b3,0,none⟩)]),(.func (.func 109) #[] #[]),(.func (.func 110) #[] #[]),(.string ⟨#[]⟩)],.bool b])=Ending.returned (.tuple #[.agg #[(.int .i64 0),(.int .i64 0),(.func (.func 108) #[] #[]),(.func (.func 150) #[] #[.pointer (some ⟨b3,0,none⟩)]),(.func (.func 109) #[] #[]),(.func (.func 110) #[] #[]),(.string ⟨#[]⟩)],.bool (tyB (3,wd))])/\KdR w' 3 #[(.int .i64 0),(.int .i64 0),(.func (.func 108) #[] #[]),(.func (.func 150) #[] #[.pointer (some ⟨b3,0,none⟩)]),(.func (.func 109) #[] #[]),(.func (.func 110) #[] #[]),(.string ⟨#[]⟩)]/\Below w.heap.size w w'):=h_ (λb hb w' h1 h2=>⟨by rw[hb],Or.inr ⟨by decide,by decide,b3,rfl,h2⟩,h1⟩);clear hF hz hB a7 dN aZ cL eJ Hr Hk;by_cases jl:(0:Int)<=wd
   ·by_cases lR:wd<=0
    ·have d1:decide ((0:Int)<=wd)=true:=Vao jl;have d2:decide (wd<=0)=true:=Vao lR;have gB:Hid (tyB (3,wd)=true):=h_ (by unfold tyB;simp;omega);go_wp2;go_region
     all_goals
      go_wp2_with ((with_reducible show bodyPost _ _ _ _ _ _);refine bodyPost_ret (v:=.tuple #[.agg #[(.int .i64 0),(.int .i64 0),(.func (.func 108) #[] #[]),(.func (.func 150) #[] #[.pointer (some ⟨b3,0,none⟩)]),(.func (.func 109) #[] #[]),(.func (.func 110) #[] #[]),(.string ⟨#[]⟩)],.bool true]) (by simp[results,Tryz.results43,go_sem,z0,z1,z2,z3,z4,z5,z6];try rfl) rfl ?_;exact⟨_,HR.o _ gB.o _ HB.o HK.o⟩)
    ·have d1:decide ((0:Int)<=wd)=true:=Vao jl;have d2:decide (wd<=0)=false:=Vai lR;have gB:Hid (tyB (3,wd)=false):=h_ (by unfold tyB;simp;omega);go_wp2;go_region
     all_goals
      go_wp2_with ((with_reducible show bodyPost _ _ _ _ _ _);refine bodyPost_ret (v:=.tuple #[.agg #[(.int .i64 0),(.int .i64 0),(.func (.func 108) #[] #[]),(.func (.func 150) #[] #[.pointer (some ⟨b3,0,none⟩)]),(.func (.func 109) #[] #[]),(.func (.func 110) #[] #[]),(.string ⟨#[]⟩)],.bool false]) (by simp[results,Tryz.results43,go_sem,z0,z1,z2,z3,z4,z5,z6];try rfl) rfl ?_;exact⟨_,HR.o _ gB.o _ HB.o HK.o⟩)
   ·have d1:decide ((0:Int)<=wd)=false:=Vai jl;have gB:Hid (tyB (3,wd)=false):=h_ (by unfold tyB;simp;omega);go_wp2;go_region
    all_goals
     go_wp2_with ((with_reducible show bodyPost _ _ _ _ _ _);refine bodyPost_ret (v:=.tuple #[.agg #[(.int .i64 0),(.int .i64 0),(.func (.func 108) #[] #[]),(.func (.func 150) #[] #[.pointer (some ⟨b3,0,none⟩)]),(.func (.func 109) #[] #[]),(.func (.func 110) #[] #[]),(.string ⟨#[]⟩)],.bool false]) (by simp[results,Tryz.results43,go_sem,z0,z1,z2,z3,z4,z5,z6];try rfl) rfl ?_;exact⟨_,HR.o _ gB.o _ HB.o HK.o⟩)
end Go.Proofs.YtchokmkfobandaaGreatDoor
namespace Go.Proofs.YtchokmkfobandaaGreatDoor
open Go.RowKit Go.Proofs Wv Wv.Dc
def Z8X:List (String×DataW Unit):=[("math/bits.deBruijn32tab",Rows.laid_math_bits_deBruijn32tab),("math/bits.deBruijn64tab",Rows.laid_math_bits_deBruijn64tab),("internal/strconv.uint64pow10",Rows.laid_internal_strconv_uint64pow10),("unicode/utf8.acceptRanges",Rows.laid_unicode_utf8_acceptRanges),("unicode/utf8.first",Rows.laid_unicode_utf8_first)]
theorem Z4V {P:Program} {x:String×DataW Unit} {l:List (String×DataW Unit)} {W:World} (h:laidMet P (x::l) W):laidMet P l W:=by
 obtain⟨n,d⟩:=x;obtain⟨ps,⟨g,t,cs,fuel,p,q,h1,h2,h3,h4,h5,rfl⟩,hn,hr⟩:=h;refine⟨q,h5,(List.nodup_append.1 hn).2.1,λb off hp=>hr b off (List.mem_append_right _ hp)⟩
theorem Zfc {W:World} (h:laidMetH Tryz.prog Z8X W):Lib.TabIs Tryz.prog W "internal/strconv.uint64pow10" .u64 Lib.pow10Tab:=by
 rw[MakeChecks.laidMetH_plain _ _ _ (by kernel_rfl)] at h;have h2:=Z4V (Z4V h);exact Lib.tabIs_of_head (g:=1) (by kernel_rfl) (t:=348) (e:=288) (n:=20) (by kernel_rfl) (by kernel_rfl) (by kernel_rfl) (by kernel_rfl) (by kernel_rfl) h2
theorem ZbV {W W':World} (hb:Below W.heap.size W W') {cs:Array Value} (h:W.var? Tryz.prog "internal/strconv.uint64pow10" =some cs):W'.var? Tryz.prog "internal/strconv.uint64pow10" =W.var? Tryz.prog "internal/strconv.uint64pow10" :=by
 have hg:Tryz.prog.globalNamed "internal/strconv.uint64pow10" =some 1:=(by kernel_rfl);unfold World.var? at h⊢;rw[hg] at h⊢;simp only[Option.bind_some] at h⊢
 have ab:1<W.heap.size:=by
  rcases Nat.lt_or_ge 1 W.heap.size with h1|h1
  ·exact h1
  ·rw[Array.getElem?_eq_none h1] at h;cases h
 rw[hb.block _ ab]
theorem ZbW {W:World} (h:laidMetH Tryz.prog Z8X W):Tab W:=λW' hb=>by
 have h1:=Zfc h;unfold Lib.TabIs at h1⊢;rw[<-h1];exact ZbV hb h1
end Go.Proofs.YtchokmkfobandaaGreatDoor
namespace Wv
open Go Go.RowKit Go.Deep Go.ChangeShapes Go.WideShapes
def cv (l:List (Int×ByteArray)):List Value:=l.flatMap λx=>[iv x.1,sv x.2]
theorem Z4W (l:List (Int×ByteArray)):(cv l).length=l.length*2:=by
 induction l with
 |nil=>rfl
 |cons c D ih=>rw[show cv (c::D)=[iv c.1,sv c.2]++cv D from rfl,Vab,ih,Vaz];simp;omega
theorem ZgU (D:List (Int×ByteArray)):∀(i:Nat) (h:i<D.length),(cv D)[i*2]? =some (iv D[i].1)/\(cv D)[i*2+1]? =some (sv D[i].2):=by
 induction D with
 |nil=>intro i h;simp at h
 |cons c D ih=>
  intro i h;have e:cv (c::D)=[iv c.1,sv c.2]++cv D:=rfl;match i,h with
  |0,_=>exact⟨rfl,rfl⟩
  |i+1,h=>
   have h2:i<D.length:=(by simpa using h);rw[e,Vbc (by simp;omega),Vbc (by simp;omega)];have:=ih i h2;rw[show(i+1)*2-[iv c.1,sv c.2].length=i*2 from by simp;omega,show(i+1)*2+1-[iv c.1,sv c.2].length=i*2+1 from by simp;omega];exact this
def ChA (w:World) (A:Option Addr) (L:List (List (Int×ByteArray))):Prop:=
 ∀i (h:i<L.length),∃b o B cap,A=some ⟨b,o,none⟩/\b<w.heap.size/\w.cell? ⟨b,o+i,none⟩=some (.slice B L[i].length cap)/\At w B (cv L[i])/\L[i].length<=cap
theorem ChA.below {w w':World} {A:Option Addr} {L:List (List (Int×ByteArray))} (h:ChA w A L) (hb:Below w.heap.size w w'):ChA w' A L:=by
 intro i hi;obtain⟨b,o,B,cap,hA,ab,h1,h2,h3⟩:=h i hi;exact⟨b,o,B,cap,hA,Va5 ab hb.size,(hb.cell (p:=⟨b,_,none⟩) ab).trans h1,h2.below hb,h3⟩
section
variable {H:Type} {enc:TypeId×Value->H} {P:Program} {w:World} {base:Nat} {spare:Nat->Bool} {held:Bool}
theorem Zfd {t e i0 i1:TypeId} {f0 f1:Field} {fuel n cap:Nat} {A:Option Addr} {x:DataW H×List MemPlace} (ht:P.underlying t=some (.slice e)) (he:P.underlying e=some (.struct #[f0,f1]))
  (ce:P.cellsOf e=2) (o:f0.offset=0/\f1.offset=1) (tt:f0.type=i0/\f1.type=i1) (c0:P.cellsOf i0=1) (u0:P.underlying i0=some (.int .i64)) (c1:P.cellsOf i1=1) (u1:P.underlying i1=some .string)
  (h:DataW.trod enc P w base spare held fuel t [.slice A n cap]=some x):
  ∃l:List (Int×ByteArray),At w A (cv l)/\(∀c∈l,I64 c.1/\c.2.size<=9223372036854775807)/\n=l.length/\n<=9223372036854775807:=by
 obtain⟨o0,o1⟩:=o;obtain⟨t0,t1⟩:=tt;rcases open_slice ht h with ⟨h0,_⟩|⟨a,len,c,m,k,D,Pl,hcs,hb,hl,hm,jL,rfl,hx⟩
 ·simp at h0;obtain⟨rfl,rfl,rfl⟩:=h0;exact⟨[],At.nil _ _,by simp,rfl,by omega⟩
 ·simp at hcs;obtain⟨rfl,rfl,rfl⟩:=hcs;have VH:n<=m:=(by rw[jL];split<;>omega)
  have each:∀i,i<n->∃q:Int×ByteArray,(I64 q.1/\q.2.size<=9223372036854775807)/\w.cell? (a.add (i*2))=some (.int .i64 q.1)/\w.cell? (a.add (i*2+1))=some (.string q.2):=by
   intro i hi;obtain⟨Fa,h1,h2⟩:=hx i (by omega);rw[ce] at h1;obtain⟨_,hlen,hcell⟩:=World.cells?_some h1;obtain⟨xs,k',hk,VI,_,dR,hf⟩:=DataW.trod_struct he h2;match xs,dR,Fa,hlen with
   |[y0,y1],_,[v0,v1],_=>
    have g0:=hf 0 f0 rfl;have g1:=hf 1 f1 rfl;simp[o0,t0,c0] at g0;simp[o1,t1,c1] at g1;obtain⟨a0,r0,_,w0⟩:=DataW.trod_int u0 g0;obtain⟨a1,r1,_,w1⟩:=DataW.trod_string u1 g1;simp at r0 r1;subst r0 r1;have e0:=hcell 0 (by omega);have e1:=hcell 1 (by omega);rw[add_add] at e0 e1;exact⟨(a0,a1),⟨Z2E w0,by unfold maxLen at w1;omega⟩,by simpa using e0,by simpa using e1⟩
  have VJ:Inhabited (Int×ByteArray):=⟨(0,⟨#[]⟩)⟩;obtain⟨q,hq⟩:=choose_lt each;refine⟨(List.range n).map q,?_,?_,by simp,by unfold maxLen at hm;omega⟩
  ·intro i hi;rw[Z4W] at hi;obtain⟨j,hj⟩:∃j,i/2=j:=⟨_,rfl⟩;have Lu:j<n:=(by simp at hi;omega);obtain⟨_,q0,q1⟩:=hq j Lu;obtain⟨b,off,spot⟩:=a
   have zF:spot=none:=by
    obtain⟨_,z0,_⟩:=hq 0 (by omega);simpa [Addr.add] using World.cell?_spot z0
   subst zF;rw[add_plain] at q0 q1;refine⟨b,off,rfl,ZeG q0,?_⟩;obtain⟨p0,p1⟩:=ZgU ((List.range n).map q) j (by simpa using Lu);have hz:i=j*2\/i=j*2+1:=(by omega)
   have key:∀v,(cv ((List.range n).map q))[i]? =some v->w.cell? ⟨b,off+i,none⟩=some v->w.cell? ⟨b,off+i,none⟩=some ((cv ((List.range n).map q))[i]'(by rw[Z4W];exact hi)):=by
    intro v h1 h2;obtain⟨_,h3⟩:=List.getElem?_eq_some_iff.1 h1;rw[h3];exact h2
   rcases hz with hz|hz
   ·refine key (iv (q j).1) ?_ (by rw[hz];exact q0);rw[hz];simpa using p0
   ·refine key (sv (q j).2) ?_ (by rw[hz];exact q1);rw[hz];simpa using p1
  ·intro c hc;obtain⟨i,hi,rfl⟩:=Va6.1 hc;exact(hq i (List.mem_range.1 hi)).1
end
end Wv
