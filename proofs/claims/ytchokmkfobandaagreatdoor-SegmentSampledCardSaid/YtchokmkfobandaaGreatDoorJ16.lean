import Derived.Test.YtchokmkfobandaaGreatDoorJ14
import Derived.Test.YtchokmkfobandaaGreatDoorJ12
set_option linter.unusedVariables false
set_option linter.unusedSimpArgs false
set_option maxRecDepth 100000
set_option maxHeartbeats 8000000
namespace Go.Proofs.YtchokmkfobandaaGreatDoor
open Go.RowKit Go.Proofs Wv Wv.Vi Wv.Rc Wv.Mo Wv.Ru
theorem Z14 {w:World} {A:Option Addr} {l:List Int} (ha:At w A (ivs l)) (n cap:Nat) (hn:n=l.length) (hm:n<=9223372036854775807) (hb:chkn l≠0):
  Calls Tryz.prog 126 #[.slice A n cap,.func (.func 201) #[] #[]] w λx w'=>NRes w x w' ([],chkn l):=by
 have Ha:=h_ ha;have av:=h_ hn;have dq:Below w.heap.size w w:=Vae _ _;by_cases h9:4096<n
 ·have hc:Hid (chkn l=9):=h_ (by unfold chkn;rw[Vaf (by omega)]);have zw:(4096:Int)<(n:Int):=(by omega);clear ha hn hb h9;go_enter Tryz.func126,Tryz.ntmps126;go_wp2;go_returns;rw[hc.o];exact Qs 9 dq
 ·have hc:Hid (chkn l=2):=h_ (by
   unfold chkn at hb⊢;rw[Vad (by omega)] at hb⊢;by_cases h:∀n∈l,0<=n/\n<4096
   ·rw[Vaf h] at hb;exact absurd rfl hb
   ·rw[Vad h])
  have au:Hid (¬∀n∈l,0<=n/\n<4096):=h_ (by
   intro h;apply hb;exact Z1u (by omega) h)
  have zw:¬(4096:Int)<(n:Int):=(by omega);clear ha hn hb h9;go_enter Tryz.func126,Tryz.ntmps126;go_wp2;go_loop [7,19] (λ_ i=>∃k:Nat,k<=n/\i=.int .i64 k/\Hid (∀v∈l.take k,0<=v/\v<4096)) (λ_ i=>(n-intOf i).toNat);case atStart=>exact⟨0,by omega,rfl,h_ (by simp)⟩
  case round=>
   obtain⟨k,hk,rfl,ar⟩:=hrel;by_cases ab:k<n
   ·have bK:k<l.length:=(by rw[<-av.o];exact ab);obtain⟨v,hv⟩:∃v,l.getD k 0=v:=⟨_,rfl⟩;have cY:l[k]=v:=(by rw[<-hv];simp[List.getD,bK]);obtain⟨bA,oA,hA,ez,kR⟩:=Ha.o.get k (.int .i64 v) (by rw[Xq _ _ bK,hv]);subst hA;by_cases bH:0<=v/\v<4096
    ·obtain⟨o1,o2⟩:=bH;have o3:¬v<0:=(by omega);have o4:¬4096<=v:=(by omega)
     have df:Hid (∀u∈l.take (k+1),0<=u/\u<4096):=h_ (by
      intro u hu;rw[Vac bK,cY] at hu;rcases Va9.1 hu with h|h
      ·exact ar.o u h
      ·rw[Vax] at h;omega)
     clear hv cY;go_wp2;go_round;case rel=>exact⟨k+1,by omega,by go_num,df⟩
     case measure=>simp[intOf]<;>omega
    ·clear hv cY;by_cases o1:v<0
     ·clear bH;go_wp2;go_returns;rw[hc.o];exact Qs 2 dq
     ·have o2:4096<=v:=(by omega);clear bH;go_wp2;go_returns;rw[hc.o];exact Qs 2 dq
   ·exfalso;apply au.o;have:=ar.o
    rwa [Vah (by rw[<-av.o];omega)] at this
theorem Z1L {w:World} {A:Option Addr} {l:List Nat} (ha:At w A (ivs (l.map Int.ofNat))) (n cap:Nat) (hn:n=l.length) (hl:l.length<=4096) (hv:∀v∈l,v<4096):
  Calls Tryz.prog 126 #[.slice A n cap,.func (.func 201) #[] #[]] w λx w'=>NRes w x w' (ZY r0 l,0):=by
 have Ha:=h_ ha;have av:=h_ hn;have Hv:=h_ hv;have bo:n<=4096:=(by omega);have zw:¬(4096:Int)<(n:Int):=(by omega);have gg:=h_ (Zbt w);have nk:=h_ (λ(v:Nat) (h:v<4096)=>show v∈r0 from List.mem_range.2 h);have Dz:=h_ (show r0.length=4096 from Vbu);clear ha hn hv hl;go_enter Tryz.func126,Tryz.ntmps126;go_wp2;go_loop [7,19] (λ_ i=>∃k:Nat,k<=n/\i=.int .i64 k) (λ_ i=>(n-intOf i).toNat);case atStart=>exact⟨0,by omega,rfl⟩
 case round=>
  obtain⟨k,hk,rfl⟩:=hrel;by_cases ab:k<n
  ·have bK:k<l.length:=(by rw[<-av.o];exact ab);obtain⟨v,fe⟩:∃v,l.getD k 0=v:=⟨_,rfl⟩
   have kS:v<4096:=by
    have h1:l.getD k 0=l[k]:=(by simp[List.getD,bK]);rw[<-fe,h1];exact Hv.o _ (Vak _)
   obtain⟨bA,oA,hA,ez,kR⟩:=Ha.o.get k (.int .i64 (v:Int)) (by
    rw[Xq _ _ (by rw[Vag];exact bK)];have h1:(l.map Int.ofNat).getD k 0=((l.getD k 0:Nat):Int):=(by simp[List.getD,bK]);rw[h1,fe])
   subst hA;have o3:¬(v:Int)<0:=(by omega);have o4:¬(4096:Int)<=(v:Int):=(by omega);clear fe kS;go_wp2;go_round;case rel=>exact⟨k+1,by omega,by go_num⟩
   case measure=>simp[intOf]<;>omega
  ·have eH:k=n:=(by omega);subst eH;go_wp2_with fail;refine(gg.o).mono ?_;rintro x w1 ⟨rfl,cF,a7⟩;have aM:=a7.size;have bG:=Yg (P:=Tryz.prog) 31 3 _ _ Tryz.underlying31 ZQ rfl (k:Int) k rfl (by omega) (by omega) w1;rw[<-Z1K] at bG;have fj:=Ha.o.below a7;have dc:=cF.lt;have bP:=cF.alloc (.cells (nc (List.replicate k 0)) 3);have a8:=a7.alloc aM (.cells (nc (List.replicate k 0)) 3);have mM:=fj.alloc (.cells (nc (List.replicate k 0)) 3);have dD:=Bk.new w1 3 (nc (List.replicate k 0));have Hs:=h_ (show w.heap.size<w1.heap.size/\w.heap.size≠w1.heap.size from⟨by omega,by omega⟩);clear cF a7 fj;go_wp2;go_loopw [8,10,11,12,13,36] (λs8 _ _ _ _ i wr=>∃j:Nat,j<=k/\i=.int .i64 j/\s8=.slice (some ⟨w.heap.size,0,none⟩) 4096 4096/\Bk wr w.heap.size 3 (nc (rowU r0 (l.take j)))/\Bk wr w1.heap.size 3 (nc (ZY r0 (l.take j)++List.replicate (k-j) 0))/\At wr A (ivs (l.map Int.ofNat))/\Below w.heap.size w wr) (λ_ _ _ _ _ i _=>(k-intOf i).toNat);case atStart=>exact⟨0,by omega,rfl,rfl,bP,dD,mM,a8⟩
   case round=>
    clear bP dD mM a8 bG;obtain⟨j,hj,rfl,rfl,aX,bw,ak,hf⟩:=hrel;have gM:∀m∈l.take j,m<4096:=λm hm=>Hv.o m (Vcd hm);by_cases bQ:j<k
    ·have bK:j<l.length:=(by rw[<-av.o];exact bQ);obtain⟨v,fe⟩:∃v,l.getD j 0=v:=⟨_,rfl⟩
     have kS:v<4096:=by
      have h1:l.getD j 0=l[j]:=(by simp[List.getD,bK]);rw[<-fe,h1];exact Hv.o _ (Vak _)
     obtain⟨bA,oA,hA,ez,kR⟩:=ak.get j (.int .i64 (v:Int)) (by
      rw[Xq _ _ (by rw[Vag];exact bK)];have h1:(l.map Int.ofNat).getD j 0=((l.getD j 0:Nat):Int):=(by simp[List.getD,bK]);rw[h1,fe])
     subst hA;obtain⟨ns,r8⟩:=Z3K (l.take j) v r0;rw[<-fe,<-Z2G l j bK,fe] at ns r8;have fD:=YX (l.take j) r0;rw[Vau,Nat.min_eq_left (by omega)] at fD;have fq:(rowU r0 (l.take j)).length=4096:=(Zi4 (l.take j) r0 (λm hm=>by rw[Dz.o];exact gM m hm)).trans Dz.o;have kT:True:=trivial;obtain⟨R,hR⟩:∃R,rowU r0 (l.take j)=R:=⟨_,rfl⟩;obtain⟨O,hO⟩:∃O,ZY r0 (l.take j)=O:=⟨_,rfl⟩;rw[hR] at ns r8 aX fq;rw[hO] at ns bw fD;have aT:=h_ (Z4M aX fq v kS);obtain⟨pl,pg⟩:∃pl,R.getD v 0=pl:=⟨_,rfl⟩;rw[pg] at ns aT;clear pg;have vk:=h_ ns;have vn:=h_ r8;have ph:=h_ aX;have dx:=Z7A O k pl (by omega);rw[fD] at dx;have aW:=h_ dx;have aj:=bw.put j (.int .i64 ((pl:Nat):Int));rw[QD,aW.o] at aj;have fS:(O++List.replicate (k-j) 0).length=k:=(by rw[Vab,Vaw];omega);obtain⟨y0,bO⟩:∃y0:Int,wr.cell? ⟨w1.heap.size,j,none⟩=some (.int .i64 y0):=⟨_,by rw[bw.cell,X0 _ _ (by omega)]⟩;have zu:=bw.frozen j;have eI:=aX.off (p:=⟨w1.heap.size,j,none⟩) (Hs.o.2) (.int .i64 ((pl:Nat):Int));have aO:=hf.setCell (p:=⟨w1.heap.size,j,none⟩) (Nat.le_of_lt Hs.o.1) (.int .i64 ((pl:Nat):Int));have FX:=h_ (Z7z eI fq v (by exact kS));have aA:=h_ aj;have gN:=h_ aO;clear ns r8 dx aj fS aX bw hR hO fe fD gM eI aO ak hf fq kT;go_wp2_with fail;refine(aT.o).mono ?_;rintro x w3 ⟨rfl,rfl⟩;go_wp2_with fail;refine(FX.o).mono ?_;rintro x w4 ⟨rfl,gO,aF⟩;have pj:=aA.o.fr aF (λe=>Hs.o.2 e.symm);have ax:Below w.heap.size w w4:=gN.o.trans (aF.toBelow' gN.o.size (λi hi e=>by have:i=w.heap.size:=e;omega));have zp:=Ha.o.below ax;go_wp2;go_roundw;case rel=>exact⟨j+1,by omega,by go_num,rfl,by rw[vn.o];exact gO,by rw[vk.o];exact pj,zp,ax⟩
     case measure=>simp[intOf]<;>omega
    ·have qT:j=k:=(by omega);subst qT;have ay:l.take j=l:=Vah (by rw[<-av.o];exact UZz);rw[ay,Va7,List.replicate_zero,Va3] at bw;have bL:=h_ bw.at_;have fD:=h_ (YX l r0);clear aX bw ak ay gM;go_wp2;go_returns;have h9:=bL.o;rw[ZgQ] at h9;exact⟨.slice (some ⟨w1.heap.size,0,none⟩) j j,rfl,⟨some ⟨w1.heap.size,0,none⟩,j,by rw[Vag,fD.o,<-av.o],h9⟩,hf⟩
theorem Z0b {l:List Int} (h:∀n∈l,0<=n/\n<4096):(l.map Int.toNat).map Int.ofNat=l:=by
 rw[Vb8];refine(List.map_congr_left λn hn=> ?_).trans (List.map_id l);exact Int.toNat_of_nonneg (h n hn).1
theorem Z8P {w:World} {A:Option Addr} {l:List Int} (ha:At w A (ivs l)) (n cap:Nat) (hn:n=l.length) (hm:n<=9223372036854775807):
  Calls Tryz.prog 126 #[.slice A n cap,.func (.func 127) #[] #[]] w λx w'=>NRes w x w' (front l):=by
 by_cases hc:chkn l=0
 ·obtain⟨h1,h2⟩:=Z18 hc;have e:=Z0b h2;have hf:front l=(Y7 r0 (l.map Int.toNat),0):=(by unfold front;rw[Vaf hc]);rw[hf]
  exact Z3L (by rw[e];exact ha) n cap (by rw[Vag];exact hn) (by rw[Vag];exact h1) (λv hv=>by
   obtain⟨u,hu,rfl⟩:=Va6.1 hv;have:=h2 u hu;omega)
 ·have hf:front l=([],chkn l):=(by unfold front;rw[Vad hc]);rw[hf];exact Z2q ha n cap hn hm hc
theorem Z4N {w:World} {A:Option Addr} {l:List Int} (ha:At w A (ivs l)) (n cap:Nat) (hn:n=l.length) (hm:n<=9223372036854775807):
  Calls Tryz.prog 126 #[.slice A n cap,.func (.func 201) #[] #[]] w λx w'=>NRes w x w' (ZL l):=by
 by_cases hc:chkn l=0
 ·obtain⟨h1,h2⟩:=Z18 hc;have e:=Z0b h2;have hf:ZL l=(ZY r0 (l.map Int.toNat),0):=(by unfold ZL;rw[Vaf hc]);rw[hf]
  exact Z1L (by rw[e];exact ha) n cap (by rw[Vag];exact hn) (by rw[Vag];exact h1) (λv hv=>by
   obtain⟨u,hu,rfl⟩:=Va6.1 hv;have:=h2 u hu;omega)
 ·have hf:ZL l=([],chkn l):=(by unfold ZL;rw[Vad hc]);rw[hf];exact Z14 ha n cap hn hm hc
theorem Z8Q {w:World} {A:Option Addr} {l:List Int} (ha:At w A (ivs l)) (n cap:Nat) (hn:n=l.length) (hm:n<=9223372036854775807):
  Calls Tryz.prog 81 #[.slice A n cap] w λx w'=>NRes w x w' (front l):=by
 have H:=h_ (Z8P ha n cap hn hm);generalize front l=r at*;clear ha hn;go_enter Tryz.func81,Tryz.ntmps81;go_wp2_with fail;refine(H.o).mono ?_;rintro x w1 ⟨v,rfl,hi,hb⟩;go_wp2;go_returns;exact⟨v,rfl,hi,hb⟩
theorem Z4O {w:World} {A:Option Addr} {l:List Int} (ha:At w A (ivs l)) (n cap:Nat) (hn:n=l.length) (hm:n<=9223372036854775807):
  Calls Tryz.prog 154 #[.slice A n cap] w λx w'=>NRes w x w' (ZL l):=by
 have H:=h_ (Z4N ha n cap hn hm);generalize ZL l=r at*;clear ha hn;go_enter Tryz.func154,Tryz.ntmps154;go_wp2_with fail;refine(H.o).mono ?_;rintro x w1 ⟨v,rfl,hi,hb⟩;go_wp2;go_returns;exact⟨v,rfl,hi,hb⟩
def svs (l:List ByteArray):List Value:=l.map sv
theorem Yr (l:List ByteArray) (i:Nat) (h:i<l.length):(svs l)[i]? =some (.string l[i]):=by
 simp[svs,sv,Van h]
theorem Zbx (s:ByteArray) (hs:s.size<=9223372036854775807) (w:World):
  Calls Tryz.prog 78 #[.string s] w λx w'=>x=.returned (.bool (decide (128<s.size)))/\w=w':=by
 have h:=h_ (show decide ((128:Int)<(s.size:Int))=decide (128<s.size) from by
  rw[Vbl,Vas,Vas];omega)
 go_enter Tryz.func78,Tryz.ntmps78;go_wp2;go_ret;exact⟨Z4 h.o,rfl⟩
def Zle (w:World) (L:Bool) (x:Ending) (w':World):Prop:=((∃k:Nat,k<=4096/\L=true/\x=.returned (.int .i64 k))\/(L=false/\x=.returned (.int .i64 (-1))))/\w=w'
def Z67 (l:List ByteArray):Bool:=decide (∃s∈l,128<s.size)
theorem Z7B {w:World} {A:Option Addr} {l:List ByteArray} (ha:At w A (svs l)) (ad:∀s∈l,s.size<=9223372036854775807) (n cap:Nat) (hn:n=l.length) (hm:n<=4096):
  Calls Tryz.prog 77 #[.slice A n cap,.func (.func 78) #[] #[]] w λx w'=>x=.returned (.bool (Z67 l))/\w=w':=by
 have H:Hid (Calls Tryz.prog 124 #[.slice A n cap,.func (.func 78) #[] #[]] w λx w'=>Zle w (Z67 l) x w'):=h_ (by
  have Ha:=h_ ha;have Hn:=h_ hn;have Hs:=h_ ad;clear ha hn ad;go_enter Tryz.func124,Tryz.ntmps124;go_wp2;go_loop [5,8] (λ_ i=>∃k:Nat,k<=n/\i=.int .i64 k/\Hid (∀s∈l.take k,¬128<s.size)) (λ_ i=>(n-intOf i).toNat);case atStart=>exact⟨0,by omega,rfl,h_ (by simp)⟩
  case round=>
   obtain⟨k,hk,rfl,ar⟩:=hrel;by_cases ab:k<n
   ·have bK:k<l.length:=(by rw[<-Hn.o];exact ab);obtain⟨s,hs⟩:∃s,l[k]=s:=⟨_,rfl⟩;obtain⟨bA,oA,hA,ez,kR⟩:=Ha.o.get k (.string s) (by rw[Yr l k bK,hs]);subst hA;have Hc:=Zbx s (Hs.o s (hs▸Vak _)) w;by_cases hl:128<s.size
    ·rw[Vao hl] at Hc;have Hc:=h_ Hc;have hL:Z67 l=true:=Vao ⟨s,hs▸Vak _,hl⟩;have HL:=h_ hL;clear hL hl hs;go_wp2_with fail;refine(Hc.o).mono ?_;rintro x w1 ⟨rfl,rfl⟩;go_wp2;go_ret;exact⟨.inl ⟨k,by omega,HL.o,rfl⟩,rfl⟩
    ·rw[Vai hl] at Hc;have Hc:=h_ Hc
     have df:Hid (∀u∈l.take (k+1),¬128<u.size):=h_ (by
      intro u hu;rw[Vac bK,hs] at hu;rcases Va9.1 hu with h|h
      ·exact ar.o u h
      ·rw[Vax] at h;rw[h];exact hl)
     clear hl hs;go_wp2_with fail;refine(Hc.o).mono ?_;rintro x w1 ⟨rfl,rfl⟩;go_wp2;go_round;case rel=>exact⟨k+1,by omega,by go_num,df⟩
     case measure=>simp[intOf]<;>omega
   ·have hL:Z67 l=false:=Vai (by
     rintro⟨s,h1,h2⟩;refine ar.o s ?_ h2
     rwa [Vah (by rw[<-Hn.o];omega)])
    have HL:=h_ hL;clear hL;go_wp2;go_ret;exact⟨.inr ⟨HL.o,rfl⟩,rfl⟩)
 clear ha ad hn;generalize Z67 l=L at*;go_enter Tryz.func77,Tryz.ntmps77;go_wp2_with fail;refine(H.o).mono ?_;rintro x w1 ⟨⟨k,hk,rfl,rfl⟩|⟨rfl,rfl⟩,rfl⟩
 ·go_wp2;go_ret;exact⟨rfl,rfl⟩
 ·go_wp2;go_ret;exact⟨rfl,rfl⟩
end Go.Proofs.YtchokmkfobandaaGreatDoor
namespace Wv
open Go Go.RowKit Wv.Ru
def entl:Nat->List ByteArray->List MapEntry
 |_,[]=>[]
 |k,a::t=>⟨.string a,.int .i64 (k:Int),k⟩::entl (k+1) t
def ents (l:List ByteArray):Array MapEntry:=(entl 0 l).toArray
theorem Zby (l:List ByteArray) (s:ByteArray):∀k,entl k (l++[s])=entl k l++[⟨.string s,.int .i64 ((k+l.length:Nat):Int),k+l.length⟩]:=by
 induction l with
 |nil=>intro k;rfl
 |cons a t ih=>
  intro k;rw[Vbs,entl,ih,entl,Vaz,show k+1+t.length=k+(t.length+1) from by omega];rfl
theorem Zbz (l:List ByteArray) (s:ByteArray):ents (l++[s])=(ents l).push ⟨.string s,.int .i64 (l.length:Int),l.length⟩:=by
 unfold ents;rw[Zby];apply Vbj.1;simp
theorem Z4P (s:ByteArray) (l:List ByteArray):∀k i,(s∈l->Instr.findNow .string (.string s) (entl k l) i=some (some (i+ix l s,.int .i64 ((k+ix l s:Nat):Int))))/\(s∉l->Instr.findNow .string (.string s) (entl k l) i=some none):=by
 induction l with
 |nil=>intro k i;exact⟨λh=>absurd h (Vcs),λ_=>rfl⟩
 |cons a t ih=>
  intro k i;obtain⟨r,hr,pn⟩:=MapKept.sameNow_of_keys (d:=.string) (a:=.string s) (b:=.string a) trivial trivial;cases r with
  |true=>
   have h1:Value.string s=Value.string a:=pn.1 rfl;injection h1 with h1;subst h1;have hx:ix (s::t) s=0:=(by simp[ix]);exact⟨λ_=>by rw[entl,Instr.findNow,hr,hx];rfl,λh=>absurd Vap h⟩
  |false=>
   have h1:a≠s:=λe=>by
    have:=pn.2 (by rw[e]);cases this
   have hx:ix (a::t) s=ix t s+1:=(by rw[ix,Vad h1]);obtain⟨i1,i2⟩:=ih (k+1) (i+1);refine⟨λh=> ?_,λh=> ?_⟩
   ·rw[entl,Instr.findNow,hr,hx];simp only;rw[i1 ((Vba.1 h).resolve_left (λe=>h1 e.symm)),show i+1+ix t s=i+(ix t s+1) from by omega,show k+1+ix t s=k+(ix t s+1) from by omega]
   ·rw[entl,Instr.findNow,hr];simp only;exact i2 (λh2=>h (Var _ h2))
theorem Z7C {s:ByteArray} {l:List ByteArray} (h:s∈l):Instr.findNow .string (.string s) (ents l).toList 0=some (some (ix l s,.int .i64 (ix l s:Nat))):=by
 have:=(Z4P s l 0 0).1 h;simpa [ents] using this
theorem ZbA {s:ByteArray} {l:List ByteArray} (h:s∉l):Instr.findNow .string (.string s) (ents l).toList 0=some none:=by
 have:=(Z4P s l 0 0).2 h;simpa [ents] using this
def MAt (w:World) (b:Nat) (l:List ByteArray):Prop:=w.heap[b]? =some (.map (ents l) l.length)
theorem MAt.lt {w:World} {b:Nat} {l:List ByteArray} (h:MAt w b l):b<w.heap.size:=(Array.getElem?_eq_some_iff.1 h).1
theorem MAt.fr {S:Nat->Prop} {w w':World} {b:Nat} {l:List ByteArray} (h:MAt w b l) (hf:Fr S w w') (hb:¬S b):MAt w' b l:=(hf.block b h.lt hb).trans h
theorem MAt.alloc {w:World} {b:Nat} {l:List ByteArray} (h:MAt w b l) (o:Obj):MAt (w.alloc o) b l:=(Below.heap_alloc w o b h.lt).trans h
theorem MAt.grown {w w':World} {b:Nat} {l:List ByteArray} {row:Option Nat} (h:MAt w b l) (hg:w.grownBy w' row) (az:some b≠row):MAt w' b l:=(hg.block b h.lt az).trans h
def QF (w:World) (b:Nat) (l:List ByteArray):World:= { w with heap:=w.heap.setIfInBounds b (.map (ents l) l.length) }
theorem ZbB {w:World} {b:Nat} {l l':List ByteArray} (h:MAt w b l):MAt (QF w b l') b l':=by
 have:=h.lt;simp[MAt,QF,this]
theorem Z4Q {S:Nat->Prop} {a w:World} {b:Nat} {l:List ByteArray} (h:Fr S a w) (hb:S b\/a.heap.size<=b):Fr S a (QF w b l):=
 ⟨h.os,h.tape,h.output,by simpa [QF] using h.size,λk hk hn=>by
  refine Eq.trans ?_ (h.block k hk hn)
  have:b≠k:=by
   rintro rfl;rcases hb with hb|hb
   ·exact hn hb
   ·omega
  simp[QF,this]⟩
theorem Z7D {P:Program} {k:TypeId} (hk:P.underlying k=some .string) (e:Bool) (s:ByteArray) (W:World):(Instr.checkKey e 10000 k (.string s)).run P W=.ok () W:=
 MapKept.run_checkKey (w:=W) hk (show MapKept.IsKey .string (.string s) from trivial) e 9999
theorem Zi5 {P:Program} {t k e:TypeId} (ht:P.underlying t=some (.map k e)) (hk:P.underlying k=some .string) {w:World} {b:Nat} {l:List ByteArray} (h:MAt w b l) (s:ByteArray) (hn:s∉l):
  (Instr.mapUpdate t (.map (some b)) (.string s) (.int .i64 (l.length:Int))).run P w=.ok () (QF w b (l++[s])):=by
 have h2:=λo=>MapKept.run_setObj_map (P:=P) o h;have ai:=ZbA hn;unfold Instr.mapUpdate;simp only[Sem.run_bind,run_underlying ht,Result.andThen_ok,MapKept.run_getObj_map h,Z7D hk,MapKept.run_findKey hk ai,h2];unfold QF;rw[Zbz];simp
theorem Zkg {P:Program} {t k e:TypeId} (ht:P.underlying t=some (.map k e)) (hk:P.underlying k=some .string) {w:World} {b:Nat} {l:List ByteArray} (h:MAt w b l) (s:ByteArray) (hs:s∈l):
  (Instr.lookup t (.map (some b)) (.string s) true).run P w=.ok (.tuple #[.int .i64 (ix l s:Nat),.bool true]) w:=by
 have ai:=Z7C hs;unfold Instr.lookup;simp only[Sem.run_bind,Sem.run_pure,run_underlying ht,Result.andThen_ok,MapKept.run_getObj_map h,Z7D hk,MapKept.run_findKey hk ai];rfl
theorem Zkh {P:Program} {t k e:TypeId} (ht:P.underlying t=some (.map k e)) (hk:P.underlying k=some .string) {w:World} {b:Nat} {l:List ByteArray} (h:MAt w b l) (s:ByteArray) (hs:s∉l) (hz:(zeroValue e).run P w=.ok (.int .i64 0) w):
  (Instr.lookup t (.map (some b)) (.string s) true).run P w=.ok (.tuple #[.int .i64 0,.bool false]) w:=by
 have ai:=ZbA hs;unfold Instr.lookup;simp only[Sem.run_bind,Sem.run_pure,run_underlying ht,Result.andThen_ok,MapKept.run_getObj_map h,Z7D hk,MapKept.run_findKey hk ai,hz];rfl
theorem Zi6 {P:Program} {t k e:TypeId} (ht:P.underlying t=some (.map k e)) (hk:P.underlying k=some .string) {w:World} {b:Nat} {l:List ByteArray} (h:MAt w b l) (s:ByteArray) (hs:s∈l):
  (Instr.lookup t (.map (some b)) (.string s) false).run P w=.ok (.int .i64 (ix l s:Nat)) w:=by
 have ai:=Z7C hs;unfold Instr.lookup;simp only[Sem.run_bind,Sem.run_pure,run_underlying ht,Result.andThen_ok,MapKept.run_getObj_map h,Z7D hk,MapKept.run_findKey hk ai];rfl
end Wv
namespace Go.Proofs.YtchokmkfobandaaGreatDoor
open Go.RowKit Go.Proofs Wv Wv.Vi Wv.Rc Wv.Mo Wv.Ru
theorem YC:(Tryz.prog.info? 9).map (λi=>(i.zero,i.size,i.bytes))=some (some (.string ByteArray.empty),1,16):=by kernel_rfl
theorem ZbC (w:World):(zeroValue 3).run Tryz.prog w=.ok (.int .i64 0) w:=by kernel_rfl
theorem ZbD (l:List ByteArray) (k:Nat) (h:k<l.length):(l[k]∈dict (l.take k)->dict (l.take (k+1))=dict (l.take k))/\(l[k]∉dict (l.take k)->dict (l.take (k+1))=dict (l.take k)++[l[k]]):=by
 rw[Vac h,YW];exact⟨λh=>by rw[Vaf h],λh=>by rw[Vad h]⟩
def SRes (w:World) (v:Value) (l:List ByteArray):Prop:=∃A cap,v=.slice A l.length cap/\At w A (svs l)
theorem SRes.nil (w:World):SRes w (.slice none 0 0) []:=⟨none,0,rfl,At.nil _ _⟩
theorem Z7E {w:World} {base e:Nat} {v:Value} {l:List ByteArray} (h:w.ownsRow base e 1 v l.length (svs l)):SRes w v l:=by
 obtain⟨A,cap,hv,ha⟩:=Zl h;exact⟨A,cap,hv,ha⟩
def IdxR (w:World) (l:List ByteArray) (x:Ending) (w':World):Prop:=
 ∃v b,x=.returned (.tuple #[v,.map (some b)])/\w.heap.size<=b/\w'.ownsRow w.heap.size 9 1 v (dict l).length (svs (dict l))/\MAt w' b (dict l)/\Below w.heap.size w w'
theorem Xu {w:World} {base e size n b:Nat} {v:Value} {xs:List Value} {l:List ByteArray} (h:w.ownsRow base e size v n xs) (hm:MAt w b l):v.ownBlock≠some b:=by
 rcases h.2 with ⟨rfl,_⟩|⟨g',cap,cur,rfl,_,hh,_⟩
 ·simp[Value.ownBlock]
 ·intro he;have:g'=b:=(by simpa [Value.ownBlock] using he);subst this;unfold MAt at hm;rw[hm] at hh;cases hh
theorem Z4R {w:World} {A:Option Addr} {l:List ByteArray} (ha:At w A (svs l)) (n cap:Nat) (hn:n=l.length) (hm:n<=4096):
  Calls Tryz.prog 125 #[.slice A n cap] w λx w'=>IdxR w l x w':=by
 have jL:= @run_makeMap Tryz.prog;have Ha:=h_ ha;have Hn:=h_ hn;obtain⟨i0,hi,du,bN,eB⟩:=info_parts YC;have mh:=h_ (And.intro hi (And.intro du (And.intro bN eB)));have gz:Below w.heap.size w (w.alloc (.map #[] 0)):=(Vae _ _).alloc UZz _;have eV:MAt (w.alloc (.map #[] 0)) w.heap.size []:=heap_alloc_new w _;have Ln:=ha.alloc (.map #[] 0);clear ha hn hi du bN eB;go_enter Tryz.func125,Tryz.ntmps125;go_wp2;go_loopw [4,7,8,9,13] (λv4 _ _ _ i wr=>∃k:Nat,k<=n/\i=.int .i64 k/\wr.ownsRow w.heap.size 9 1 v4 (dict (l.take k)).length (svs (dict (l.take k)))/\MAt wr w.heap.size (dict (l.take k))/\At wr A (svs l)/\Below w.heap.size w wr) (λ_ _ _ _ i _=>(n-intOf i).toNat);case atStart=>exact⟨0,by omega,rfl,Zk,eV,Ln,gz⟩
 case round=>
  clear gz eV Ln jL;obtain⟨k,hk,rfl,aa,dL,ak,hf⟩:=hrel;by_cases ab:k<n
  ·have bK:k<l.length:=(by rw[<-Hn.o];exact ab);obtain⟨s,hs⟩:∃s,l[k]=s:=⟨_,rfl⟩;obtain⟨bA,oA,hA,ez,kR⟩:=ak.get k (.string s) (by rw[Yr l k bK,hs]);subst hA;obtain⟨d1,d2⟩:=ZbD l k bK;rw[hs] at d1 d2;have gd:=Yl (l.take k);rw[Vau] at gd;obtain⟨D,hD⟩:∃D,dict (l.take k)=D:=⟨_,rfl⟩;rw[hD] at d1 d2 aa dL gd;by_cases aU:s∈D
   ·have hl:=Zkg (P:=Tryz.prog) Tryz.underlying166 Tryz.underlying9 dL s aU;have Hd:=h_ (d1 aU);have cA:=h_ aa;have jU:=h_ dL;clear d1 d2 hs hD aU aa dL gd;go_wp2;go_roundw;case rel=>exact⟨k+1,by omega,by go_num,by rw[Hd.o];exact cA.o,by rw[Hd.o];exact jU.o,ak,hf⟩
    case measure=>simp[intOf]<;>omega
   ·have hl:=Zkh (P:=Tryz.prog) Tryz.underlying166 Tryz.underlying9 dL s aU (ZbC wr);have hu:=Zi5 (P:=Tryz.prog) Tryz.underlying166 Tryz.underlying9 dL s aU;obtain⟨A4,gh,kS,dV⟩:=Zl aa;have r9:=Xu aa dL;subst kS;have aR:(QF wr w.heap.size (D++[s])).ownsRow w.heap.size 9 1 (.slice A4 D.length gh) D.length (svs D):=Zn aa (Z4Q (S:=λj=>j=w.heap.size) (Fr.refl _ wr) (.inl rfl)) (λg hg e=>r9 (by rw[hg,e]));have po:=ZbB (l':=D++[s]) dL;have ai:Below w.heap.size w (QF wr w.heap.size (D++[s])):=hf.trans ((Z4Q (S:=λj=>j=w.heap.size) (Fr.refl _ wr) (.inl rfl)).toBelow' hf.size (λj hj e=>by omega));have oc:=d2 aU;have dB:D.length+1<=maxLen:=(by unfold maxLen;omega);have eA:(D.length+1)*16<=140737488355328:=(by omega);obtain⟨W,hW⟩:∃W,QF wr w.heap.size (D++[s])=W:=⟨_,rfl⟩;rw[hW] at hu aR po ai;have Hd:=h_ oc;have cA:=h_ aR;have jU:=h_ po;have cl:=h_ ai;have bx:=ai.size;have xW:=h_ dL.lt;clear d1 d2 hs hD aU aa dL gd hW aR po ai dV oc ak hf r9;obtain⟨hi,du,bN,eB⟩:=mh.o
    go_wp2_with (
     at_builtin;refine wpList_append_own_at _ rfl (.tmp 29) (.tmp 31) _ rfl w.heap.size 9 i0 (.string ByteArray.empty) 1 16 Tryz.underlying64 hi du bN eB rfl (by omega) (.slice A4 D.length gh) D.length (svs D) (by rfl) (cA.o.alloc _) ⟨W.heap.size,0,none⟩ 1 1 [.string s] (by rfl) rfl (XC _ _ _) (by simp[Value.oneCell']) dB eA (Vaq bx (by simp)) ?_;intro v' w1 ah dm _ cQ;have aI:=h_ ah;have gA:=h_ dm;clear ah dm cQ)
    have dC:=(jU.o.alloc (.cells #[.string s] 9)).grown gA.o (λe=>Xu (cA.o) jU.o e.symm);have aO:Below w.heap.size w w1:=(cl.o.alloc bx (.cells #[.string s] 9)).grown gA.o (Vaq bx (by simp)) (λj hj=>(cA.o.lt j hj).1);have zA:=Ha.o.below aO
    have mO:w1.ownsRow w.heap.size 9 1 v' (D++[s]).length (svs (D++[s])):=by
     have:=aI.o;rw[Vab];unfold svs at this⊢;rw[Vbk];exact this
    clear aI gA hu hl kR;go_wp2;go_roundw;case rel=>exact⟨k+1,by omega,by go_num,by rw[Hd.o];exact mO,by rw[Hd.o];exact dC,zA,aO⟩
    case measure=>simp[intOf]<;>omega
  ·have eH:k=n:=(by omega);subst eH;have ay:l.take k=l:=Vah (by rw[<-Hn.o];exact UZz);rw[ay] at aa dL;clear ay ak;go_wp2;go_returns;exact⟨_,_,rfl,UZz,aa,dL,hf⟩
def DRes (w:World) (l:List ByteArray) (x:Ending) (w':World):Prop:=∃v,x=.returned v/\SRes w' v l/\Below w.heap.size w w'
theorem Z2r {w:World} {A:Option Addr} {l:List ByteArray} (ha:At w A (svs l)) (n cap:Nat) (hn:n=l.length) (hm:n<=4096):
  Calls Tryz.prog 79 #[.slice A n cap] w λx w'=>DRes w (dict l) x w':=by
 have H:=h_ (Z4R ha n cap hn hm);clear ha hn;go_enter Tryz.func79,Tryz.ntmps79;go_wp2_with fail;refine(H.o).mono ?_;rintro x w1 ⟨v,b,rfl,hb,ho,eG,hf⟩;have hr:=Z7E ho;clear ho eG;go_wp2;go_ret;exact⟨v,rfl,hr,hf⟩
end Go.Proofs.YtchokmkfobandaaGreatDoor
namespace Wv
open Go Go.RowKit Wv.Ru
theorem Zf3 {w:World} {base g n cap size:Nat} {e:TypeId} {xs:List Value} (h:w.ownsRow base e size (.slice (some ⟨g,0,none⟩) n cap) n xs) (i:Nat) (u:Value):
  (w.setCell ⟨g,i,none⟩ u).ownsRow base e size (.slice (some ⟨g,0,none⟩) n cap) n (xs.set i u):=by
 refine⟨by rw[Vbh];exact h.1,?_⟩;rcases h.2 with ⟨h2,_⟩|⟨g',bp,cur,hv,hb,hg,oG,lV,hcs,ay⟩
 ·cases h2
 ·injection hv with bk bj ei;injection bk with bk;injection bk with bk;subst bk;subst ei;refine .inr ⟨g,cap,cur.setIfInBounds i u,rfl,hb,?_,oG,lV,by rw[Array.size_setIfInBounds];exact hcs,?_⟩
  ·simp[World.setCell,Array.getElem?_modify,hg]
  ·rw[<-ay,Array.toList_setIfInBounds,List.take_set]
theorem ZbE {w:World} {base g n cap size:Nat} {e:TypeId} {xs:List Value} (h:w.ownsRow base e size (.slice (some ⟨g,0,none⟩) n cap) n xs) (i:Nat) (u:Value) (hu:xs[i]? =some u):
  w.cell? ⟨g,i,none⟩=some u/\w.frozen? ⟨g,i,none⟩=false:=by
 have h1:=h.cells (g:=g) rfl i u hu;have:(⟨g,0,none⟩:Addr).add i=⟨g,i,none⟩:=(by unfold Addr.add;split<;>simp_all);rw[this] at h1;refine⟨h1,?_⟩;rcases h.2 with ⟨h2,_⟩|⟨g',bp,cur,hv,hb,hg,_⟩
 ·cases h2
 ·injection hv with bk bj ei;injection bk with bk;injection bk with bk;subst bk;simp[World.frozen?,hg]
theorem ZbF {w:World} {base n size:Nat} {e:TypeId} {v:Value} {xs:List Value} (h:w.ownsRow base e size v n xs) (hn:0<n):∃g cap,v=.slice (some ⟨g,0,none⟩) n cap/\n<=cap:=by
 rcases h.2 with ⟨_,h2⟩|⟨g',bp,cur,hv,hb,hg,hc,_⟩
 ·omega
 ·exact⟨g',bp,hv,hc⟩
theorem Z7F (w:World) (t:TypeId) (a b:Value):∀(j:Nat) (u:Value),[a,b][j]? =some u->(w.alloc (.cells #[a,b] t)).cell? ((⟨w.heap.size,0,none⟩:Addr).add j)=some u:=by
 intro j u h;rw[Go.WideShapes.add_plain,Vbo];have:=(Bk.new w t #[a,b]).cell j;rw[this];simpa using h
theorem Zi7 (l:List (Int×Int)) (x:Int×Int) (c:Int):(pv (l++[x])).set (l.length*2+1) (iv c)=pv (l++[(x.1,c)]):=by
 rw[Z3C,Z3C,Va8 _ _ (by rw[Z1G];omega),Z1G,show l.length*2+1-l.length*2=1 from by omega];rfl
theorem QG {a b:ByteArray} :(a.toList==b.toList)=decide (a=b):=by
 rw[Vbl,beq_iff_eq,Vas,ByteArray.toList_eq,ByteArray.toList_eq];exact Zhl
end Wv
namespace Go.Proofs.YtchokmkfobandaaGreatDoor
open Go.RowKit Go.Proofs Wv Wv.Vi Wv.Rc Wv.Mo Wv.Ru
theorem ZgR:(Tryz.prog.info? 134).map (λi=>(i.zero,i.size,i.bytes))=some (some (.agg #[.int .i64 0,.int .i64 0]),2,16):=by kernel_rfl
theorem ZbG (d l:List ByteArray) (k:Nat) (h:k<l.length):
  (0<k->l[k-1]? =some l[k]->runs d (l.take (k+1))=bump (runs d (l.take k)))/\((k=0\/l[k-1]? ≠some l[k])->runs d (l.take (k+1))=runs d (l.take k)++[(ix d l[k],1)]):=by
 have hg:0<k->(l.take k).getLast? =l[k-1]? :=by
  intro h0;rw[List.getLast?_eq_getElem?,Vau,Nat.min_eq_left (by omega),List.getElem?_take_of_lt (by omega)]
 rw[Vac h,YA];refine⟨λh0 he=> ?_,λhc=> ?_⟩
 ·rw[hg h0,Vaf he]
 ·rcases Vbm k with h0|h0
  ·subst h0;rw[Vad (by simp)]
  ·rw[hg h0,Vad (hc.resolve_left (by omega))]
theorem ZbH (d l:List ByteArray) (k:Nat) (h:k<l.length):∃xs c,runs d (l.take (k+1))=xs++[(ix d l[k],c)]/\1<=c:=by
 rw[Vac h];exact Z9Y d (l.take k) l[k]
def PRes (w:World) (r:List (Int×Int)) (x:Ending) (w':World):Prop:=∃A cap,x=.returned (.slice A r.length cap)/\At w' A (pv r)/\Below w.heap.size w w'
theorem Zf4 {w:World} {A:Option Addr} {l:List ByteArray} (ha:At w A (svs l)) (n cap:Nat) (hn:n=l.length) (hm:n<=4096):
  Calls Tryz.prog 80 #[.slice A n cap] w λx w'=>PRes w (Yf (runs (dict l) l)) x w':=by
 have H:=h_ (Z4R ha n cap hn hm);have Ha:=h_ ha;have Hn:=h_ hn;obtain⟨i0,hi,du,bN,eB⟩:=info_parts ZgR;have mh:=h_ (And.intro hi (And.intro du (And.intro bN eB)));obtain⟨Dl,tN⟩:∃Dl,dict l=Dl:=⟨_,rfl⟩;have FY:=h_ (λs (hs:s∈l)=>show s∈Dl from tN▸(YM l s).2 hs);have sc:=h_ tN;clear ha hn hi du bN eB tN;go_enter Tryz.func80,Tryz.ntmps80;go_wp2_with fail;refine(H.o).mono ?_;rintro x w1 ⟨v,b,rfl,hb,ho,eG,hf⟩;rw[sc.o] at eG;have fj:=Ha.o.below hf;clear ho;go_wp2;go_loopw [5,6,7,15] (λv5 _ _ i wr=>∃k:Nat,k<=n/\i=.int .i64 k/\wr.ownsRow w1.heap.size 134 2 v5 (Yf (runs Dl (l.take k))).length (pv (Yf (runs Dl (l.take k))))/\MAt wr b Dl/\At wr A (svs l)/\Below w1.heap.size w1 wr) (λ_ _ _ i _=>(n-intOf i).toNat);case atStart=>exact⟨0,by omega,rfl,Zk,eG,fj,Vae _ _⟩
 case round=>
  have oe:=h_ eG.lt;clear eG fj;obtain⟨k,hk,rfl,aa,dL,ak,aC⟩:=hrel;by_cases ab:k<n
  ·have bK:k<l.length:=(by rw[<-Hn.o];exact ab);obtain⟨s,hs⟩:∃s,l[k]=s:=⟨_,rfl⟩;have lQ:=FY.o s (hs▸Vak _);obtain⟨bA,oA,hA,ez,kR⟩:=ak.get k (.string s) (by rw[Yr l k bK,hs]);subst hA;obtain⟨r1,r2⟩:=ZbG Dl l k bK;rw[hs] at r1 r2;have dc:=Ym Dl (l.take k);rw[Vau] at dc;by_cases mP:0<k/\l[k-1]? =some s
   ·obtain⟨h0,vp⟩:=mP
    have zB:=ak.get (k-1) (.string s) (by
     rw[svs,Vbb,vp];rfl)
    obtain⟨Rk,Rl,dM,_,xX⟩:=zB;injection dM with dM;injection dM with dM vq;subst dM;subst vq;obtain⟨xs,c,hx,cq⟩:=ZbH Dl l (k-1) (by omega);rw[show k-1+1=k from by omega] at hx;obtain⟨ii,sd⟩:∃ii,ix Dl (l[k-1]'(by omega))=ii:=⟨_,rfl⟩;rw[sd] at hx;have cF:=r1 h0 vp;rw[hx,Z1s] at cF;rw[hx] at aa dc;have dI:Yf (xs++[(ii,c)])=Yf xs++[((ii:Int),(c:Int))]:=(by simp[Yf]);have fE:Yf (xs++[(ii,c+1)])=Yf xs++[((ii:Int),(c:Int)+1)]:=(by simp[Yf]);rw[dI] at aa;have oP:=Zi7 (Yf xs) ((ii:Int),(c:Int)) ((c:Int)+1);obtain⟨X,hX⟩:∃X,Yf xs=X:=⟨_,rfl⟩;have FZ:X.length=xs.length:=(by rw[<-hX];simp[Yf]);rw[hX] at aa oP fE;rw[Vab,Vbd] at aa;obtain⟨g,aE,pq,zz⟩:=ZbF aa (by omega);subst pq
    have hcell:=ZbE aa (X.length*2+1) (iv (c:Int)) (by
     have:=(Z7s (X++[((ii:Int),(c:Int))]) X.length (by simp)).2;simpa using this)
    obtain⟨q1,q2⟩:=hcell;have aj:=Zf3 aa (X.length*2+1) (iv ((c:Int)+1));rw[oP] at aj
    have jk:c<=4096:=by
     have:=(Qm Dl (l.take k) (ii,c) (by rw[hx];simp)).2.2;rw[Vau] at this;simp only at this;omega
    have G0:=aC.setCell (p:=⟨g,X.length*2+1,none⟩) ((aa.lt g rfl).1) (iv ((c:Int)+1))
    have dR:xs.length+1<=k:=by
     rw[Vab,Vbd] at dc;omega
    have hlen:X.length<=4096:=(by omega);have i1:((X.length:Int)+1)-1=(X.length:Int):=(by omega)
    have Lo:MAt (wr.setCell ⟨g,X.length*2+1,none⟩ (iv ((c:Int)+1))) b Dl:=(Below.heap_setCell wr ⟨g,X.length*2+1,none⟩ _ b (by
     intro e;exact Xu aa dL (by show some g=some b;rw[e]))).trans dL
    have vr:At (wr.setCell ⟨g,X.length*2+1,none⟩ (iv ((c:Int)+1))) (some ⟨bA,oA,none⟩) (svs l):=(Ha.o.below hf).below G0;have heq:(s.toList==s.toList)=true:=(by simp);have cj:(0:Int)<(k:Int):=(by omega);have ik:(k:Int)-1=((k-1:Nat):Int):=(by omega);obtain⟨kp,ra⟩:∃kp,k-1=kp:=⟨_,rfl⟩;rw[ra] at ik xX;have G4:(kp:Int)<(n:Int):=(by omega);have jA:w1.heap.size<=g:=(aa.lt g rfl).1;unfold iv at q1;have rf:=h_ cF;have vt:=h_ fE;have aA:=h_ aj;have Rm:=h_ Lo;have Rn:=h_ vr;have Ro:=h_ G0;clear r1 r2 hs hx cF dI fE oP hX FZ aa aj Lo vr G0 sd dL ak dc ra lQ vp aC;go_wp2;go_roundw
    case rel=>
     refine⟨k+1,by omega,by go_num,?_,Rm.o,Rn.o,Ro.o⟩;rw[rf.o,vt.o,Vab,Vbd];exact aA.o
    case measure=>simp[intOf]<;>omega
   ·have bz:k=0\/l[k-1]? ≠some s:=by
     rcases Vbm k with h0|h0
     ·exact .inl h0
     ·exact .inr (λh=>mP ⟨h0,h⟩)
    have bP:=r2 bz;have hl:=Zi6 (P:=Tryz.prog) Tryz.underlying166 Tryz.underlying9 dL s lQ;obtain⟨ii,sd⟩:∃ii,ix Dl s=ii:=⟨_,rfl⟩;rw[sd] at bP hl;obtain⟨R,hR⟩:∃R,runs Dl (l.take k)=R:=⟨_,rfl⟩;rw[hR] at bP aa dc;have fE:Yf (R++[(ii,1)])=Yf R++[((ii:Int),1)]:=(by simp[Yf]);obtain⟨X,hX⟩:∃X,Yf R=X:=⟨_,rfl⟩;have FZ:X.length=R.length:=(by rw[<-hX];simp[Yf]);rw[hX] at aa fE;obtain⟨A4,gh,kS,dV⟩:=Zl aa;subst kS;have dB:X.length+1<=maxLen:=(by unfold maxLen;omega);have eA:(X.length+1)*16<=140737488355328:=(by omega);have bx:=aC.size
    have el:(k=0)\/(0<k/\∃s2:ByteArray,(s2.toList==s.toList)=false/\wr.cell? ⟨bA,oA+(k-1),none⟩=some (.string s2)):=by
     rcases Vbm k with h0|h0
     ·exact .inl h0
     ·right;have gi:k-1<l.length:=(by omega);obtain⟨Rk,Rl,dM,_,xX⟩:=ak.get (k-1) (.string (l[k-1])) (Yr l (k-1) gi);injection dM with dM;injection dM with dM vq;subst dM;subst vq;refine⟨h0,l[k-1],?_,xX⟩;rw[QG,Vbp];intro e;refine mP ⟨h0,?_⟩;rw[Van gi,e]
    have fG:=h_ bP;have vt:=h_ fE;have cA:=h_ aa;have jU:=h_ dL;have cP:=h_ aC;have Lp:=h_ hf;clear r1 r2 hs bP fE hX aa dL ak dc sd hR dV mP bz aC FZ lQ hf;obtain⟨hi,du,bN,eB⟩:=mh.o;rcases el with cj|⟨cj,s2,cO,xX⟩
    ·have aZ:¬(0:Int)<(k:Int):=(by omega);clear cj
     go_wp2_with (
      at_builtin;refine wpList_append_own_at _ rfl (.tmp 41) (.tmp 46) _ rfl w1.heap.size 134 i0 (.agg #[.int .i64 0,.int .i64 0]) 2 16 Tryz.underlying131 hi du bN eB rfl (by omega) (.slice A4 X.length gh) X.length (pv X) (by rfl) (cA.o.alloc _) ⟨wr.heap.size,0,none⟩ 1 1 [iv (ii:Int),iv 1] (by rfl) rfl (Z7F _ _ _ _) (by simp[Value.oneCell',iv]) dB eA (Vaq bx (by simp)) ?_;intro v' w2 ah dm _ cQ;have aI:=h_ ah;have gA:=h_ dm;clear ah dm cQ)
     have dC:=(jU.o.alloc (.cells #[.int .i64 (ii:Int),.int .i64 1] 134)).grown gA.o (λe=>Xu cA.o jU.o e.symm);have aO:Below w1.heap.size w1 w2:=(cP.o.alloc bx (.cells #[.int .i64 (ii:Int),.int .i64 1] 134)).grown gA.o (Vaq bx (by simp)) (λj hj=>(cA.o.lt j hj).1);have zA:=(Ha.o.below Lp.o).below aO
     have mO:w2.ownsRow w1.heap.size 134 2 v' (X++[((ii:Int),(1:Int))]).length (pv (X++[((ii:Int),(1:Int))])):=by
      have:=aI.o;rw[Vab,Z3C];exact this
     clear aI gA hl kR;go_wp2;go_roundw;case rel=>exact⟨k+1,by omega,by go_num,by rw[fG.o,vt.o];exact mO,dC,zA,aO⟩
     case measure=>simp[intOf]<;>omega
    ·have aZ:(0:Int)<(k:Int):=(by omega);have ik:(k:Int)-1=((k-1:Nat):Int):=(by omega);obtain⟨kp,ra⟩:∃kp,k-1=kp:=⟨_,rfl⟩;rw[ra] at ik xX;have G4:(kp:Int)<(n:Int):=(by omega);clear ra cj
     go_wp2_with (
      at_builtin;refine wpList_append_own_at _ rfl (.tmp 41) (.tmp 46) _ rfl w1.heap.size 134 i0 (.agg #[.int .i64 0,.int .i64 0]) 2 16 Tryz.underlying131 hi du bN eB rfl (by omega) (.slice A4 X.length gh) X.length (pv X) (by rfl) (cA.o.alloc _) ⟨wr.heap.size,0,none⟩ 1 1 [iv (ii:Int),iv 1] (by rfl) rfl (Z7F _ _ _ _) (by simp[Value.oneCell',iv]) dB eA (Vaq bx (by simp)) ?_;intro v' w2 ah dm _ cQ;have aI:=h_ ah;have gA:=h_ dm;clear ah dm cQ)
     have dC:=(jU.o.alloc (.cells #[.int .i64 (ii:Int),.int .i64 1] 134)).grown gA.o (λe=>Xu cA.o jU.o e.symm);have aO:Below w1.heap.size w1 w2:=(cP.o.alloc bx (.cells #[.int .i64 (ii:Int),.int .i64 1] 134)).grown gA.o (Vaq bx (by simp)) (λj hj=>(cA.o.lt j hj).1);have zA:=(Ha.o.below Lp.o).below aO
     have mO:w2.ownsRow w1.heap.size 134 2 v' (X++[((ii:Int),(1:Int))]).length (pv (X++[((ii:Int),(1:Int))])):=by
      have:=aI.o;rw[Vab,Z3C];exact this
     clear aI gA hl kR xX;go_wp2;go_roundw;case rel=>exact⟨k+1,by omega,by go_num,by rw[fG.o,vt.o];exact mO,dC,zA,aO⟩
     case measure=>simp[intOf]<;>omega
  ·have eH:k=n:=(by omega);subst eH;have ay:l.take k=l:=Vah (by rw[<-Hn.o];exact UZz);rw[ay] at aa;obtain⟨A2,aE,hv,bL⟩:=Zl aa;subst hv;have kU:=h_ bL;clear ay ak aa dL bL;go_wp2;go_ret;rw[sc.o];exact⟨A2,aE,rfl,kU.o,hf.trans (aC.mono hf.size)⟩
def TRes (w:World) (r:List ByteArray×Nat) (x:Ending) (w':World):Prop:=∃v,x=.returned (.tuple #[v,.int .i64 (r.2:Int)])/\SRes w' v r.1/\Below w.heap.size w w'
theorem XM {w w':World} (e:Nat) (hb:Below w.heap.size w w'):TRes w ([],e) (.returned (.tuple #[.slice none 0 0,.int .i64 (e:Int)])) w':=⟨_,rfl,SRes.nil _,hb⟩
theorem Z68 (d:List ByteArray) (l:List (Int×Int)) (k:Nat) (h:k<l.length) (acc:List ByteArray):
  ZD d (l.drop k) acc=if l[k].1<0\/(d.length:Int)<=l[k].1\/l[k].2<1 then([],2) else if 4096-(acc.length:Int)<l[k].2 then([],9)
   else ZD d (l.drop (k+1)) (acc++List.replicate l[k].2.toNat (d.getD l[k].1.toNat default)):=by
 rw[Va4 h,ZD]
theorem Z8R {w:World} {A B:Option Addr} {d:List ByteArray} {l:List (Int×Int)} (ha:At w A (svs d)) (hp:At w B (pv l)) (n cap m aE:Nat) (hn:n=d.length) (hm:m=l.length) (bo:n<=9223372036854775807) (jB:m<=9223372036854775807):
  Calls Tryz.prog 155 #[.slice A n cap,.slice B m aE] w λx w'=>TRes w (ZD d l []) x w':=by
 have Ha:=h_ ha;have Hp:=h_ hp;have Hn:=h_ hn;have Hm:=h_ hm;obtain⟨i0,hi,du,bN,eB⟩:=info_parts YC;have mh:=h_ (And.intro hi (And.intro du (And.intro bN eB)));clear ha hp hn hm hi du bN eB;go_enter Tryz.func155,Tryz.ntmps155;go_wp2;go_loopw [6,8,11] (λv6 _ i wr=>∃(k:Nat) (acc:List ByteArray),k<=m/\i=.int .i64 k/\acc.length<=4096/\wr.ownsRow w.heap.size 9 1 v6 acc.length (svs acc)/\Hid (ZD d (l.drop k) acc=ZD d l [])/\Below w.heap.size w wr) (λ_ _ i _=>(m-intOf i).toNat);case atStart=>exact⟨0,[],by omega,rfl,by simp,Zk,h_ rfl,Vae _ _⟩
 case round=>
  obtain⟨k,acc,hk,rfl,kG,aa,hex,hf⟩:=hrel;obtain⟨A4,gh,kS,dV⟩:=Zl aa;subst kS;by_cases ab:k<m
  ·have bK:k<l.length:=(by rw[<-Hm.o];exact ab);have al:=Z68 d l k bK acc;have eZ:=Z7s l k bK;obtain⟨⟨i,c⟩,hic⟩:∃x,l[k]=x:=⟨_,rfl⟩;rw[hic] at al eZ;simp only at al eZ;have zC:=Hp.o.below hf;obtain⟨bB,oB,hB,Lr,nt⟩:=zC.get (k*2) (iv i) eZ.1;obtain⟨Rp,Rq,og,_,jV⟩:=zC.get (k*2+1) (iv c) eZ.2;rw[hB] at og;injection og with og
   injection og with xY vu;subst xY;subst vu;subst hB;unfold iv at nt jV;have cA:=h_ aa;have Hf:=h_ hf;have pt:wr.cell? ⟨bB,oB+k*2+1,none⟩=some (.int .i64 c):=jV;have dq:=h_ (hf.alloc hf.size (.cells #[.int .i64 i,.int .i64 c] 134));by_cases au:i<0\/(d.length:Int)<=i\/c<1
   ·rw[Vaf au] at al;have Hr:Hid (ZD d l []=([],2)):=h_ (by rw[<-hex.o,al]);have a8:i<0\/(n:Int)<=i\/c<1:=(by rw[Hn.o];exact au);clear au al hic eZ zC dV aa hf jV;by_cases b1:i<0
    ·clear a8;go_wp2;go_returns;rw[Hr.o];exact XM 2 dq.o
    ·by_cases b2:(n:Int)<=i
     ·clear a8;go_wp2;go_returns;rw[Hr.o];exact XM 2 dq.o
     ·have b3:c<1:=(by omega);clear a8;go_wp2;go_returns;rw[Hr.o];exact XM 2 dq.o
   ·rw[Vad au] at al;have b1:¬i<0:=(by omega);have b2:¬(n:Int)<=i:=(by rw[Hn.o];omega);have b3:¬c<1:=(by omega);by_cases ff:4096-(acc.length:Int)<c
    ·rw[Vaf ff] at al;have Hr:Hid (ZD d l []=([],9)):=h_ (by rw[<-hex.o,al]);clear au al hic eZ zC dV aa hf jV;go_wp2;go_returns;rw[Hr.o];exact XM 9 dq.o
    ·rw[Vad ff] at al;obtain⟨i,rfl⟩:=Int.eq_ofNat_of_zero_le (show 0<=i by omega);obtain⟨c,rfl⟩:=Int.eq_ofNat_of_zero_le (show 0<=c by omega);rw[Vav,Vav] at al;have hid:i<d.length:=(by omega);have aU:(i:Int)<(n:Int):=(by omega);obtain⟨s,hs⟩:∃s,d.getD i default=s:=⟨_,rfl⟩
     have uO:(svs d)[i]? =some (.string s):=by
      rw[Yr d i hid,<-hs];simp[List.getD,hid]
     rw[hs] at al;have aT:Hid (ZD d (l.drop (k+1)) (acc++List.replicate c s)=ZD d l []):=h_ (by rw[<-al];exact hex.o);have pw:acc.length+c<=4096:=(by omega);clear au al hic eZ zC dV aa hf jV hex hs;have jh:=Bk.new wr 134 #[.int .i64 (i:Int),.int .i64 (c:Int)];have dD:=cA.o.alloc (.cells #[.int .i64 (i:Int),.int .i64 (c:Int)] 134);go_wp2;go_loopw [6,38] (λv6 j kP=>∃q:Nat,q<=c/\j=.int .i64 q/\kP.ownsRow w.heap.size 9 1 v6 (acc++List.replicate q s).length (svs (acc++List.replicate q s))/\Bk kP wr.heap.size 134 #[.int .i64 (i:Int),.int .i64 (c:Int)]/\Below w.heap.size w kP) (λ_ j _=>(c-intOf j).toNat);case atStart=>exact⟨0,by omega,rfl,by simpa using dD,jh,dq.o⟩
     case round=>
      have cH:=h_ Hf.o.size;clear jh dD;obtain⟨q,hq,rfl,aa,jh,hf⟩:=hrel;by_cases bQ:q<c
      ·have ak:=Ha.o.below hf;obtain⟨bA,oA,hA,ez,kR⟩:=ak.get i (.string s) uO;subst hA;have x0:=jh.cell 0;simp at x0;obtain⟨L,hL⟩:∃L,acc++List.replicate q s=L:=⟨_,rfl⟩;have Fl:L.length=acc.length+q:=(by rw[<-hL];simp);have DE:acc++List.replicate (q+1) s=L++[s]:=(by rw[List.replicate_succ',<-Vay,hL]);rw[hL] at aa;obtain⟨A5,aY,pq,_⟩:=Zl aa;subst pq;have dB:L.length+1<=maxLen:=(by unfold maxLen;omega);have eA:(L.length+1)*16<=140737488355328:=(by omega);have bx:=hf.size;have DF:=h_ DE;have kV:=h_ aa;have Ls:=h_ jh;have cl:=h_ hf;have an:=h_ nt;clear hL DE aa jh ak hf Fl nt pt;obtain⟨hi,du,bN,eB⟩:=mh.o
       go_wp2_with (
        at_builtin;refine wpList_append_own_at _ rfl (.tmp 40) (.tmp 46) _ rfl w.heap.size 9 i0 (.string ByteArray.empty) 1 16 Tryz.underlying64 hi du bN eB rfl (by omega) (.slice A5 L.length aY) L.length (svs L) (by rfl) (kV.o.alloc _) ⟨_,0,none⟩ 1 1 [.string s] (by rfl) rfl (XC _ _ _) (by simp[Value.oneCell']) dB eA (Vaq bx (by simp)) ?_;intro v' w3 ah dm _ cQ;have aI:=h_ ah;have gA:=h_ dm;clear ah dm cQ)
       have G5:=(Ls.o.alloc (.cells #[.string s] 9)).grown gA.o (λe=>Z2 kV.o Ls.o (by decide) e.symm);have aO:Below w.heap.size w w3:=(cl.o.alloc bx (.cells #[.string s] 9)).grown gA.o (Vaq bx (by simp)) (λj hj=>(kV.o.lt j hj).1)
       have mO:w3.ownsRow w.heap.size 9 1 v' (L++[s]).length (svs (L++[s])):=by
        have:=aI.o;rw[Vab];unfold svs at this⊢;rw[Vbk];exact this
       clear aI gA kR x0;go_wp2;go_roundw;case rel=>exact⟨q+1,by omega,by go_num,by rw[DF.o];exact mO,G5,aO⟩
       case measure=>simp[intOf]<;>omega
      ·have Rr:q=c:=(by omega);subst Rr;have kV:=h_ aa;have cl:=h_ hf;clear aa jh hf nt pt;go_wp2;go_roundw;case rel=>exact⟨k+1,acc++List.replicate q s,by omega,by go_num,by rw[Vab,Vaw];omega,kV.o,aT,cl.o⟩
       case measure=>simp[intOf]<;>omega
  ·have nu:k=m:=(by omega);subst nu;have jS:l.drop k=[]:=List.drop_of_length_le (by rw[<-Hm.o];exact UZz);have aP:=hex.o;rw[jS,ZD] at aP;have bR:=h_ aP;have fp:=h_ (Z7E aa);clear jS aP aa dV;go_wp2;go_returns;rw[<-bR.o];exact⟨.slice A4 acc.length gh,rfl,fp.o,hf⟩
def ERes (w:World) (r:List UInt8×Nat) (x:Ending) (w':World):Prop:=x=.returned (.tuple #[.string (bs r.1),.int .i64 (r.2:Int)])/\Below w.heap.size w w'
theorem Z0c {w w':World} (e:Nat) (hb:Below w.heap.size w w'):ERes w ([],e) (.returned (.tuple #[.string (bs []),.int .i64 (e:Int)])) w':=⟨rfl,hb⟩
theorem ZbI {w:World} (c:Int) (hc:c≠0) (cq:c≠1) (A:Option Addr) (n cap:Nat):
  Calls Tryz.prog 58 #[.int .i64 c,.slice A n cap] w λx w'=>ERes w ([],1) x w':=by
 have h0:(c !=0)=true:=(by rw[Va0];exact hc);have h1:(c !=1)=true:=(by rw[Va0];exact cq);have hb:=h_ (Vae w.heap.size w);clear hc cq;go_enter Tryz.func58,Tryz.ntmps58;go_wp2;go_returns;exact Z0c 1 hb.o
theorem Z69 {w:World} {A:Option Addr} {l:List ByteArray} (c:Nat) (hc:c<=1) (ha:At w A (svs l)) (ad:∀s∈l,s.size<=9223372036854775807) (n cap:Nat) (hn:n=l.length) (hm:n<=9223372036854775807) (ff:4096<l.length\/∃s∈l,128<s.size):
  Calls Tryz.prog 58 #[.int .i64 (c:Int),.slice A n cap] w λx w'=>ERes w ([],9) x w':=by
 have hb:=h_ (Vae w.heap.size w);have jA:c=0\/c=1:=(by omega);by_cases h4:4096<n
 ·have Lt:(4096:Int)<(n:Int):=(by omega);clear h4 ff ha ad hn hc;rcases jA with rfl|rfl
  all_goals
   go_enter Tryz.func58,Tryz.ntmps58;go_wp2;go_returns;exact Z0c 9 hb.o
 ·have Lt:¬(4096:Int)<(n:Int):=(by omega);have hL:=Z7B ha ad n cap hn (by omega);have hl:Z67 l=true:=Vao (ff.resolve_left (by omega));rw[hl] at hL;have HL:=h_ hL;clear h4 ff ha ad hn hc hL hl;rcases jA with rfl|rfl
  all_goals
   go_enter Tryz.func58,Tryz.ntmps58;go_wp2_with fail;refine(HL.o).mono ?_;rintro x w1 ⟨rfl,rfl⟩;go_wp2;go_returns;exact Z0c 9 hb.o
theorem Z7G (s:ByteArray) (h:s.size<=128):(text s).length<=137:=by
 unfold text;have:=kof9 s.size;rw[Vab,Z1];omega
theorem Zf5 (D:List ByteArray) (h:∀s∈D,s.size<=128):(D.flatMap text).length<=137*D.length:=by
 induction D with
 |nil=>simp
 |cons s D ih=>
  have h1:=Z7G s (h s Vap);have h2:=ih (λu hu=>h u (Var _ hu));rw[Vb0,Vab,Vaz];omega
theorem ZbJ (D:List ByteArray) (k:Nat) (h:k<D.length):(D.take (k+1)).flatMap text=(D.take k).flatMap text++text D[k]:=by
 rw[Vac h,Vce];simp
theorem XN (l:List Nat) (h:∀v∈l,v<4611686018427387904):(encn l).length<=13+134*l.length:=by
 unfold encn;rw[Vab];have h1:=kof9 l.length;split
 ·simp;omega
 ·have h2:=Z4J l (t0,e0) h;rw[show(e0.out.length)=0 from rfl] at h2;unfold efin;rw[Vab,Y6];omega
end Go.Proofs.YtchokmkfobandaaGreatDoor
