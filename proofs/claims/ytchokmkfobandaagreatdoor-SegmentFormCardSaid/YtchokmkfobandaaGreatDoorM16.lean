import Derived.Test.YtchokmkfobandaaGreatDoorM14
import Derived.Test.YtchokmkfobandaaGreatDoorM12
set_option linter.unusedVariables false
set_option linter.unusedSimpArgs false
set_option maxRecDepth 100000
set_option maxHeartbeats 8000000
namespace Go.Proofs.YtchokmkfobandaaGreatDoor
open Go.RowKit Go.Proofs Wv Wv.Vi Wv.Rc Wv.Mo Wv.Ru
theorem Z18 {w:World} {A:Option Addr} {l:List Int} (ha:At w A (ivs l)) (n cap:Nat) (hn:n=l.length) (hm:n<=9223372036854775807) (hb:chkn l≠0):
  Calls Tryz.prog 126 #[.slice A n cap,.func (.func 201) #[] #[]] w λx w'=>NRes w x w' ([],chkn l):=by
 have Ha:=h_ ha;have av:=h_ hn;have dx:Below w.heap.size w w:=Vae _ _;by_cases h9:4096<n
 ·have hc:Hid (chkn l=9):=h_ (by unfold chkn;rw[Vaf (by omega)]);have zD:(4096:Int)<(n:Int):=(by omega);clear ha hn hb h9;go_enter Tryz.func126,Tryz.ntmps126;go_wp2;go_returns;rw[hc.o];exact Qu 9 dx
 ·have hc:Hid (chkn l=2):=h_ (by
   unfold chkn at hb⊢;rw[Vad (by omega)] at hb⊢;by_cases h:∀n∈l,0<=n/\n<4096
   ·rw[Vaf h] at hb;exact absurd rfl hb
   ·rw[Vad h])
  have aH:Hid (¬∀n∈l,0<=n/\n<4096):=h_ (by
   intro h;apply hb;exact Z1z (by omega) h)
  have zD:¬(4096:Int)<(n:Int):=(by omega);clear ha hn hb h9;go_enter Tryz.func126,Tryz.ntmps126;go_wp2;go_loop [7,19] (λ_ i=>∃k:Nat,k<=n/\i=.int .i64 k/\Hid (∀v∈l.take k,0<=v/\v<4096)) (λ_ i=>(n-intOf i).toNat);case atStart=>exact⟨0,by omega,rfl,h_ (by simp)⟩
  case round=>
   obtain⟨k,hk,rfl,ao⟩:=hrel;by_cases ab:k<n
   ·have bh:k<l.length:=(by rw[<-av.o];exact ab);obtain⟨v,hv⟩:∃v,l.getD k 0=v:=⟨_,rfl⟩;have da:l[k]=v:=(by rw[<-hv];simp[List.getD,bh]);obtain⟨bA,oA,hA,eD,kQ⟩:=Ha.o.get k (.int .i64 v) (by rw[Xp _ _ bh,hv]);subst hA;by_cases bH:0<=v/\v<4096
    ·obtain⟨o1,o2⟩:=bH;have o3:¬v<0:=(by omega);have o4:¬4096<=v:=(by omega)
     have dj:Hid (∀u∈l.take (k+1),0<=u/\u<4096):=h_ (by
      intro u hu;rw[Vac bh,da] at hu;rcases Vba.1 hu with h|h
      ·exact ao.o u h
      ·rw[Vax] at h;omega)
     clear hv da;go_wp2;go_round;case rel=>exact⟨k+1,by omega,by go_num,dj⟩
     case measure=>simp[intOf]<;>omega
    ·clear hv da;by_cases o1:v<0
     ·clear bH;go_wp2;go_returns;rw[hc.o];exact Qu 2 dx
     ·have o2:4096<=v:=(by omega);clear bH;go_wp2;go_returns;rw[hc.o];exact Qu 2 dx
   ·exfalso;apply aH.o;have:=ao.o
    rwa [Vai (by rw[<-av.o];omega)] at this
theorem Z1R {w:World} {A:Option Addr} {l:List Nat} (ha:At w A (ivs (l.map Int.ofNat))) (n cap:Nat) (hn:n=l.length) (hl:l.length<=4096) (hv:∀v∈l,v<4096):
  Calls Tryz.prog 126 #[.slice A n cap,.func (.func 201) #[] #[]] w λx w'=>NRes w x w' (Y1 r0 l,0):=by
 have Ha:=h_ ha;have av:=h_ hn;have Hv:=h_ hv;have bf:n<=4096:=(by omega);have zD:¬(4096:Int)<(n:Int):=(by omega);have gd:=h_ (Zbu w);have nt:=h_ (λ(v:Nat) (h:v<4096)=>show v∈r0 from List.mem_range.2 h);have DE:=h_ (show r0.length=4096 from Vbv);clear ha hn hv hl;go_enter Tryz.func126,Tryz.ntmps126;go_wp2;go_loop [7,19] (λ_ i=>∃k:Nat,k<=n/\i=.int .i64 k) (λ_ i=>(n-intOf i).toNat);case atStart=>exact⟨0,by omega,rfl⟩
 case round=>
  obtain⟨k,hk,rfl⟩:=hrel;by_cases ab:k<n
  ·have bh:k<l.length:=(by rw[<-av.o];exact ab);obtain⟨v,ff⟩:∃v,l.getD k 0=v:=⟨_,rfl⟩
   have kR:v<4096:=by
    have h1:l.getD k 0=l[k]:=(by simp[List.getD,bh]);rw[<-ff,h1];exact Hv.o _ (Vaj _)
   obtain⟨bA,oA,hA,eD,kQ⟩:=Ha.o.get k (.int .i64 (v:Int)) (by
    rw[Xp _ _ (by rw[Vag];exact bh)];have h1:(l.map Int.ofNat).getD k 0=((l.getD k 0:Nat):Int):=(by simp[List.getD,bh]);rw[h1,ff])
   subst hA;have o3:¬(v:Int)<0:=(by omega);have o4:¬(4096:Int)<=(v:Int):=(by omega);clear ff kR;go_wp2;go_round;case rel=>exact⟨k+1,by omega,by go_num⟩
   case measure=>simp[intOf]<;>omega
  ·have dY:k=n:=(by omega);subst dY;go_wp2_with fail;refine(gd.o).mono ?_;rintro x w1 ⟨rfl,cI,a7⟩;have aM:=a7.size;have bG:=Yi (P:=Tryz.prog) 31 3 _ _ Tryz.underlying31 ZS rfl (k:Int) k rfl (by omega) (by omega) w1;rw[<-Z1Q] at bG;have fk:=Ha.o.below a7;have df:=cI.lt;have bR:=cI.alloc (.cells (nc (List.replicate k 0)) 3);have a8:=a7.alloc aM (.cells (nc (List.replicate k 0)) 3);have mP:=fk.alloc (.cells (nc (List.replicate k 0)) 3);have dI:=Bk.new w1 3 (nc (List.replicate k 0));have Hs:=h_ (show w.heap.size<w1.heap.size/\w.heap.size≠w1.heap.size from⟨by omega,by omega⟩);clear cI a7 fk;go_wp2;go_loopw [8,10,11,12,13,36] (λs8 _ _ _ _ i wr=>∃j:Nat,j<=k/\i=.int .i64 j/\s8=.slice (some ⟨w.heap.size,0,none⟩) 4096 4096/\Bk wr w.heap.size 3 (nc (rowU r0 (l.take j)))/\Bk wr w1.heap.size 3 (nc (Y1 r0 (l.take j)++List.replicate (k-j) 0))/\At wr A (ivs (l.map Int.ofNat))/\Below w.heap.size w wr) (λ_ _ _ _ _ i _=>(k-intOf i).toNat);case atStart=>exact⟨0,by omega,rfl,rfl,bR,dI,mP,a8⟩
   case round=>
    clear bR dI mP a8 bG;obtain⟨j,hj,rfl,rfl,bd,bx,an,hf⟩:=hrel;have dy:∀m∈l.take j,m<4096:=λm hm=>Hv.o m (Vcd hm);by_cases bS:j<k
    ·have bh:j<l.length:=(by rw[<-av.o];exact bS);obtain⟨v,ff⟩:∃v,l.getD j 0=v:=⟨_,rfl⟩
     have kR:v<4096:=by
      have h1:l.getD j 0=l[j]:=(by simp[List.getD,bh]);rw[<-ff,h1];exact Hv.o _ (Vaj _)
     obtain⟨bA,oA,hA,eD,kQ⟩:=an.get j (.int .i64 (v:Int)) (by
      rw[Xp _ _ (by rw[Vag];exact bh)];have h1:(l.map Int.ofNat).getD j 0=((l.getD j 0:Nat):Int):=(by simp[List.getD,bh]);rw[h1,ff])
     subst hA;obtain⟨nz,rh⟩:=Z3R (l.take j) v r0;rw[<-ff,<-Z2N l j bh,ff] at nz rh;have fD:=YX (l.take j) r0;rw[Vau,Nat.min_eq_left (by omega)] at fD;have fw:(rowU r0 (l.take j)).length=4096:=(Zi9 (l.take j) r0 (λm hm=>by rw[DE.o];exact dy m hm)).trans DE.o;have kS:True:=trivial;obtain⟨R,hR⟩:∃R,rowU r0 (l.take j)=R:=⟨_,rfl⟩;obtain⟨O,hO⟩:∃O,Y1 r0 (l.take j)=O:=⟨_,rfl⟩;rw[hR] at nz rh bd fw;rw[hO] at nz bx fD;have aS:=h_ (Z4R bd fw v kR);obtain⟨pl,pt⟩:∃pl,R.getD v 0=pl:=⟨_,rfl⟩;rw[pt] at nz aS;clear pt;have vj:=h_ nz;have vk:=h_ rh;have pw:=h_ bd;have dE:=Z7A O k pl (by omega);rw[fD] at dE;have aZ:=h_ dE;have aj:=bx.put j (.int .i64 ((pl:Nat):Int));rw[QE,aZ.o] at aj;have fQ:(O++List.replicate (k-j) 0).length=k:=(by rw[Vab,Vaw];omega);obtain⟨y0,bP⟩:∃y0:Int,wr.cell? ⟨w1.heap.size,j,none⟩=some (.int .i64 y0):=⟨_,by rw[bx.cell,X0 _ _ (by omega)]⟩;have xQ:=bx.frozen j;have eM:=bd.off (p:=⟨w1.heap.size,j,none⟩) (Hs.o.2) (.int .i64 ((pl:Nat):Int));have aR:=hf.setCell (p:=⟨w1.heap.size,j,none⟩) (Nat.le_of_lt Hs.o.1) (.int .i64 ((pl:Nat):Int));have FX:=h_ (Z7z eM fw v (by exact kR));have az:=h_ aj;have gM:=h_ aR;clear nz rh dE aj fQ bd bx hR hO ff fD dy eM aR an hf fw kS;go_wp2_with fail;refine(aS.o).mono ?_;rintro x w3 ⟨rfl,rfl⟩;go_wp2_with fail;refine(FX.o).mono ?_;rintro x w4 ⟨rfl,gN,aG⟩;have px:=az.o.fr aG (λe=>Hs.o.2 e.symm);have au:Below w.heap.size w w4:=gM.o.trans (aG.toBelow' gM.o.size (λi hi e=>by have:i=w.heap.size:=e;omega));have zy:=Ha.o.below au;go_wp2;go_roundw;case rel=>exact⟨j+1,by omega,by go_num,rfl,by rw[vk.o];exact gN,by rw[vj.o];exact px,zy,au⟩
     case measure=>simp[intOf]<;>omega
    ·have qX:j=k:=(by omega);subst qX;have ax:l.take j=l:=Vai (by rw[<-av.o];exact UZz);rw[ax,Va7,List.replicate_zero,Va3] at bx;have bL:=h_ bx.at_;have fD:=h_ (YX l r0);clear bd bx an ax dy;go_wp2;go_returns;have h9:=bL.o;rw[ZgU] at h9;exact⟨.slice (some ⟨w1.heap.size,0,none⟩) j j,rfl,⟨some ⟨w1.heap.size,0,none⟩,j,by rw[Vag,fD.o,<-av.o],h9⟩,hf⟩
theorem Z0e {l:List Int} (h:∀n∈l,0<=n/\n<4096):(l.map Int.toNat).map Int.ofNat=l:=by
 rw[Vb7];refine(List.map_congr_left λn hn=> ?_).trans (List.map_id l);exact Int.toNat_of_nonneg (h n hn).1
theorem Z8Q {w:World} {A:Option Addr} {l:List Int} (ha:At w A (ivs l)) (n cap:Nat) (hn:n=l.length) (hm:n<=9223372036854775807):
  Calls Tryz.prog 126 #[.slice A n cap,.func (.func 127) #[] #[]] w λx w'=>NRes w x w' (front l):=by
 by_cases hc:chkn l=0
 ·obtain⟨h1,h2⟩:=Z1c hc;have e:=Z0e h2;have hf:front l=(Yb r0 (l.map Int.toNat),0):=(by unfold front;rw[Vaf hc]);rw[hf]
  exact Z3S (by rw[e];exact ha) n cap (by rw[Vag];exact hn) (by rw[Vag];exact h1) (λv hv=>by
   obtain⟨u,hu,rfl⟩:=Va6.1 hv;have:=h2 u hu;omega)
 ·have hf:front l=([],chkn l):=(by unfold front;rw[Vad hc]);rw[hf];exact Z2x ha n cap hn hm hc
theorem Z4S {w:World} {A:Option Addr} {l:List Int} (ha:At w A (ivs l)) (n cap:Nat) (hn:n=l.length) (hm:n<=9223372036854775807):
  Calls Tryz.prog 126 #[.slice A n cap,.func (.func 201) #[] #[]] w λx w'=>NRes w x w' (ZK l):=by
 by_cases hc:chkn l=0
 ·obtain⟨h1,h2⟩:=Z1c hc;have e:=Z0e h2;have hf:ZK l=(Y1 r0 (l.map Int.toNat),0):=(by unfold ZK;rw[Vaf hc]);rw[hf]
  exact Z1R (by rw[e];exact ha) n cap (by rw[Vag];exact hn) (by rw[Vag];exact h1) (λv hv=>by
   obtain⟨u,hu,rfl⟩:=Va6.1 hv;have:=h2 u hu;omega)
 ·have hf:ZK l=([],chkn l):=(by unfold ZK;rw[Vad hc]);rw[hf];exact Z18 ha n cap hn hm hc
theorem Z8R {w:World} {A:Option Addr} {l:List Int} (ha:At w A (ivs l)) (n cap:Nat) (hn:n=l.length) (hm:n<=9223372036854775807):
  Calls Tryz.prog 81 #[.slice A n cap] w λx w'=>NRes w x w' (front l):=by
 have H:=h_ (Z8Q ha n cap hn hm);generalize front l=r at*;clear ha hn;go_enter Tryz.func81,Tryz.ntmps81;go_wp2_with fail;refine(H.o).mono ?_;rintro x w1 ⟨v,rfl,hi,hb⟩;go_wp2;go_returns;exact⟨v,rfl,hi,hb⟩
theorem Z4T {w:World} {A:Option Addr} {l:List Int} (ha:At w A (ivs l)) (n cap:Nat) (hn:n=l.length) (hm:n<=9223372036854775807):
  Calls Tryz.prog 154 #[.slice A n cap] w λx w'=>NRes w x w' (ZK l):=by
 have H:=h_ (Z4S ha n cap hn hm);generalize ZK l=r at*;clear ha hn;go_enter Tryz.func154,Tryz.ntmps154;go_wp2_with fail;refine(H.o).mono ?_;rintro x w1 ⟨v,rfl,hi,hb⟩;go_wp2;go_returns;exact⟨v,rfl,hi,hb⟩
def svs (l:List ByteArray):List Value:=l.map sv
theorem Ys (l:List ByteArray) (i:Nat) (h:i<l.length):(svs l)[i]? =some (.string l[i]):=by
 simp[svs,sv,Vao h]
theorem Zby (s:ByteArray) (hs:s.size<=9223372036854775807) (w:World):
  Calls Tryz.prog 78 #[.string s] w λx w'=>x=.returned (.bool (decide (128<s.size)))/\w=w':=by
 have h:=h_ (show decide ((128:Int)<(s.size:Int))=decide (128<s.size) from by
  rw[Vbl,Vaq,Vaq];omega)
 go_enter Tryz.func78,Tryz.ntmps78;go_wp2;go_ret;exact⟨Z2 h.o,rfl⟩
def Zlh (w:World) (L:Bool) (x:Ending) (w':World):Prop:=((∃k:Nat,k<=4096/\L=true/\x=.returned (.int .i64 k))\/(L=false/\x=.returned (.int .i64 (-1))))/\w=w'
def Z6b (l:List ByteArray):Bool:=decide (∃s∈l,128<s.size)
theorem Z7B {w:World} {A:Option Addr} {l:List ByteArray} (ha:At w A (svs l)) (ad:∀s∈l,s.size<=9223372036854775807) (n cap:Nat) (hn:n=l.length) (hm:n<=4096):
  Calls Tryz.prog 77 #[.slice A n cap,.func (.func 78) #[] #[]] w λx w'=>x=.returned (.bool (Z6b l))/\w=w':=by
 have H:Hid (Calls Tryz.prog 124 #[.slice A n cap,.func (.func 78) #[] #[]] w λx w'=>Zlh w (Z6b l) x w'):=h_ (by
  have Ha:=h_ ha;have Hn:=h_ hn;have Hs:=h_ ad;clear ha hn ad;go_enter Tryz.func124,Tryz.ntmps124;go_wp2;go_loop [5,8] (λ_ i=>∃k:Nat,k<=n/\i=.int .i64 k/\Hid (∀s∈l.take k,¬128<s.size)) (λ_ i=>(n-intOf i).toNat);case atStart=>exact⟨0,by omega,rfl,h_ (by simp)⟩
  case round=>
   obtain⟨k,hk,rfl,ao⟩:=hrel;by_cases ab:k<n
   ·have bh:k<l.length:=(by rw[<-Hn.o];exact ab);obtain⟨s,hs⟩:∃s,l[k]=s:=⟨_,rfl⟩;obtain⟨bA,oA,hA,eD,kQ⟩:=Ha.o.get k (.string s) (by rw[Ys l k bh,hs]);subst hA;have Hc:=Zby s (Hs.o s (hs▸Vaj _)) w;by_cases hl:128<s.size
    ·rw[Vam hl] at Hc;have Hc:=h_ Hc;have hL:Z6b l=true:=Vam ⟨s,hs▸Vaj _,hl⟩;have HL:=h_ hL;clear hL hl hs;go_wp2_with fail;refine(Hc.o).mono ?_;rintro x w1 ⟨rfl,rfl⟩;go_wp2;go_ret;exact⟨.inl ⟨k,by omega,HL.o,rfl⟩,rfl⟩
    ·rw[Vah hl] at Hc;have Hc:=h_ Hc
     have dj:Hid (∀u∈l.take (k+1),¬128<u.size):=h_ (by
      intro u hu;rw[Vac bh,hs] at hu;rcases Vba.1 hu with h|h
      ·exact ao.o u h
      ·rw[Vax] at h;rw[h];exact hl)
     clear hl hs;go_wp2_with fail;refine(Hc.o).mono ?_;rintro x w1 ⟨rfl,rfl⟩;go_wp2;go_round;case rel=>exact⟨k+1,by omega,by go_num,dj⟩
     case measure=>simp[intOf]<;>omega
   ·have hL:Z6b l=false:=Vah (by
     rintro⟨s,h1,h2⟩;refine ao.o s ?_ h2
     rwa [Vai (by rw[<-Hn.o];omega)])
    have HL:=h_ hL;clear hL;go_wp2;go_ret;exact⟨.inr ⟨HL.o,rfl⟩,rfl⟩)
 clear ha ad hn;generalize Z6b l=L at*;go_enter Tryz.func77,Tryz.ntmps77;go_wp2_with fail;refine(H.o).mono ?_;rintro x w1 ⟨⟨k,hk,rfl,rfl⟩|⟨rfl,rfl⟩,rfl⟩
 ·go_wp2;go_ret;exact⟨rfl,rfl⟩
 ·go_wp2;go_ret;exact⟨rfl,rfl⟩
end Go.Proofs.YtchokmkfobandaaGreatDoor
namespace Wv
open Go Go.RowKit Wv.Ru
def entl:Nat->List ByteArray->List MapEntry
 |_,[]=>[]
 |k,a::t=>⟨.string a,.int .i64 (k:Int),k⟩::entl (k+1) t
def ents (l:List ByteArray):Array MapEntry:=(entl 0 l).toArray
theorem Zbz (l:List ByteArray) (s:ByteArray):∀k,entl k (l++[s])=entl k l++[⟨.string s,.int .i64 ((k+l.length:Nat):Int),k+l.length⟩]:=by
 induction l with
 |nil=>intro k;rfl
 |cons a t ih=>
  intro k;rw[Vbt,entl,ih,entl,Vaz,show k+1+t.length=k+(t.length+1) from by omega];rfl
theorem ZbA (l:List ByteArray) (s:ByteArray):ents (l++[s])=(ents l).push ⟨.string s,.int .i64 (l.length:Int),l.length⟩:=by
 unfold ents;rw[Zbz];apply Vbj.1;simp
theorem Z4U (s:ByteArray) (l:List ByteArray):∀k i,(s∈l->Instr.findNow .string (.string s) (entl k l) i=some (some (i+ix l s,.int .i64 ((k+ix l s:Nat):Int))))/\(s∉l->Instr.findNow .string (.string s) (entl k l) i=some none):=by
 induction l with
 |nil=>intro k i;exact⟨λh=>absurd h (Vcq),λ_=>rfl⟩
 |cons a t ih=>
  intro k i;obtain⟨r,hr,py⟩:=MapKept.sameNow_of_keys (d:=.string) (a:=.string s) (b:=.string a) trivial trivial;cases r with
  |true=>
   have h1:Value.string s=Value.string a:=py.1 rfl;injection h1 with h1;subst h1;have hx:ix (s::t) s=0:=(by simp[ix]);exact⟨λ_=>by rw[entl,Instr.findNow,hr,hx];rfl,λh=>absurd Vap h⟩
  |false=>
   have h1:a≠s:=λe=>by
    have:=py.2 (by rw[e]);cases this
   have hx:ix (a::t) s=ix t s+1:=(by rw[ix,Vad h1]);obtain⟨i1,i2⟩:=ih (k+1) (i+1);refine⟨λh=> ?_,λh=> ?_⟩
   ·rw[entl,Instr.findNow,hr,hx];simp only;rw[i1 ((Va9.1 h).resolve_left (λe=>h1 e.symm)),show i+1+ix t s=i+(ix t s+1) from by omega,show k+1+ix t s=k+(ix t s+1) from by omega]
   ·rw[entl,Instr.findNow,hr];simp only;exact i2 (λh2=>h (Vat _ h2))
theorem Z7C {s:ByteArray} {l:List ByteArray} (h:s∈l):Instr.findNow .string (.string s) (ents l).toList 0=some (some (ix l s,.int .i64 (ix l s:Nat))):=by
 have:=(Z4U s l 0 0).1 h;simpa [ents] using this
theorem ZbB {s:ByteArray} {l:List ByteArray} (h:s∉l):Instr.findNow .string (.string s) (ents l).toList 0=some none:=by
 have:=(Z4U s l 0 0).2 h;simpa [ents] using this
def MAt (w:World) (b:Nat) (l:List ByteArray):Prop:=w.heap[b]? =some (.map (ents l) l.length)
theorem MAt.lt {w:World} {b:Nat} {l:List ByteArray} (h:MAt w b l):b<w.heap.size:=(Array.getElem?_eq_some_iff.1 h).1
theorem MAt.fr {S:Nat->Prop} {w w':World} {b:Nat} {l:List ByteArray} (h:MAt w b l) (hf:Fr S w w') (hb:¬S b):MAt w' b l:=(hf.block b h.lt hb).trans h
theorem MAt.alloc {w:World} {b:Nat} {l:List ByteArray} (h:MAt w b l) (o:Obj):MAt (w.alloc o) b l:=(Below.heap_alloc w o b h.lt).trans h
theorem MAt.grown {w w':World} {b:Nat} {l:List ByteArray} {row:Option Nat} (h:MAt w b l) (hg:w.grownBy w' row) (ay:some b≠row):MAt w' b l:=(hg.block b h.lt ay).trans h
def QH (w:World) (b:Nat) (l:List ByteArray):World:= { w with heap:=w.heap.setIfInBounds b (.map (ents l) l.length) }
theorem ZbC {w:World} {b:Nat} {l l':List ByteArray} (h:MAt w b l):MAt (QH w b l') b l':=by
 have:=h.lt;simp[MAt,QH,this]
theorem Z4V {S:Nat->Prop} {a w:World} {b:Nat} {l:List ByteArray} (h:Fr S a w) (hb:S b\/a.heap.size<=b):Fr S a (QH w b l):=
 ⟨h.os,h.tape,h.output,by simpa [QH] using h.size,λk hk hn=>by
  refine Eq.trans ?_ (h.block k hk hn)
  have:b≠k:=by
   rintro rfl;rcases hb with hb|hb
   ·exact hn hb
   ·omega
  simp[QH,this]⟩
theorem Z7D {P:Program} {k:TypeId} (hk:P.underlying k=some .string) (e:Bool) (s:ByteArray) (W:World):(Instr.checkKey e 10000 k (.string s)).run P W=.ok () W:=
 MapKept.run_checkKey (w:=W) hk (show MapKept.IsKey .string (.string s) from trivial) e 9999
theorem Zia {P:Program} {t k e:TypeId} (ht:P.underlying t=some (.map k e)) (hk:P.underlying k=some .string) {w:World} {b:Nat} {l:List ByteArray} (h:MAt w b l) (s:ByteArray) (hn:s∉l):
  (Instr.mapUpdate t (.map (some b)) (.string s) (.int .i64 (l.length:Int))).run P w=.ok () (QH w b (l++[s])):=by
 have h2:=λo=>MapKept.run_setObj_map (P:=P) o h;have ai:=ZbB hn;unfold Instr.mapUpdate;simp only[Sem.run_bind,run_underlying ht,Result.andThen_ok,MapKept.run_getObj_map h,Z7D hk,MapKept.run_findKey hk ai,h2];unfold QH;rw[ZbA];simp
theorem Zkk {P:Program} {t k e:TypeId} (ht:P.underlying t=some (.map k e)) (hk:P.underlying k=some .string) {w:World} {b:Nat} {l:List ByteArray} (h:MAt w b l) (s:ByteArray) (hs:s∈l):
  (Instr.lookup t (.map (some b)) (.string s) true).run P w=.ok (.tuple #[.int .i64 (ix l s:Nat),.bool true]) w:=by
 have ai:=Z7C hs;unfold Instr.lookup;simp only[Sem.run_bind,Sem.run_pure,run_underlying ht,Result.andThen_ok,MapKept.run_getObj_map h,Z7D hk,MapKept.run_findKey hk ai];rfl
theorem Zkl {P:Program} {t k e:TypeId} (ht:P.underlying t=some (.map k e)) (hk:P.underlying k=some .string) {w:World} {b:Nat} {l:List ByteArray} (h:MAt w b l) (s:ByteArray) (hs:s∉l) (hz:(zeroValue e).run P w=.ok (.int .i64 0) w):
  (Instr.lookup t (.map (some b)) (.string s) true).run P w=.ok (.tuple #[.int .i64 0,.bool false]) w:=by
 have ai:=ZbB hs;unfold Instr.lookup;simp only[Sem.run_bind,Sem.run_pure,run_underlying ht,Result.andThen_ok,MapKept.run_getObj_map h,Z7D hk,MapKept.run_findKey hk ai,hz];rfl
theorem Zib {P:Program} {t k e:TypeId} (ht:P.underlying t=some (.map k e)) (hk:P.underlying k=some .string) {w:World} {b:Nat} {l:List ByteArray} (h:MAt w b l) (s:ByteArray) (hs:s∈l):
  (Instr.lookup t (.map (some b)) (.string s) false).run P w=.ok (.int .i64 (ix l s:Nat)) w:=by
 have ai:=Z7C hs;unfold Instr.lookup;simp only[Sem.run_bind,Sem.run_pure,run_underlying ht,Result.andThen_ok,MapKept.run_getObj_map h,Z7D hk,MapKept.run_findKey hk ai];rfl
end Wv
namespace Go.Proofs.YtchokmkfobandaaGreatDoor
open Go.RowKit Go.Proofs Wv Wv.Vi Wv.Rc Wv.Mo Wv.Ru
theorem YC:(Tryz.prog.info? 9).map (λi=>(i.zero,i.size,i.bytes))=some (some (.string ByteArray.empty),1,16):=by kernel_rfl
theorem ZbD (w:World):(zeroValue 3).run Tryz.prog w=.ok (.int .i64 0) w:=by kernel_rfl
theorem ZbE (l:List ByteArray) (k:Nat) (h:k<l.length):(l[k]∈dict (l.take k)->dict (l.take (k+1))=dict (l.take k))/\(l[k]∉dict (l.take k)->dict (l.take (k+1))=dict (l.take k)++[l[k]]):=by
 rw[Vac h,YW];exact⟨λh=>by rw[Vaf h],λh=>by rw[Vad h]⟩
def SRes (w:World) (v:Value) (l:List ByteArray):Prop:=∃A cap,v=.slice A l.length cap/\At w A (svs l)
theorem SRes.nil (w:World):SRes w (.slice none 0 0) []:=⟨none,0,rfl,At.nil _ _⟩
theorem Z7E {w:World} {base e:Nat} {v:Value} {l:List ByteArray} (h:w.ownsRow base e 1 v l.length (svs l)):SRes w v l:=by
 obtain⟨A,cap,hv,ha⟩:=Zm h;exact⟨A,cap,hv,ha⟩
def IdxR (w:World) (l:List ByteArray) (x:Ending) (w':World):Prop:=
 ∃v b,x=.returned (.tuple #[v,.map (some b)])/\w.heap.size<=b/\w'.ownsRow w.heap.size 9 1 v (dict l).length (svs (dict l))/\MAt w' b (dict l)/\Below w.heap.size w w'
theorem Xt {w:World} {base e size n b:Nat} {v:Value} {xs:List Value} {l:List ByteArray} (h:w.ownsRow base e size v n xs) (hm:MAt w b l):v.ownBlock≠some b:=by
 rcases h.2 with ⟨rfl,_⟩|⟨g',cap,cur,rfl,_,hh,_⟩
 ·simp[Value.ownBlock]
 ·intro he;have:g'=b:=(by simpa [Value.ownBlock] using he);subst this;unfold MAt at hm;rw[hm] at hh;cases hh
theorem Z4W {w:World} {A:Option Addr} {l:List ByteArray} (ha:At w A (svs l)) (n cap:Nat) (hn:n=l.length) (hm:n<=4096):
  Calls Tryz.prog 125 #[.slice A n cap] w λx w'=>IdxR w l x w':=by
 have jF:= @run_makeMap Tryz.prog;have Ha:=h_ ha;have Hn:=h_ hn;obtain⟨i0,hi,dA,bO,eF⟩:=info_parts YC;have ml:=h_ (And.intro hi (And.intro dA (And.intro bO eF)));have jc:Below w.heap.size w (w.alloc (.map #[] 0)):=(Vae _ _).alloc UZz _;have eW:MAt (w.alloc (.map #[] 0)) w.heap.size []:=heap_alloc_new w _;have Li:=ha.alloc (.map #[] 0);clear ha hn hi dA bO eF;go_enter Tryz.func125,Tryz.ntmps125;go_wp2;go_loopw [4,7,8,9,13] (λv4 _ _ _ i wr=>∃k:Nat,k<=n/\i=.int .i64 k/\wr.ownsRow w.heap.size 9 1 v4 (dict (l.take k)).length (svs (dict (l.take k)))/\MAt wr w.heap.size (dict (l.take k))/\At wr A (svs l)/\Below w.heap.size w wr) (λ_ _ _ _ i _=>(n-intOf i).toNat);case atStart=>exact⟨0,by omega,rfl,Zk,eW,Li,jc⟩
 case round=>
  clear jc eW Li jF;obtain⟨k,hk,rfl,aa,dQ,an,hf⟩:=hrel;by_cases ab:k<n
  ·have bh:k<l.length:=(by rw[<-Hn.o];exact ab);obtain⟨s,hs⟩:∃s,l[k]=s:=⟨_,rfl⟩;obtain⟨bA,oA,hA,eD,kQ⟩:=an.get k (.string s) (by rw[Ys l k bh,hs]);subst hA;obtain⟨d1,d2⟩:=ZbE l k bh;rw[hs] at d1 d2;have gb:=Ym (l.take k);rw[Vau] at gb;obtain⟨D,hD⟩:∃D,dict (l.take k)=D:=⟨_,rfl⟩;rw[hD] at d1 d2 aa dQ gb;by_cases aO:s∈D
   ·have hl:=Zkk (P:=Tryz.prog) Tryz.underlying166 Tryz.underlying9 dQ s aO;have Hd:=h_ (d1 aO);have bZ:=h_ aa;have jN:=h_ dQ;clear d1 d2 hs hD aO aa dQ gb;go_wp2;go_roundw;case rel=>exact⟨k+1,by omega,by go_num,by rw[Hd.o];exact bZ.o,by rw[Hd.o];exact jN.o,an,hf⟩
    case measure=>simp[intOf]<;>omega
   ·have hl:=Zkl (P:=Tryz.prog) Tryz.underlying166 Tryz.underlying9 dQ s aO (ZbD wr);have hu:=Zia (P:=Tryz.prog) Tryz.underlying166 Tryz.underlying9 dQ s aO;obtain⟨A4,gg,kR,dZ⟩:=Zm aa;have rj:=Xt aa dQ;subst kR;have aL:(QH wr w.heap.size (D++[s])).ownsRow w.heap.size 9 1 (.slice A4 D.length gg) D.length (svs D):=Zl aa (Z4V (S:=λj=>j=w.heap.size) (Fr.refl _ wr) (.inl rfl)) (λg hg e=>rj (by rw[hg,e]));have pz:=ZbC (l':=D++[s]) dQ;have ai:Below w.heap.size w (QH wr w.heap.size (D++[s])):=hf.trans ((Z4V (S:=λj=>j=w.heap.size) (Fr.refl _ wr) (.inl rfl)).toBelow' hf.size (λj hj e=>by omega));have og:=d2 aO;have dG:D.length+1<=maxLen:=(by unfold maxLen;omega);have eE:(D.length+1)*16<=140737488355328:=(by omega);obtain⟨W,hW⟩:∃W,QH wr w.heap.size (D++[s])=W:=⟨_,rfl⟩;rw[hW] at hu aL pz ai;have Hd:=h_ og;have bZ:=h_ aL;have jN:=h_ pz;have cl:=h_ ai;have bD:=ai.size;have y9:=h_ dQ.lt;clear d1 d2 hs hD aO aa dQ gb hW aL pz ai dZ og an hf rj;obtain⟨hi,dA,bO,eF⟩:=ml.o
    go_wp2_with (
     at_builtin;refine wpList_append_own_at _ rfl (.tmp 29) (.tmp 31) _ rfl w.heap.size 9 i0 (.string ByteArray.empty) 1 16 Tryz.underlying64 hi dA bO eF rfl (by omega) (.slice A4 D.length gg) D.length (svs D) (by rfl) (bZ.o.alloc _) ⟨W.heap.size,0,none⟩ 1 1 [.string s] (by rfl) rfl (XB _ _ _) (by simp[Value.oneCell']) dG eE (Vas bD (by simp)) ?_;intro v' w1 ah du _ cT;have aJ:=h_ ah;have gA:=h_ du;clear ah du cT)
    have dH:=(jN.o.alloc (.cells #[.string s] 9)).grown gA.o (λe=>Xt (bZ.o) jN.o e.symm);have aR:Below w.heap.size w w1:=(cl.o.alloc bD (.cells #[.string s] 9)).grown gA.o (Vas bD (by simp)) (λj hj=>(bZ.o.lt j hj).1);have zH:=Ha.o.below aR
    have mS:w1.ownsRow w.heap.size 9 1 v' (D++[s]).length (svs (D++[s])):=by
     have:=aJ.o;rw[Vab];unfold svs at this⊢;rw[Vbk];exact this
    clear aJ gA hu hl kQ;go_wp2;go_roundw;case rel=>exact⟨k+1,by omega,by go_num,by rw[Hd.o];exact mS,by rw[Hd.o];exact dH,zH,aR⟩
    case measure=>simp[intOf]<;>omega
  ·have dY:k=n:=(by omega);subst dY;have ax:l.take k=l:=Vai (by rw[<-Hn.o];exact UZz);rw[ax] at aa dQ;clear ax an;go_wp2;go_returns;exact⟨_,_,rfl,UZz,aa,dQ,hf⟩
def DRes (w:World) (l:List ByteArray) (x:Ending) (w':World):Prop:=∃v,x=.returned v/\SRes w' v l/\Below w.heap.size w w'
theorem Z2y {w:World} {A:Option Addr} {l:List ByteArray} (ha:At w A (svs l)) (n cap:Nat) (hn:n=l.length) (hm:n<=4096):
  Calls Tryz.prog 79 #[.slice A n cap] w λx w'=>DRes w (dict l) x w':=by
 have H:=h_ (Z4W ha n cap hn hm);clear ha hn;go_enter Tryz.func79,Tryz.ntmps79;go_wp2_with fail;refine(H.o).mono ?_;rintro x w1 ⟨v,b,rfl,hb,ho,eJ,hf⟩;have hr:=Z7E ho;clear ho eJ;go_wp2;go_ret;exact⟨v,rfl,hr,hf⟩
end Go.Proofs.YtchokmkfobandaaGreatDoor
namespace Wv
open Go Go.RowKit Wv.Ru
theorem Zf8 {w:World} {base g n cap size:Nat} {e:TypeId} {xs:List Value} (h:w.ownsRow base e size (.slice (some ⟨g,0,none⟩) n cap) n xs) (i:Nat) (u:Value):
  (w.setCell ⟨g,i,none⟩ u).ownsRow base e size (.slice (some ⟨g,0,none⟩) n cap) n (xs.set i u):=by
 refine⟨by rw[Vbh];exact h.1,?_⟩;rcases h.2 with ⟨h2,_⟩|⟨g',bw,cur,hv,hb,hg,oL,lX,hcs,ax⟩
 ·cases h2
 ·injection hv with bq bm eu;injection bq with bq;injection bq with bq;subst bq;subst eu;refine .inr ⟨g,cap,cur.setIfInBounds i u,rfl,hb,?_,oL,lX,by rw[Array.size_setIfInBounds];exact hcs,?_⟩
  ·simp[World.setCell,Array.getElem?_modify,hg]
  ·rw[<-ax,Array.toList_setIfInBounds,List.take_set]
theorem ZbF {w:World} {base g n cap size:Nat} {e:TypeId} {xs:List Value} (h:w.ownsRow base e size (.slice (some ⟨g,0,none⟩) n cap) n xs) (i:Nat) (u:Value) (hu:xs[i]? =some u):
  w.cell? ⟨g,i,none⟩=some u/\w.frozen? ⟨g,i,none⟩=false:=by
 have h1:=h.cells (g:=g) rfl i u hu;have:(⟨g,0,none⟩:Addr).add i=⟨g,i,none⟩:=(by unfold Addr.add;split<;>simp_all);rw[this] at h1;refine⟨h1,?_⟩;rcases h.2 with ⟨h2,_⟩|⟨g',bw,cur,hv,hb,hg,_⟩
 ·cases h2
 ·injection hv with bq bm eu;injection bq with bq;injection bq with bq;subst bq;simp[World.frozen?,hg]
theorem ZbG {w:World} {base n size:Nat} {e:TypeId} {v:Value} {xs:List Value} (h:w.ownsRow base e size v n xs) (hn:0<n):∃g cap,v=.slice (some ⟨g,0,none⟩) n cap/\n<=cap:=by
 rcases h.2 with ⟨_,h2⟩|⟨g',bw,cur,hv,hb,hg,hc,_⟩
 ·omega
 ·exact⟨g',bw,hv,hc⟩
theorem Z7F (w:World) (t:TypeId) (a b:Value):∀(j:Nat) (u:Value),[a,b][j]? =some u->(w.alloc (.cells #[a,b] t)).cell? ((⟨w.heap.size,0,none⟩:Addr).add j)=some u:=by
 intro j u h;rw[Go.WideShapes.add_plain,Vbo];have:=(Bk.new w t #[a,b]).cell j;rw[this];simpa using h
theorem Zic (l:List (Int×Int)) (x:Int×Int) (c:Int):(pv (l++[x])).set (l.length*2+1) (iv c)=pv (l++[(x.1,c)]):=by
 rw[Z3J,Z3J,Va8 _ _ (by rw[Z1M];omega),Z1M,show l.length*2+1-l.length*2=1 from by omega];rfl
theorem QI {a b:ByteArray} :(a.toList==b.toList)=decide (a=b):=by
 rw[Vbl,beq_iff_eq,Vaq,ByteArray.toList_eq,ByteArray.toList_eq];exact Zhq
end Wv
namespace Go.Proofs.YtchokmkfobandaaGreatDoor
open Go.RowKit Go.Proofs Wv Wv.Vi Wv.Rc Wv.Mo Wv.Ru
theorem ZgV:(Tryz.prog.info? 134).map (λi=>(i.zero,i.size,i.bytes))=some (some (.agg #[.int .i64 0,.int .i64 0]),2,16):=by kernel_rfl
theorem ZbH (d l:List ByteArray) (k:Nat) (h:k<l.length):
  (0<k->l[k-1]? =some l[k]->runs d (l.take (k+1))=bump (runs d (l.take k)))/\((k=0\/l[k-1]? ≠some l[k])->runs d (l.take (k+1))=runs d (l.take k)++[(ix d l[k],1)]):=by
 have hg:0<k->(l.take k).getLast? =l[k-1]? :=by
  intro h0;rw[List.getLast?_eq_getElem?,Vau,Nat.min_eq_left (by omega),List.getElem?_take_of_lt (by omega)]
 rw[Vac h,YA];refine⟨λh0 he=> ?_,λhc=> ?_⟩
 ·rw[hg h0,Vaf he]
 ·rcases Vbm k with h0|h0
  ·subst h0;rw[Vad (by simp)]
  ·rw[hg h0,Vad (hc.resolve_left (by omega))]
theorem ZbI (d l:List ByteArray) (k:Nat) (h:k<l.length):∃xs c,runs d (l.take (k+1))=xs++[(ix d l[k],c)]/\1<=c:=by
 rw[Vac h];exact Z9Z d (l.take k) l[k]
def PRes (w:World) (r:List (Int×Int)) (x:Ending) (w':World):Prop:=∃A cap,x=.returned (.slice A r.length cap)/\At w' A (pv r)/\Below w.heap.size w w'
theorem Zf9 {w:World} {A:Option Addr} {l:List ByteArray} (ha:At w A (svs l)) (n cap:Nat) (hn:n=l.length) (hm:n<=4096):
  Calls Tryz.prog 80 #[.slice A n cap] w λx w'=>PRes w (Yh (runs (dict l) l)) x w':=by
 have H:=h_ (Z4W ha n cap hn hm);have Ha:=h_ ha;have Hn:=h_ hn;obtain⟨i0,hi,dA,bO,eF⟩:=info_parts ZgV;have ml:=h_ (And.intro hi (And.intro dA (And.intro bO eF)));obtain⟨Dl,tO⟩:∃Dl,dict l=Dl:=⟨_,rfl⟩;have FY:=h_ (λs (hs:s∈l)=>show s∈Dl from tO▸(YL l s).2 hs);have sd:=h_ tO;clear ha hn hi dA bO eF tO;go_enter Tryz.func80,Tryz.ntmps80;go_wp2_with fail;refine(H.o).mono ?_;rintro x w1 ⟨v,b,rfl,hb,ho,eJ,hf⟩;rw[sd.o] at eJ;have fk:=Ha.o.below hf;clear ho;go_wp2;go_loopw [5,6,7,15] (λv5 _ _ i wr=>∃k:Nat,k<=n/\i=.int .i64 k/\wr.ownsRow w1.heap.size 134 2 v5 (Yh (runs Dl (l.take k))).length (pv (Yh (runs Dl (l.take k))))/\MAt wr b Dl/\At wr A (svs l)/\Below w1.heap.size w1 wr) (λ_ _ _ i _=>(n-intOf i).toNat);case atStart=>exact⟨0,by omega,rfl,Zk,eJ,fk,Vae _ _⟩
 case round=>
  have oi:=h_ eJ.lt;clear eJ fk;obtain⟨k,hk,rfl,aa,dQ,an,aC⟩:=hrel;by_cases ab:k<n
  ·have bh:k<l.length:=(by rw[<-Hn.o];exact ab);obtain⟨s,hs⟩:∃s,l[k]=s:=⟨_,rfl⟩;have mT:=FY.o s (hs▸Vaj _);obtain⟨bA,oA,hA,eD,kQ⟩:=an.get k (.string s) (by rw[Ys l k bh,hs]);subst hA;obtain⟨r1,r2⟩:=ZbH Dl l k bh;rw[hs] at r1 r2;have df:=Yn Dl (l.take k);rw[Vau] at df;by_cases mU:0<k/\l[k-1]? =some s
   ·obtain⟨h0,vo⟩:=mU
    have iy:=an.get (k-1) (.string s) (by
     rw[svs,Vbc,vo];rfl)
    obtain⟨R8,R9,dR,_,ya⟩:=iy;injection dR with dR;injection dR with dR vp;subst dR;subst vp;obtain⟨xs,c,hx,cq⟩:=ZbI Dl l (k-1) (by omega);rw[show k-1+1=k from by omega] at hx;obtain⟨ii,se⟩:∃ii,ix Dl (l[k-1]'(by omega))=ii:=⟨_,rfl⟩;rw[se] at hx;have cI:=r1 h0 vo;rw[hx,Z1x] at cI;rw[hx] at aa df;have dN:Yh (xs++[(ii,c)])=Yh xs++[((ii:Int),(c:Int))]:=(by simp[Yh]);have fE:Yh (xs++[(ii,c+1)])=Yh xs++[((ii:Int),(c:Int)+1)]:=(by simp[Yh]);rw[dN] at aa;have oU:=Zic (Yh xs) ((ii:Int),(c:Int)) ((c:Int)+1);obtain⟨X,hX⟩:∃X,Yh xs=X:=⟨_,rfl⟩;have FZ:X.length=xs.length:=(by rw[<-hX];simp[Yh]);rw[hX] at aa oU fE;rw[Vab,Vbe] at aa;obtain⟨g,aE,pA,zG⟩:=ZbG aa (by omega);subst pA
    have hcell:=ZbF aa (X.length*2+1) (iv (c:Int)) (by
     have:=(Z7s (X++[((ii:Int),(c:Int))]) X.length (by simp)).2;simpa using this)
    obtain⟨q1,q2⟩:=hcell;have aj:=Zf8 aa (X.length*2+1) (iv ((c:Int)+1));rw[oU] at aj
    have jb:c<=4096:=by
     have:=(Qo Dl (l.take k) (ii,c) (by rw[hx];simp)).2.2;rw[Vau] at this;simp only at this;omega
    have G0:=aC.setCell (p:=⟨g,X.length*2+1,none⟩) ((aa.lt g rfl).1) (iv ((c:Int)+1))
    have dV:xs.length+1<=k:=by
     rw[Vab,Vbe] at df;omega
    have hlen:X.length<=4096:=(by omega);have i1:((X.length:Int)+1)-1=(X.length:Int):=(by omega)
    have Lj:MAt (wr.setCell ⟨g,X.length*2+1,none⟩ (iv ((c:Int)+1))) b Dl:=(Below.heap_setCell wr ⟨g,X.length*2+1,none⟩ _ b (by
     intro e;exact Xt aa dQ (by show some g=some b;rw[e]))).trans dQ
    have vq:At (wr.setCell ⟨g,X.length*2+1,none⟩ (iv ((c:Int)+1))) (some ⟨bA,oA,none⟩) (svs l):=(Ha.o.below hf).below G0;have heq:(s.toList==s.toList)=true:=(by simp);have cg:(0:Int)<(k:Int):=(by omega);have ik:(k:Int)-1=((k-1:Nat):Int):=(by omega);obtain⟨kp,sf⟩:∃kp,k-1=kp:=⟨_,rfl⟩;rw[sf] at ik ya;have G4:(kp:Int)<(n:Int):=(by omega);have ju:w1.heap.size<=g:=(aa.lt g rfl).1;unfold iv at q1;have rk:=h_ cI;have vr:=h_ fE;have az:=h_ aj;have Ra:=h_ Lj;have Rb:=h_ vq;have Re:=h_ G0;clear r1 r2 hs hx cI dN fE oU hX FZ aa aj Lj vq G0 se dQ an df sf mT vo aC;go_wp2;go_roundw
    case rel=>
     refine⟨k+1,by omega,by go_num,?_,Ra.o,Rb.o,Re.o⟩;rw[rk.o,vr.o,Vab,Vbe];exact az.o
    case measure=>simp[intOf]<;>omega
   ·have bE:k=0\/l[k-1]? ≠some s:=by
     rcases Vbm k with h0|h0
     ·exact .inl h0
     ·exact .inr (λh=>mU ⟨h0,h⟩)
    have bR:=r2 bE;have hl:=Zib (P:=Tryz.prog) Tryz.underlying166 Tryz.underlying9 dQ s mT;obtain⟨ii,se⟩:∃ii,ix Dl s=ii:=⟨_,rfl⟩;rw[se] at bR hl;obtain⟨R,hR⟩:∃R,runs Dl (l.take k)=R:=⟨_,rfl⟩;rw[hR] at bR aa df;have fE:Yh (R++[(ii,1)])=Yh R++[((ii:Int),1)]:=(by simp[Yh]);obtain⟨X,hX⟩:∃X,Yh R=X:=⟨_,rfl⟩;have FZ:X.length=R.length:=(by rw[<-hX];simp[Yh]);rw[hX] at aa fE;obtain⟨A4,gg,kR,dZ⟩:=Zm aa;subst kR;have dG:X.length+1<=maxLen:=(by unfold maxLen;omega);have eE:(X.length+1)*16<=140737488355328:=(by omega);have bD:=aC.size
    have ey:(k=0)\/(0<k/\∃s2:ByteArray,(s2.toList==s.toList)=false/\wr.cell? ⟨bA,oA+(k-1),none⟩=some (.string s2)):=by
     rcases Vbm k with h0|h0
     ·exact .inl h0
     ·right;have gh:k-1<l.length:=(by omega);obtain⟨R8,R9,dR,_,ya⟩:=an.get (k-1) (.string (l[k-1])) (Ys l (k-1) gh);injection dR with dR;injection dR with dR vp;subst dR;subst vp;refine⟨h0,l[k-1],?_,ya⟩;rw[QI,Vbq];intro e;refine mU ⟨h0,?_⟩;rw[Vao gh,e]
    have fG:=h_ bR;have vr:=h_ fE;have bZ:=h_ aa;have jN:=h_ dQ;have cS:=h_ aC;have Ll:=h_ hf;clear r1 r2 hs bR fE hX aa dQ an df se hR dZ mU bE aC FZ mT hf;obtain⟨hi,dA,bO,eF⟩:=ml.o;rcases ey with cg|⟨cg,s2,cR,ya⟩
    ·have bk:¬(0:Int)<(k:Int):=(by omega);clear cg
     go_wp2_with (
      at_builtin;refine wpList_append_own_at _ rfl (.tmp 41) (.tmp 46) _ rfl w1.heap.size 134 i0 (.agg #[.int .i64 0,.int .i64 0]) 2 16 Tryz.underlying131 hi dA bO eF rfl (by omega) (.slice A4 X.length gg) X.length (pv X) (by rfl) (bZ.o.alloc _) ⟨wr.heap.size,0,none⟩ 1 1 [iv (ii:Int),iv 1] (by rfl) rfl (Z7F _ _ _ _) (by simp[Value.oneCell',iv]) dG eE (Vas bD (by simp)) ?_;intro v' w2 ah du _ cT;have aJ:=h_ ah;have gA:=h_ du;clear ah du cT)
     have dH:=(jN.o.alloc (.cells #[.int .i64 (ii:Int),.int .i64 1] 134)).grown gA.o (λe=>Xt bZ.o jN.o e.symm);have aR:Below w1.heap.size w1 w2:=(cS.o.alloc bD (.cells #[.int .i64 (ii:Int),.int .i64 1] 134)).grown gA.o (Vas bD (by simp)) (λj hj=>(bZ.o.lt j hj).1);have zH:=(Ha.o.below Ll.o).below aR
     have mS:w2.ownsRow w1.heap.size 134 2 v' (X++[((ii:Int),(1:Int))]).length (pv (X++[((ii:Int),(1:Int))])):=by
      have:=aJ.o;rw[Vab,Z3J];exact this
     clear aJ gA hl kQ;go_wp2;go_roundw;case rel=>exact⟨k+1,by omega,by go_num,by rw[fG.o,vr.o];exact mS,dH,zH,aR⟩
     case measure=>simp[intOf]<;>omega
    ·have bk:(0:Int)<(k:Int):=(by omega);have ik:(k:Int)-1=((k-1:Nat):Int):=(by omega);obtain⟨kp,sf⟩:∃kp,k-1=kp:=⟨_,rfl⟩;rw[sf] at ik ya;have G4:(kp:Int)<(n:Int):=(by omega);clear sf cg
     go_wp2_with (
      at_builtin;refine wpList_append_own_at _ rfl (.tmp 41) (.tmp 46) _ rfl w1.heap.size 134 i0 (.agg #[.int .i64 0,.int .i64 0]) 2 16 Tryz.underlying131 hi dA bO eF rfl (by omega) (.slice A4 X.length gg) X.length (pv X) (by rfl) (bZ.o.alloc _) ⟨wr.heap.size,0,none⟩ 1 1 [iv (ii:Int),iv 1] (by rfl) rfl (Z7F _ _ _ _) (by simp[Value.oneCell',iv]) dG eE (Vas bD (by simp)) ?_;intro v' w2 ah du _ cT;have aJ:=h_ ah;have gA:=h_ du;clear ah du cT)
     have dH:=(jN.o.alloc (.cells #[.int .i64 (ii:Int),.int .i64 1] 134)).grown gA.o (λe=>Xt bZ.o jN.o e.symm);have aR:Below w1.heap.size w1 w2:=(cS.o.alloc bD (.cells #[.int .i64 (ii:Int),.int .i64 1] 134)).grown gA.o (Vas bD (by simp)) (λj hj=>(bZ.o.lt j hj).1);have zH:=(Ha.o.below Ll.o).below aR
     have mS:w2.ownsRow w1.heap.size 134 2 v' (X++[((ii:Int),(1:Int))]).length (pv (X++[((ii:Int),(1:Int))])):=by
      have:=aJ.o;rw[Vab,Z3J];exact this
     clear aJ gA hl kQ ya;go_wp2;go_roundw;case rel=>exact⟨k+1,by omega,by go_num,by rw[fG.o,vr.o];exact mS,dH,zH,aR⟩
     case measure=>simp[intOf]<;>omega
  ·have dY:k=n:=(by omega);subst dY;have ax:l.take k=l:=Vai (by rw[<-Hn.o];exact UZz);rw[ax] at aa;obtain⟨A2,aE,hv,bL⟩:=Zm aa;subst hv;have kT:=h_ bL;clear ax an aa dQ bL;go_wp2;go_ret;rw[sd.o];exact⟨A2,aE,rfl,kT.o,hf.trans (aC.mono hf.size)⟩
def TRes (w:World) (r:List ByteArray×Nat) (x:Ending) (w':World):Prop:=∃v,x=.returned (.tuple #[v,.int .i64 (r.2:Int)])/\SRes w' v r.1/\Below w.heap.size w w'
theorem XL {w w':World} (e:Nat) (hb:Below w.heap.size w w'):TRes w ([],e) (.returned (.tuple #[.slice none 0 0,.int .i64 (e:Int)])) w':=⟨_,rfl,SRes.nil _,hb⟩
theorem Z6c (d:List ByteArray) (l:List (Int×Int)) (k:Nat) (h:k<l.length) (acc:List ByteArray):
  ZC d (l.drop k) acc=if l[k].1<0\/(d.length:Int)<=l[k].1\/l[k].2<1 then([],2) else if 4096-(acc.length:Int)<l[k].2 then([],9)
   else ZC d (l.drop (k+1)) (acc++List.replicate l[k].2.toNat (d.getD l[k].1.toNat default)):=by
 rw[Va4 h,ZC]
theorem Z8S {w:World} {A B:Option Addr} {d:List ByteArray} {l:List (Int×Int)} (ha:At w A (svs d)) (hp:At w B (pv l)) (n cap m aE:Nat) (hn:n=d.length) (hm:m=l.length) (bf:n<=9223372036854775807) (jv:m<=9223372036854775807):
  Calls Tryz.prog 155 #[.slice A n cap,.slice B m aE] w λx w'=>TRes w (ZC d l []) x w':=by
 have Ha:=h_ ha;have Hp:=h_ hp;have Hn:=h_ hn;have Hm:=h_ hm;obtain⟨i0,hi,dA,bO,eF⟩:=info_parts YC;have ml:=h_ (And.intro hi (And.intro dA (And.intro bO eF)));clear ha hp hn hm hi dA bO eF;go_enter Tryz.func155,Tryz.ntmps155;go_wp2;go_loopw [6,8,11] (λv6 _ i wr=>∃(k:Nat) (acc:List ByteArray),k<=m/\i=.int .i64 k/\acc.length<=4096/\wr.ownsRow w.heap.size 9 1 v6 acc.length (svs acc)/\Hid (ZC d (l.drop k) acc=ZC d l [])/\Below w.heap.size w wr) (λ_ _ i _=>(m-intOf i).toNat);case atStart=>exact⟨0,[],by omega,rfl,by simp,Zk,h_ rfl,Vae _ _⟩
 case round=>
  obtain⟨k,acc,hk,rfl,kC,aa,hex,hf⟩:=hrel;obtain⟨A4,gg,kR,dZ⟩:=Zm aa;subst kR;by_cases ab:k<m
  ·have bh:k<l.length:=(by rw[<-Hm.o];exact ab);have aq:=Z6c d l k bh acc;have fb:=Z7s l k bh;obtain⟨⟨i,c⟩,hic⟩:∃x,l[k]=x:=⟨_,rfl⟩;rw[hic] at aq fb;simp only at aq fb;have zI:=Hp.o.below hf;obtain⟨bB,oB,hB,Lm,nA⟩:=zI.get (k*2) (iv i) fb.1;obtain⟨Rf,Rg,oj,_,jO⟩:=zI.get (k*2+1) (iv c) fb.2;rw[hB] at oj;injection oj with oj
   injection oj with yb vt;subst yb;subst vt;subst hB;unfold iv at nA jO;have bZ:=h_ aa;have Hf:=h_ hf;have pB:wr.cell? ⟨bB,oB+k*2+1,none⟩=some (.int .i64 c):=jO;have dx:=h_ (hf.alloc hf.size (.cells #[.int .i64 i,.int .i64 c] 134));by_cases aH:i<0\/(d.length:Int)<=i\/c<1
   ·rw[Vaf aH] at aq;have Hr:Hid (ZC d l []=([],2)):=h_ (by rw[<-hex.o,aq]);have a8:i<0\/(n:Int)<=i\/c<1:=(by rw[Hn.o];exact aH);clear aH aq hic fb zI dZ aa hf jO;by_cases b1:i<0
    ·clear a8;go_wp2;go_returns;rw[Hr.o];exact XL 2 dx.o
    ·by_cases b2:(n:Int)<=i
     ·clear a8;go_wp2;go_returns;rw[Hr.o];exact XL 2 dx.o
     ·have b3:c<1:=(by omega);clear a8;go_wp2;go_returns;rw[Hr.o];exact XL 2 dx.o
   ·rw[Vad aH] at aq;have b1:¬i<0:=(by omega);have b2:¬(n:Int)<=i:=(by rw[Hn.o];omega);have b3:¬c<1:=(by omega);by_cases fg:4096-(acc.length:Int)<c
    ·rw[Vaf fg] at aq;have Hr:Hid (ZC d l []=([],9)):=h_ (by rw[<-hex.o,aq]);clear aH aq hic fb zI dZ aa hf jO;go_wp2;go_returns;rw[Hr.o];exact XL 9 dx.o
    ·rw[Vad fg] at aq;obtain⟨i,rfl⟩:=Int.eq_ofNat_of_zero_le (show 0<=i by omega);obtain⟨c,rfl⟩:=Int.eq_ofNat_of_zero_le (show 0<=c by omega);rw[Vav,Vav] at aq;have hid:i<d.length:=(by omega);have aO:(i:Int)<(n:Int):=(by omega);obtain⟨s,hs⟩:∃s,d.getD i default=s:=⟨_,rfl⟩
     have uO:(svs d)[i]? =some (.string s):=by
      rw[Ys d i hid,<-hs];simp[List.getD,hid]
     rw[hs] at aq;have aS:Hid (ZC d (l.drop (k+1)) (acc++List.replicate c s)=ZC d l []):=h_ (by rw[<-aq];exact hex.o);have pC:acc.length+c<=4096:=(by omega);clear aH aq hic fb zI dZ aa hf jO hex hs;have iZ:=Bk.new wr 134 #[.int .i64 (i:Int),.int .i64 (c:Int)];have dI:=bZ.o.alloc (.cells #[.int .i64 (i:Int),.int .i64 (c:Int)] 134);go_wp2;go_loopw [6,38] (λv6 j kO=>∃q:Nat,q<=c/\j=.int .i64 q/\kO.ownsRow w.heap.size 9 1 v6 (acc++List.replicate q s).length (svs (acc++List.replicate q s))/\Bk kO wr.heap.size 134 #[.int .i64 (i:Int),.int .i64 (c:Int)]/\Below w.heap.size w kO) (λ_ j _=>(c-intOf j).toNat);case atStart=>exact⟨0,by omega,rfl,by simpa using dI,iZ,dx.o⟩
     case round=>
      have cC:=h_ Hf.o.size;clear iZ dI;obtain⟨q,hq,rfl,aa,iZ,hf⟩:=hrel;by_cases bS:q<c
      ·have an:=Ha.o.below hf;obtain⟨bA,oA,hA,eD,kQ⟩:=an.get i (.string s) uO;subst hA;have x0:=iZ.cell 0;simp at x0;obtain⟨L,hL⟩:∃L,acc++List.replicate q s=L:=⟨_,rfl⟩;have Fl:L.length=acc.length+q:=(by rw[<-hL];simp);have DG:acc++List.replicate (q+1) s=L++[s]:=(by rw[List.replicate_succ',<-Vay,hL]);rw[hL] at aa;obtain⟨A5,bo,pA,_⟩:=Zm aa;subst pA;have dG:L.length+1<=maxLen:=(by unfold maxLen;omega);have eE:(L.length+1)*16<=140737488355328:=(by omega);have bD:=hf.size;have yc:=h_ DG;have kU:=h_ aa;have Ln:=h_ iZ;have cl:=h_ hf;have ak:=h_ nA;clear hL DG aa iZ an hf Fl nA pB;obtain⟨hi,dA,bO,eF⟩:=ml.o
       go_wp2_with (
        at_builtin;refine wpList_append_own_at _ rfl (.tmp 40) (.tmp 46) _ rfl w.heap.size 9 i0 (.string ByteArray.empty) 1 16 Tryz.underlying64 hi dA bO eF rfl (by omega) (.slice A5 L.length bo) L.length (svs L) (by rfl) (kU.o.alloc _) ⟨_,0,none⟩ 1 1 [.string s] (by rfl) rfl (XB _ _ _) (by simp[Value.oneCell']) dG eE (Vas bD (by simp)) ?_;intro v' w3 ah du _ cT;have aJ:=h_ ah;have gA:=h_ du;clear ah du cT)
       have G5:=(Ln.o.alloc (.cells #[.string s] 9)).grown gA.o (λe=>Z3 kU.o Ln.o (by decide) e.symm);have aR:Below w.heap.size w w3:=(cl.o.alloc bD (.cells #[.string s] 9)).grown gA.o (Vas bD (by simp)) (λj hj=>(kU.o.lt j hj).1)
       have mS:w3.ownsRow w.heap.size 9 1 v' (L++[s]).length (svs (L++[s])):=by
        have:=aJ.o;rw[Vab];unfold svs at this⊢;rw[Vbk];exact this
       clear aJ gA kQ x0;go_wp2;go_roundw;case rel=>exact⟨q+1,by omega,by go_num,by rw[yc.o];exact mS,G5,aR⟩
       case measure=>simp[intOf]<;>omega
      ·have Rh:q=c:=(by omega);subst Rh;have kU:=h_ aa;have cl:=h_ hf;clear aa iZ hf nA pB;go_wp2;go_roundw;case rel=>exact⟨k+1,acc++List.replicate q s,by omega,by go_num,by rw[Vab,Vaw];omega,kU.o,aS,cl.o⟩
       case measure=>simp[intOf]<;>omega
  ·have nB:k=m:=(by omega);subst nB;have jL:l.drop k=[]:=List.drop_of_length_le (by rw[<-Hm.o];exact UZz);have aN:=hex.o;rw[jL,ZC] at aN;have bU:=h_ aN;have fu:=h_ (Z7E aa);clear jL aN aa dZ;go_wp2;go_returns;rw[<-bU.o];exact⟨.slice A4 acc.length gg,rfl,fu.o,hf⟩
def ERes (w:World) (r:List UInt8×Nat) (x:Ending) (w':World):Prop:=x=.returned (.tuple #[.string (bs r.1),.int .i64 (r.2:Int)])/\Below w.heap.size w w'
theorem Z0f {w w':World} (e:Nat) (hb:Below w.heap.size w w'):ERes w ([],e) (.returned (.tuple #[.string (bs []),.int .i64 (e:Int)])) w':=⟨rfl,hb⟩
theorem ZbJ {w:World} (c:Int) (hc:c≠0) (cq:c≠1) (A:Option Addr) (n cap:Nat):
  Calls Tryz.prog 58 #[.int .i64 c,.slice A n cap] w λx w'=>ERes w ([],1) x w':=by
 have h0:(c !=0)=true:=(by rw[Va1];exact hc);have h1:(c !=1)=true:=(by rw[Va1];exact cq);have hb:=h_ (Vae w.heap.size w);clear hc cq;go_enter Tryz.func58,Tryz.ntmps58;go_wp2;go_returns;exact Z0f 1 hb.o
theorem Z6d {w:World} {A:Option Addr} {l:List ByteArray} (c:Nat) (hc:c<=1) (ha:At w A (svs l)) (ad:∀s∈l,s.size<=9223372036854775807) (n cap:Nat) (hn:n=l.length) (hm:n<=9223372036854775807) (fg:4096<l.length\/∃s∈l,128<s.size):
  Calls Tryz.prog 58 #[.int .i64 (c:Int),.slice A n cap] w λx w'=>ERes w ([],9) x w':=by
 have hb:=h_ (Vae w.heap.size w);have ju:c=0\/c=1:=(by omega);by_cases h4:4096<n
 ·have Lo:(4096:Int)<(n:Int):=(by omega);clear h4 fg ha ad hn hc;rcases ju with rfl|rfl
  all_goals
   go_enter Tryz.func58,Tryz.ntmps58;go_wp2;go_returns;exact Z0f 9 hb.o
 ·have Lo:¬(4096:Int)<(n:Int):=(by omega);have hL:=Z7B ha ad n cap hn (by omega);have hl:Z6b l=true:=Vam (fg.resolve_left (by omega));rw[hl] at hL;have HL:=h_ hL;clear h4 fg ha ad hn hc hL hl;rcases ju with rfl|rfl
  all_goals
   go_enter Tryz.func58,Tryz.ntmps58;go_wp2_with fail;refine(HL.o).mono ?_;rintro x w1 ⟨rfl,rfl⟩;go_wp2;go_returns;exact Z0f 9 hb.o
theorem Z7G (s:ByteArray) (h:s.size<=128):(text s).length<=137:=by
 unfold text;have:=kof9 s.size;rw[Vab,Z1];omega
theorem Zfa (D:List ByteArray) (h:∀s∈D,s.size<=128):(D.flatMap text).length<=137*D.length:=by
 induction D with
 |nil=>simp
 |cons s D ih=>
  have h1:=Z7G s (h s Vap);have h2:=ih (λu hu=>h u (Vat _ hu));rw[Vb0,Vab,Vaz];omega
theorem ZbK (D:List ByteArray) (k:Nat) (h:k<D.length):(D.take (k+1)).flatMap text=(D.take k).flatMap text++text D[k]:=by
 rw[Vac h,Vce];simp
theorem XM (l:List Nat) (h:∀v∈l,v<4611686018427387904):(encn l).length<=13+134*l.length:=by
 unfold encn;rw[Vab];have h1:=kof9 l.length;split
 ·simp;omega
 ·have h2:=Z4O l (t0,e0) h;rw[show(e0.out.length)=0 from rfl] at h2;unfold efin;rw[Vab,Ya];omega
end Go.Proofs.YtchokmkfobandaaGreatDoor
