import Derived.Test.YtchokmkfobandaaGreatDoorJ15
import Derived.Test.YtchokmkfobandaaGreatDoorJ13
set_option linter.unusedVariables false
set_option linter.unusedSimpArgs false
set_option maxRecDepth 100000
set_option maxHeartbeats 8000000
namespace Go.Proofs.YtchokmkfobandaaGreatDoor
open Go.RowKit Go.Proofs Wv Wv.Vi Wv.Rc Wv.Mo Wv.Ru
theorem Z51 {w:World} {A:Option Addr} {l:List Int} (ha:At w A (ivs l)) (n cap:Nat) (hn:n=l.length) (hm:n<=9223372036854775807) (hb:chkn l≠0):
  Calls Tryz.prog 126 #[.slice A n cap,.func (.func 201) #[] #[]] w λx w'=>NRes w x w' ([],chkn l):=by
 have Ha:=h_ ha;have aq:=h_ hn;have dj:Below w.heap.size w w:=Below.refl _ _;by_cases h9:4096<n
 ·have hc:Hid (chkn l=9):=h_ (by unfold chkn;rw[if_pos (by omega)]);have yL:(4096:Int)<(n:Int):=(by omega);clear ha hn hb h9;go_enter Tryz.func126,Tryz.ntmps126;go_wp2;go_returns;rw[hc.o];exact Z3r 9 dj
 ·have hc:Hid (chkn l=2):=h_ (by
   unfold chkn at hb⊢;rw[if_neg (by omega)] at hb⊢;by_cases h:∀n∈l,0<=n/\n<4096
   ·rw[if_pos h] at hb;exact absurd rfl hb
   ·rw[if_neg h])
  have aZ:Hid (¬∀n∈l,0<=n/\n<4096):=h_ (by
   intro h;apply hb;exact Z5r (by omega) h)
  have yL:¬(4096:Int)<(n:Int):=(by omega);clear ha hn hb h9;go_enter Tryz.func126,Tryz.ntmps126;go_wp2;go_loop [7,19] (λ_ i=>∃k:Nat,k<=n/\i=.int .i64 k/\Hid (∀v∈l.take k,0<=v/\v<4096)) (λ_ i=>(n-intOf i).toNat);case atStart=>exact⟨0,by omega,rfl,h_ (by simp)⟩
  case round=>
   obtain⟨k,hk,rfl,ar⟩:=hrel;by_cases ab:k<n
   ·have bD:k<l.length:=(by rw[<-aq.o];exact ab);obtain⟨v,hv⟩:∃v,l.getD k 0=v:=⟨_,rfl⟩;have cP:l[k]=v:=(by rw[<-hv];simp[List.getD,bD]);obtain⟨bA,oA,hA,ec,ko⟩:=Ha.o.get k (.int .i64 v) (by rw[Z2p _ _ bD,hv]);subst hA;by_cases bG:0<=v/\v<4096
    ·obtain⟨o1,o2⟩:=bG;have o3:¬v<0:=(by omega);have o4:¬4096<=v:=(by omega)
     have cV:Hid (∀u∈l.take (k+1),0<=u/\u<4096):=h_ (by
      intro u hu;rw[List.take_succ_eq_append_getElem bD,cP] at hu;rcases List.mem_append.1 hu with h|h
      ·exact ar.o u h
      ·rw[List.mem_singleton] at h;omega)
     clear hv cP;go_wp2;go_round;case rel=>exact⟨k+1,by omega,by go_num,cV⟩
     case measure=>simp[intOf]<;>omega
    ·clear hv cP;by_cases o1:v<0
     ·clear bG;go_wp2;go_returns;rw[hc.o];exact Z3r 2 dj
     ·have o2:4096<=v:=(by omega);clear bG;go_wp2;go_returns;rw[hc.o];exact Z3r 2 dj
   ·exfalso;apply aZ.o;have:=ar.o
    rwa [List.take_of_length_le (by rw[<-aq.o];omega)] at this
theorem Z5I {w:World} {A:Option Addr} {l:List Nat} (ha:At w A (ivs (l.map Int.ofNat))) (n cap:Nat) (hn:n=l.length) (hl:l.length<=4096) (hv:∀v∈l,v<4096):
  Calls Tryz.prog 126 #[.slice A n cap,.func (.func 201) #[] #[]] w λx w'=>NRes w x w' (Z0Y r0 l,0):=by
 have Ha:=h_ ha;have aq:=h_ hn;have Hv:=h_ hv;have bu:n<=4096:=(by omega);have yL:¬(4096:Int)<(n:Int):=(by omega);have fR:=h_ (Zfn w);have mR:=h_ (λ(v:Nat) (h:v<4096)=>show v∈r0 from List.mem_range.2 h);have CO:=h_ (show r0.length=4096 from List.length_range);clear ha hn hv hl;go_enter Tryz.func126,Tryz.ntmps126;go_wp2;go_loop [7,19] (λ_ i=>∃k:Nat,k<=n/\i=.int .i64 k) (λ_ i=>(n-intOf i).toNat);case atStart=>exact⟨0,by omega,rfl⟩
 case round=>
  obtain⟨k,hk,rfl⟩:=hrel;by_cases ab:k<n
  ·have bD:k<l.length:=(by rw[<-aq.o];exact ab);obtain⟨v,eP⟩:∃v,l.getD k 0=v:=⟨_,rfl⟩
   have ku:v<4096:=by
    have h1:l.getD k 0=l[k]:=(by simp[List.getD,bD]);rw[<-eP,h1];exact Hv.o _ (List.getElem_mem _)
   obtain⟨bA,oA,hA,ec,ko⟩:=Ha.o.get k (.int .i64 (v:Int)) (by
    rw[Z2p _ _ (by rw[List.length_map];exact bD)];have h1:(l.map Int.ofNat).getD k 0=((l.getD k 0:Nat):Int):=(by simp[List.getD,bD]);rw[h1,eP])
   subst hA;have o3:¬(v:Int)<0:=(by omega);have o4:¬(4096:Int)<=(v:Int):=(by omega);clear eP ku;go_wp2;go_round;case rel=>exact⟨k+1,by omega,by go_num⟩
   case measure=>simp[intOf]<;>omega
  ·have ef:k=n:=(by omega);subst ef;go_wp2_with fail;refine(fR.o).mono ?_;rintro x w1 ⟨rfl,cA,a7⟩;have aJ:=a7.size;have bE:=Z1g (P:=Tryz.prog) 31 3 _ _ Tryz.underlying31 Z0R rfl (k:Int) k rfl (by omega) (by omega) w1;rw[<-Z5H] at bE;have eV:=Ha.o.below a7;have cT:=cA.lt;have bQ:=cA.alloc (.cells (nc (List.replicate k 0)) 3);have a8:=a7.alloc aJ (.cells (nc (List.replicate k 0)) 3);have mj:=eV.alloc (.cells (nc (List.replicate k 0)) 3);have dz:=Bk.new w1 3 (nc (List.replicate k 0));have Hs:=h_ (show w.heap.size<w1.heap.size/\w.heap.size≠w1.heap.size from⟨by omega,by omega⟩);clear cA a7 eV;go_wp2;go_loopw [8,10,11,12,13,36] (λs8 _ _ _ _ i wr=>∃j:Nat,j<=k/\i=.int .i64 j/\s8=.slice (some ⟨w.heap.size,0,none⟩) 4096 4096/\Bk wr w.heap.size 3 (nc (rowU r0 (l.take j)))/\Bk wr w1.heap.size 3 (nc (Z0Y r0 (l.take j)++List.replicate (k-j) 0))/\At wr A (ivs (l.map Int.ofNat))/\Below w.heap.size w wr) (λ_ _ _ _ _ i _=>(k-intOf i).toNat);case atStart=>exact⟨0,by omega,rfl,rfl,bQ,dz,mj,a8⟩
   case round=>
    clear bQ dz mj a8 bE;obtain⟨j,hj,rfl,rfl,aU,bp,ak,hf⟩:=hrel;have gy:∀m∈l.take j,m<4096:=λm hm=>Hv.o m (List.mem_of_mem_take hm);by_cases bK:j<k
    ·have bD:j<l.length:=(by rw[<-aq.o];exact bK);obtain⟨v,eP⟩:∃v,l.getD j 0=v:=⟨_,rfl⟩
     have ku:v<4096:=by
      have h1:l.getD j 0=l[j]:=(by simp[List.getD,bD]);rw[<-eP,h1];exact Hv.o _ (List.getElem_mem _)
     obtain⟨bA,oA,hA,ec,ko⟩:=ak.get j (.int .i64 (v:Int)) (by
      rw[Z2p _ _ (by rw[List.length_map];exact bD)];have h1:(l.map Int.ofNat).getD j 0=((l.getD j 0:Nat):Int):=(by simp[List.getD,bD]);rw[h1,eP])
     subst hA;obtain⟨mV,qG⟩:=Z7I (l.take j) v r0;rw[<-eP,<-Z6A l j bD,eP] at mV qG;have fk:=Z1S (l.take j) r0;rw[List.length_take,Nat.min_eq_left (by omega)] at fk;have fb:(rowU r0 (l.take j)).length=4096:=(ZlE (l.take j) r0 (λm hm=>by rw[CO.o];exact gy m hm)).trans CO.o;have mW:True:=trivial;obtain⟨R,hR⟩:∃R,rowU r0 (l.take j)=R:=⟨_,rfl⟩;obtain⟨O,hO⟩:∃O,Z0Y r0 (l.take j)=O:=⟨_,rfl⟩;rw[hR] at mV qG aU fb;rw[hO] at mV bp fk;have aR:=h_ (Z8M aU fb v ku);obtain⟨pl,oO⟩:∃pl,R.getD v 0=pl:=⟨_,rfl⟩;rw[oO] at mV aR;clear oO;have uz:=h_ mV;have uA:=h_ qG;have oP:=h_ aU;have du:=Zbw O k pl (by omega);rw[fk] at du;have aT:=h_ du;have aj:=bp.put j (.int .i64 ((pl:Nat):Int));rw[Z3C,aT.o] at aj;have fG:(O++List.replicate (k-j) 0).length=k:=(by rw[List.length_append,List.length_replicate];omega);obtain⟨y0,bN⟩:∃y0:Int,wr.cell? ⟨w1.heap.size,j,none⟩=some (.int .i64 y0):=⟨_,by rw[bp.cell,Z1V _ _ (by omega)]⟩;have sV:=bp.frozen j;have eC:=aU.off (p:=⟨w1.heap.size,j,none⟩) (Hs.o.2) (.int .i64 ((pl:Nat):Int));have aL:=hf.setCell (p:=⟨w1.heap.size,j,none⟩) (Nat.le_of_lt Hs.o.1) (.int .i64 ((pl:Nat):Int));have Fb:=h_ (Zbv eC fb v (by exact ku));have av:=h_ aj;have gz:=h_ aL;clear mV qG du aj fG aU bp hR hO eP fk gy eC aL ak hf fb mW;go_wp2_with fail;refine(aR.o).mono ?_;rintro x w3 ⟨rfl,rfl⟩;go_wp2_with fail;refine(Fb.o).mono ?_;rintro x w4 ⟨rfl,gA,aG⟩;have oQ:=av.o.fr aG (λe=>Hs.o.2 e.symm);have aw:Below w.heap.size w w4:=gz.o.trans (aG.toBelow' gz.o.size (λi hi e=>by have:i=w.heap.size:=e;omega));have yG:=Ha.o.below aw;go_wp2;go_roundw;case rel=>exact⟨j+1,by omega,by go_num,rfl,by rw[uA.o];exact gA,by rw[uz.o];exact oQ,yG,aw⟩
     case measure=>simp[intOf]<;>omega
    ·have qz:j=k:=(by omega);subst qz;have ax:l.take j=l:=List.take_of_length_le (by rw[<-aq.o];exact Nat.le_refl _);rw[ax,Nat.sub_self,List.replicate_zero,List.append_nil] at bp;have bL:=h_ bp.at_;have fk:=h_ (Z1S l r0);clear aU bp ak ax gy;go_wp2;go_returns;have h9:=bL.o;rw[Zkq] at h9;exact⟨.slice (some ⟨w1.heap.size,0,none⟩) j j,rfl,⟨some ⟨w1.heap.size,0,none⟩,j,by rw[List.length_map,fk.o,<-aq.o],h9⟩,hf⟩
theorem Z4a {l:List Int} (h:∀n∈l,0<=n/\n<4096):(l.map Int.toNat).map Int.ofNat=l:=by
 rw[List.map_map];refine(List.map_congr_left λn hn=> ?_).trans (List.map_id l);exact Int.toNat_of_nonneg (h n hn).1
theorem ZcI {w:World} {A:Option Addr} {l:List Int} (ha:At w A (ivs l)) (n cap:Nat) (hn:n=l.length) (hm:n<=9223372036854775807):
  Calls Tryz.prog 126 #[.slice A n cap,.func (.func 127) #[] #[]] w λx w'=>NRes w x w' (front l):=by
 by_cases hc:chkn l=0
 ·obtain⟨h1,h2⟩:=Z55 hc;have e:=Z4a h2;have hf:front l=(Z17 r0 (l.map Int.toNat),0):=(by unfold front;rw[if_pos hc]);rw[hf]
  exact Z7J (by rw[e];exact ha) n cap (by rw[List.length_map];exact hn) (by rw[List.length_map];exact h1) (λv hv=>by
   obtain⟨u,hu,rfl⟩:=List.mem_map.1 hv;have:=h2 u hu;omega)
 ·have hf:front l=([],chkn l):=(by unfold front;rw[if_neg hc]);rw[hf];exact Z6l ha n cap hn hm hc
theorem Z8N {w:World} {A:Option Addr} {l:List Int} (ha:At w A (ivs l)) (n cap:Nat) (hn:n=l.length) (hm:n<=9223372036854775807):
  Calls Tryz.prog 126 #[.slice A n cap,.func (.func 201) #[] #[]] w λx w'=>NRes w x w' (Z0K l):=by
 by_cases hc:chkn l=0
 ·obtain⟨h1,h2⟩:=Z55 hc;have e:=Z4a h2;have hf:Z0K l=(Z0Y r0 (l.map Int.toNat),0):=(by unfold Z0K;rw[if_pos hc]);rw[hf]
  exact Z5I (by rw[e];exact ha) n cap (by rw[List.length_map];exact hn) (by rw[List.length_map];exact h1) (λv hv=>by
   obtain⟨u,hu,rfl⟩:=List.mem_map.1 hv;have:=h2 u hu;omega)
 ·have hf:Z0K l=([],chkn l):=(by unfold Z0K;rw[if_neg hc]);rw[hf];exact Z51 ha n cap hn hm hc
theorem ZcJ {w:World} {A:Option Addr} {l:List Int} (ha:At w A (ivs l)) (n cap:Nat) (hn:n=l.length) (hm:n<=9223372036854775807):
  Calls Tryz.prog 81 #[.slice A n cap] w λx w'=>NRes w x w' (front l):=by
 have H:=h_ (ZcI ha n cap hn hm);generalize front l=r at*;clear ha hn;go_enter Tryz.func81,Tryz.ntmps81;go_wp2_with fail;refine(H.o).mono ?_;rintro x w1 ⟨v,rfl,hi,hb⟩;go_wp2;go_returns;exact⟨v,rfl,hi,hb⟩
theorem Z8O {w:World} {A:Option Addr} {l:List Int} (ha:At w A (ivs l)) (n cap:Nat) (hn:n=l.length) (hm:n<=9223372036854775807):
  Calls Tryz.prog 154 #[.slice A n cap] w λx w'=>NRes w x w' (Z0K l):=by
 have H:=h_ (Z8N ha n cap hn hm);generalize Z0K l=r at*;clear ha hn;go_enter Tryz.func154,Tryz.ntmps154;go_wp2_with fail;refine(H.o).mono ?_;rintro x w1 ⟨v,rfl,hi,hb⟩;go_wp2;go_returns;exact⟨v,rfl,hi,hb⟩
def svs (l:List ByteArray):List Value:=l.map sv
theorem Z1p (l:List ByteArray) (i:Nat) (h:i<l.length):(svs l)[i]? =some (.string l[i]):=by
 simp[svs,sv,List.getElem?_eq_getElem h]
theorem Zfr (s:ByteArray) (hs:s.size<=9223372036854775807) (w:World):
  Calls Tryz.prog 78 #[.string s] w λx w'=>x=.returned (.bool (decide (128<s.size)))/\w=w':=by
 have h:=h_ (show decide ((128:Int)<(s.size:Int))=decide (128<s.size) from by
  rw[Bool.eq_iff_iff,decide_eq_true_iff,decide_eq_true_iff];omega)
 go_enter Tryz.func78,Tryz.ntmps78;go_wp2;go_ret;exact⟨Z03 h.o,rfl⟩
def ZoO (w:World) (L:Bool) (x:Ending) (w':World):Prop:=((∃k:Nat,k<=4096/\L=true/\x=.returned (.int .i64 k))\/(L=false/\x=.returned (.int .i64 (-1))))/\w=w'
def Za3 (l:List ByteArray):Bool:=decide (∃s∈l,128<s.size)
theorem Zbx {w:World} {A:Option Addr} {l:List ByteArray} (ha:At w A (svs l)) (ad:∀s∈l,s.size<=9223372036854775807) (n cap:Nat) (hn:n=l.length) (hm:n<=4096):
  Calls Tryz.prog 77 #[.slice A n cap,.func (.func 78) #[] #[]] w λx w'=>x=.returned (.bool (Za3 l))/\w=w':=by
 have H:Hid (Calls Tryz.prog 124 #[.slice A n cap,.func (.func 78) #[] #[]] w λx w'=>ZoO w (Za3 l) x w'):=h_ (by
  have Ha:=h_ ha;have Hn:=h_ hn;have Hs:=h_ ad;clear ha hn ad;go_enter Tryz.func124,Tryz.ntmps124;go_wp2;go_loop [5,8] (λ_ i=>∃k:Nat,k<=n/\i=.int .i64 k/\Hid (∀s∈l.take k,¬128<s.size)) (λ_ i=>(n-intOf i).toNat);case atStart=>exact⟨0,by omega,rfl,h_ (by simp)⟩
  case round=>
   obtain⟨k,hk,rfl,ar⟩:=hrel;by_cases ab:k<n
   ·have bD:k<l.length:=(by rw[<-Hn.o];exact ab);obtain⟨s,hs⟩:∃s,l[k]=s:=⟨_,rfl⟩;obtain⟨bA,oA,hA,ec,ko⟩:=Ha.o.get k (.string s) (by rw[Z1p l k bD,hs]);subst hA;have Hc:=Zfr s (Hs.o s (hs▸List.getElem_mem _)) w;by_cases hl:128<s.size
    ·rw[decide_eq_true hl] at Hc;have Hc:=h_ Hc;have hL:Za3 l=true:=decide_eq_true ⟨s,hs▸List.getElem_mem _,hl⟩;have HL:=h_ hL;clear hL hl hs;go_wp2_with fail;refine(Hc.o).mono ?_;rintro x w1 ⟨rfl,rfl⟩;go_wp2;go_ret;exact⟨.inl ⟨k,by omega,HL.o,rfl⟩,rfl⟩
    ·rw[decide_eq_false hl] at Hc;have Hc:=h_ Hc
     have cV:Hid (∀u∈l.take (k+1),¬128<u.size):=h_ (by
      intro u hu;rw[List.take_succ_eq_append_getElem bD,hs] at hu;rcases List.mem_append.1 hu with h|h
      ·exact ar.o u h
      ·rw[List.mem_singleton] at h;rw[h];exact hl)
     clear hl hs;go_wp2_with fail;refine(Hc.o).mono ?_;rintro x w1 ⟨rfl,rfl⟩;go_wp2;go_round;case rel=>exact⟨k+1,by omega,by go_num,cV⟩
     case measure=>simp[intOf]<;>omega
   ·have hL:Za3 l=false:=decide_eq_false (by
     rintro⟨s,h1,h2⟩;refine ar.o s ?_ h2
     rwa [List.take_of_length_le (by rw[<-Hn.o];omega)])
    have HL:=h_ hL;clear hL;go_wp2;go_ret;exact⟨.inr ⟨HL.o,rfl⟩,rfl⟩)
 clear ha ad hn;generalize Za3 l=L at*;go_enter Tryz.func77,Tryz.ntmps77;go_wp2_with fail;refine(H.o).mono ?_;rintro x w1 ⟨⟨k,hk,rfl,rfl⟩|⟨rfl,rfl⟩,rfl⟩
 ·go_wp2;go_ret;exact⟨rfl,rfl⟩
 ·go_wp2;go_ret;exact⟨rfl,rfl⟩
end Go.Proofs.YtchokmkfobandaaGreatDoor
namespace Wv
open Go Go.RowKit Wv.Ru
def entl:Nat->List ByteArray->List MapEntry
 |_,[]=>[]
 |k,a::t=>⟨.string a,.int .i64 (k:Int),k⟩::entl (k+1) t
def ents (l:List ByteArray):Array MapEntry:=(entl 0 l).toArray
theorem Zfs (l:List ByteArray) (s:ByteArray):∀k,entl k (l++[s])=entl k l++[⟨.string s,.int .i64 ((k+l.length:Nat):Int),k+l.length⟩]:=by
 induction l with
 |nil=>intro k;rfl
 |cons a t ih=>
  intro k;rw[List.cons_append,entl,ih,entl,List.length_cons,show k+1+t.length=k+(t.length+1) from by omega];rfl
theorem Zft (l:List ByteArray) (s:ByteArray):ents (l++[s])=(ents l).push ⟨.string s,.int .i64 (l.length:Int),l.length⟩:=by
 unfold ents;rw[Zfs];apply Array.toList_inj.1;simp
theorem Z8P (s:ByteArray) (l:List ByteArray):∀k i,(s∈l->Instr.findNow .string (.string s) (entl k l) i=some (some (i+ix l s,.int .i64 ((k+ix l s:Nat):Int))))/\(s∉l->Instr.findNow .string (.string s) (entl k l) i=some none):=by
 induction l with
 |nil=>intro k i;exact⟨λh=>absurd h (List.not_mem_nil),λ_=>rfl⟩
 |cons a t ih=>
  intro k i;obtain⟨r,hr,oR⟩:=MapKept.sameNow_of_keys (d:=.string) (a:=.string s) (b:=.string a) trivial trivial;cases r with
  |true=>
   have h1:Value.string s=Value.string a:=oR.1 rfl;injection h1 with h1;subst h1;have hx:ix (s::t) s=0:=(by simp[ix]);exact⟨λ_=>by rw[entl,Instr.findNow,hr,hx];rfl,λh=>absurd List.mem_cons_self h⟩
  |false=>
   have h1:a≠s:=λe=>by
    have:=oR.2 (by rw[e]);cases this
   have hx:ix (a::t) s=ix t s+1:=(by rw[ix,if_neg h1]);obtain⟨i1,i2⟩:=ih (k+1) (i+1);refine⟨λh=> ?_,λh=> ?_⟩
   ·rw[entl,Instr.findNow,hr,hx];simp only;rw[i1 ((List.mem_cons.1 h).resolve_left (λe=>h1 e.symm)),show i+1+ix t s=i+(ix t s+1) from by omega,show k+1+ix t s=k+(ix t s+1) from by omega]
   ·rw[entl,Instr.findNow,hr];simp only;exact i2 (λh2=>h (List.mem_cons_of_mem _ h2))
theorem Zby {s:ByteArray} {l:List ByteArray} (h:s∈l):Instr.findNow .string (.string s) (ents l).toList 0=some (some (ix l s,.int .i64 (ix l s:Nat))):=by
 have:=(Z8P s l 0 0).1 h;simpa [ents] using this
theorem Zfu {s:ByteArray} {l:List ByteArray} (h:s∉l):Instr.findNow .string (.string s) (ents l).toList 0=some none:=by
 have:=(Z8P s l 0 0).2 h;simpa [ents] using this
def MAt (w:World) (b:Nat) (l:List ByteArray):Prop:=w.heap[b]? =some (.map (ents l) l.length)
theorem MAt.lt {w:World} {b:Nat} {l:List ByteArray} (h:MAt w b l):b<w.heap.size:=(Array.getElem?_eq_some_iff.1 h).1
theorem MAt.fr {S:Nat->Prop} {w w':World} {b:Nat} {l:List ByteArray} (h:MAt w b l) (hf:Fr S w w') (hb:¬S b):MAt w' b l:=(hf.block b h.lt hb).trans h
theorem MAt.alloc {w:World} {b:Nat} {l:List ByteArray} (h:MAt w b l) (o:Obj):MAt (w.alloc o) b l:=(Below.heap_alloc w o b h.lt).trans h
theorem MAt.grown {w w':World} {b:Nat} {l:List ByteArray} {row:Option Nat} (h:MAt w b l) (hg:w.grownBy w' row) (ay:some b≠row):MAt w' b l:=(hg.block b h.lt ay).trans h
def Z3E (w:World) (b:Nat) (l:List ByteArray):World:= { w with heap:=w.heap.setIfInBounds b (.map (ents l) l.length) }
theorem Zfv {w:World} {b:Nat} {l l':List ByteArray} (h:MAt w b l):MAt (Z3E w b l') b l':=by
 have:=h.lt;simp[MAt,Z3E,this]
theorem Z8Q {S:Nat->Prop} {a w:World} {b:Nat} {l:List ByteArray} (h:Fr S a w) (hb:S b\/a.heap.size<=b):Fr S a (Z3E w b l):=
 ⟨h.os,h.tape,h.output,by simpa [Z3E] using h.size,λk hk hn=>by
  refine Eq.trans ?_ (h.block k hk hn)
  have:b≠k:=by
   rintro rfl;rcases hb with hb|hb
   ·exact hn hb
   ·omega
  simp[Z3E,this]⟩
theorem Zbz {P:Program} {k:TypeId} (hk:P.underlying k=some .string) (e:Bool) (s:ByteArray) (W:World):(Instr.checkKey e 10000 k (.string s)).run P W=.ok () W:=
 MapKept.run_checkKey (w:=W) hk (show MapKept.IsKey .string (.string s) from trivial) e 9999
theorem ZlF {P:Program} {t k e:TypeId} (ht:P.underlying t=some (.map k e)) (hk:P.underlying k=some .string) {w:World} {b:Nat} {l:List ByteArray} (h:MAt w b l) (s:ByteArray) (hn:s∉l):
  (Instr.mapUpdate t (.map (some b)) (.string s) (.int .i64 (l.length:Int))).run P w=.ok () (Z3E w b (l++[s])):=by
 have h2:=λo=>MapKept.run_setObj_map (P:=P) o h;have ah:=Zfu hn;unfold Instr.mapUpdate;simp only[Sem.run_bind,run_underlying ht,Result.andThen_ok,MapKept.run_getObj_map h,Zbz hk,MapKept.run_findKey hk ah,h2];unfold Z3E;rw[Zft];simp
theorem ZnM {P:Program} {t k e:TypeId} (ht:P.underlying t=some (.map k e)) (hk:P.underlying k=some .string) {w:World} {b:Nat} {l:List ByteArray} (h:MAt w b l) (s:ByteArray) (hs:s∈l):
  (Instr.lookup t (.map (some b)) (.string s) true).run P w=.ok (.tuple #[.int .i64 (ix l s:Nat),.bool true]) w:=by
 have ah:=Zby hs;unfold Instr.lookup;simp only[Sem.run_bind,Sem.run_pure,run_underlying ht,Result.andThen_ok,MapKept.run_getObj_map h,Zbz hk,MapKept.run_findKey hk ah];rfl
theorem ZnN {P:Program} {t k e:TypeId} (ht:P.underlying t=some (.map k e)) (hk:P.underlying k=some .string) {w:World} {b:Nat} {l:List ByteArray} (h:MAt w b l) (s:ByteArray) (hs:s∉l) (hz:(zeroValue e).run P w=.ok (.int .i64 0) w):
  (Instr.lookup t (.map (some b)) (.string s) true).run P w=.ok (.tuple #[.int .i64 0,.bool false]) w:=by
 have ah:=Zfu hs;unfold Instr.lookup;simp only[Sem.run_bind,Sem.run_pure,run_underlying ht,Result.andThen_ok,MapKept.run_getObj_map h,Zbz hk,MapKept.run_findKey hk ah,hz];rfl
theorem ZlG {P:Program} {t k e:TypeId} (ht:P.underlying t=some (.map k e)) (hk:P.underlying k=some .string) {w:World} {b:Nat} {l:List ByteArray} (h:MAt w b l) (s:ByteArray) (hs:s∈l):
  (Instr.lookup t (.map (some b)) (.string s) false).run P w=.ok (.int .i64 (ix l s:Nat)) w:=by
 have ah:=Zby hs;unfold Instr.lookup;simp only[Sem.run_bind,Sem.run_pure,run_underlying ht,Result.andThen_ok,MapKept.run_getObj_map h,Zbz hk,MapKept.run_findKey hk ah];rfl
end Wv
namespace Go.Proofs.YtchokmkfobandaaGreatDoor
open Go.RowKit Go.Proofs Wv Wv.Vi Wv.Rc Wv.Mo Wv.Ru
theorem Z1x:(Tryz.prog.info? 9).map (λi=>(i.zero,i.size,i.bytes))=some (some (.string ByteArray.empty),1,16):=by kernel_rfl
theorem Zfw (w:World):(zeroValue 3).run Tryz.prog w=.ok (.int .i64 0) w:=by kernel_rfl
theorem Zfx (l:List ByteArray) (k:Nat) (h:k<l.length):(l[k]∈dict (l.take k)->dict (l.take (k+1))=dict (l.take k))/\(l[k]∉dict (l.take k)->dict (l.take (k+1))=dict (l.take k)++[l[k]]):=by
 rw[List.take_succ_eq_append_getElem h,Z1R];exact⟨λh=>by rw[if_pos h],λh=>by rw[if_neg h]⟩
def SRes (w:World) (v:Value) (l:List ByteArray):Prop:=∃A cap,v=.slice A l.length cap/\At w A (svs l)
theorem SRes.nil (w:World):SRes w (.slice none 0 0) []:=⟨none,0,rfl,At.nil _ _⟩
theorem ZbA {w:World} {base e:Nat} {v:Value} {l:List ByteArray} (h:w.ownsRow base e 1 v l.length (svs l)):SRes w v l:=by
 obtain⟨A,cap,hv,ha⟩:=Z0q h;exact⟨A,cap,hv,ha⟩
def IdxR (w:World) (l:List ByteArray) (x:Ending) (w':World):Prop:=
 ∃v b,x=.returned (.tuple #[v,.map (some b)])/\w.heap.size<=b/\w'.ownsRow w.heap.size 9 1 v (dict l).length (svs (dict l))/\MAt w' b (dict l)/\Below w.heap.size w w'
theorem Z2u {w:World} {base e size n b:Nat} {v:Value} {xs:List Value} {l:List ByteArray} (h:w.ownsRow base e size v n xs) (hm:MAt w b l):v.ownBlock≠some b:=by
 rcases h.2 with ⟨rfl,_⟩|⟨g',cap,cur,rfl,_,hh,_⟩
 ·simp[Value.ownBlock]
 ·intro he;have:g'=b:=(by simpa [Value.ownBlock] using he);subst this;unfold MAt at hm;rw[hm] at hh;cases hh
theorem Z8R {w:World} {A:Option Addr} {l:List ByteArray} (ha:At w A (svs l)) (n cap:Nat) (hn:n=l.length) (hm:n<=4096):
  Calls Tryz.prog 125 #[.slice A n cap] w λx w'=>IdxR w l x w':=by
 have jw:= @run_makeMap Tryz.prog;have Ha:=h_ ha;have Hn:=h_ hn;obtain⟨i0,hi,dp,bM,eu⟩:=info_parts Z1x;have lL:=h_ (And.intro hi (And.intro dp (And.intro bM eu)));have gg:Below w.heap.size w (w.alloc (.map #[] 0)):=(Below.refl _ _).alloc (Nat.le_refl _) _;have gh:MAt (w.alloc (.map #[] 0)) w.heap.size []:=heap_alloc_new w _;have KW:=ha.alloc (.map #[] 0);clear ha hn hi dp bM eu;go_enter Tryz.func125,Tryz.ntmps125;go_wp2;go_loopw [4,7,8,9,13] (λv4 _ _ _ i wr=>∃k:Nat,k<=n/\i=.int .i64 k/\wr.ownsRow w.heap.size 9 1 v4 (dict (l.take k)).length (svs (dict (l.take k)))/\MAt wr w.heap.size (dict (l.take k))/\At wr A (svs l)/\Below w.heap.size w wr) (λ_ _ _ _ i _=>(n-intOf i).toNat);case atStart=>exact⟨0,by omega,rfl,Z0p,gh,KW,gg⟩
 case round=>
  clear gg gh KW jw;obtain⟨k,hk,rfl,aa,dI,ak,hf⟩:=hrel;by_cases ab:k<n
  ·have bD:k<l.length:=(by rw[<-Hn.o];exact ab);obtain⟨s,hs⟩:∃s,l[k]=s:=⟨_,rfl⟩;obtain⟨bA,oA,hA,ec,ko⟩:=ak.get k (.string s) (by rw[Z1p l k bD,hs]);subst hA;obtain⟨d1,d2⟩:=Zfx l k bD;rw[hs] at d1 d2;have fQ:=Z1k (l.take k);rw[List.length_take] at fQ;obtain⟨D,hD⟩:∃D,dict (l.take k)=D:=⟨_,rfl⟩;rw[hD] at d1 d2 aa dI fQ;by_cases aX:s∈D
   ·have hl:=ZnM (P:=Tryz.prog) Tryz.underlying166 Tryz.underlying9 dI s aX;have Hd:=h_ (d1 aX);have cg:=h_ aa;have jG:=h_ dI;clear d1 d2 hs hD aX aa dI fQ;go_wp2;go_roundw;case rel=>exact⟨k+1,by omega,by go_num,by rw[Hd.o];exact cg.o,by rw[Hd.o];exact jG.o,ak,hf⟩
    case measure=>simp[intOf]<;>omega
   ·have hl:=ZnN (P:=Tryz.prog) Tryz.underlying166 Tryz.underlying9 dI s aX (Zfw wr);have hu:=ZlF (P:=Tryz.prog) Tryz.underlying166 Tryz.underlying9 dI s aX;obtain⟨A4,fH,ku,dm⟩:=Z0q aa;have qH:=Z2u aa dI;subst ku;have aO:(Z3E wr w.heap.size (D++[s])).ownsRow w.heap.size 9 1 (.slice A4 D.length fH) D.length (svs D):=Z0v aa (Z8Q (S:=λj=>j=w.heap.size) (Fr.refl _ wr) (.inl rfl)) (λg hg e=>qH (by rw[hg,e]));have oS:=Zfv (l':=D++[s]) dI;have ah:Below w.heap.size w (Z3E wr w.heap.size (D++[s])):=hf.trans ((Z8Q (S:=λj=>j=w.heap.size) (Fr.refl _ wr) (.inl rfl)).toBelow' hf.size (λj hj e=>by omega));have mq:=d2 aX;have dy:D.length+1<=maxLen:=(by unfold maxLen;omega);have ep:(D.length+1)*16<=140737488355328:=(by omega);obtain⟨W,hW⟩:∃W,Z3E wr w.heap.size (D++[s])=W:=⟨_,rfl⟩;rw[hW] at hu aO oS ah;have Hd:=h_ mq;have cg:=h_ aO;have jG:=h_ oS;have bW:=h_ ah;have bw:=ah.size;have xk:=h_ dI.lt;clear d1 d2 hs hD aX aa dI fQ hW aO oS ah dm mq ak hf qH;obtain⟨hi,dp,bM,eu⟩:=lL.o
    go_wp2_with (
     at_builtin;refine wpList_append_own_at _ rfl (.tmp 29) (.tmp 31) _ rfl w.heap.size 9 i0 (.string ByteArray.empty) 1 16 Tryz.underlying64 hi dp bM eu rfl (by omega) (.slice A4 D.length fH) D.length (svs D) (by rfl) (cg.o.alloc _) ⟨W.heap.size,0,none⟩ 1 1 [.string s] (by rfl) rfl (Z2D _ _ _) (by simp[Value.oneCell']) dy ep (Nat.le_trans bw (by simp)) ?_;intro v' w1 ai df _ cI;have aE:=h_ ai;have gi:=h_ df;clear ai df cI)
    have dh:=(jG.o.alloc (.cells #[.string s] 9)).grown gi.o (λe=>Z2u (cg.o) jG.o e.symm);have aL:Below w.heap.size w w1:=(bW.o.alloc bw (.cells #[.string s] 9)).grown gi.o (Nat.le_trans bw (by simp)) (λj hj=>(cg.o.lt j hj).1);have yN:=Ha.o.below aL
    have mr:w1.ownsRow w.heap.size 9 1 v' (D++[s]).length (svs (D++[s])):=by
     have:=aE.o;rw[List.length_append];unfold svs at this⊢;rw[List.map_append];exact this
    clear aE gi hu hl ko;go_wp2;go_roundw;case rel=>exact⟨k+1,by omega,by go_num,by rw[Hd.o];exact mr,by rw[Hd.o];exact dh,yN,aL⟩
    case measure=>simp[intOf]<;>omega
  ·have ef:k=n:=(by omega);subst ef;have ax:l.take k=l:=List.take_of_length_le (by rw[<-Hn.o];exact Nat.le_refl _);rw[ax] at aa dI;clear ax ak;go_wp2;go_returns;exact⟨_,_,rfl,Nat.le_refl _,aa,dI,hf⟩
def DRes (w:World) (l:List ByteArray) (x:Ending) (w':World):Prop:=∃v,x=.returned v/\SRes w' v l/\Below w.heap.size w w'
theorem Z6m {w:World} {A:Option Addr} {l:List ByteArray} (ha:At w A (svs l)) (n cap:Nat) (hn:n=l.length) (hm:n<=4096):
  Calls Tryz.prog 79 #[.slice A n cap] w λx w'=>DRes w (dict l) x w':=by
 have H:=h_ (Z8R ha n cap hn hm);clear ha hn;go_enter Tryz.func79,Tryz.ntmps79;go_wp2_with fail;refine(H.o).mono ?_;rintro x w1 ⟨v,b,rfl,hb,ho,eA,hf⟩;have hr:=ZbA ho;clear ho eA;go_wp2;go_ret;exact⟨v,rfl,hr,hf⟩
end Go.Proofs.YtchokmkfobandaaGreatDoor
namespace Wv
open Go Go.RowKit Wv.Ru
theorem ZiM {w:World} {base g n cap size:Nat} {e:TypeId} {xs:List Value} (h:w.ownsRow base e size (.slice (some ⟨g,0,none⟩) n cap) n xs) (i:Nat) (u:Value):
  (w.setCell ⟨g,i,none⟩ u).ownsRow base e size (.slice (some ⟨g,0,none⟩) n cap) n (xs.set i u):=by
 refine⟨by rw[List.length_set];exact h.1,?_⟩;rcases h.2 with ⟨h2,_⟩|⟨g',bh,cur,hv,hb,hg,od,lB,hcs,ax⟩
 ·cases h2
 ·injection hv with aW bj dX;injection aW with aW;injection aW with aW;subst aW;subst dX;refine .inr ⟨g,cap,cur.setIfInBounds i u,rfl,hb,?_,od,lB,by rw[Array.size_setIfInBounds];exact hcs,?_⟩
  ·simp[World.setCell,Array.getElem?_modify,hg]
  ·rw[<-ax,Array.toList_setIfInBounds,List.take_set]
theorem Zfy {w:World} {base g n cap size:Nat} {e:TypeId} {xs:List Value} (h:w.ownsRow base e size (.slice (some ⟨g,0,none⟩) n cap) n xs) (i:Nat) (u:Value) (hu:xs[i]? =some u):
  w.cell? ⟨g,i,none⟩=some u/\w.frozen? ⟨g,i,none⟩=false:=by
 have h1:=h.cells (g:=g) rfl i u hu;have:(⟨g,0,none⟩:Addr).add i=⟨g,i,none⟩:=(by unfold Addr.add;split<;>simp_all);rw[this] at h1;refine⟨h1,?_⟩;rcases h.2 with ⟨h2,_⟩|⟨g',bh,cur,hv,hb,hg,_⟩
 ·cases h2
 ·injection hv with aW bj dX;injection aW with aW;injection aW with aW;subst aW;simp[World.frozen?,hg]
theorem Zfz {w:World} {base n size:Nat} {e:TypeId} {v:Value} {xs:List Value} (h:w.ownsRow base e size v n xs) (hn:0<n):∃g cap,v=.slice (some ⟨g,0,none⟩) n cap/\n<=cap:=by
 rcases h.2 with ⟨_,h2⟩|⟨g',bh,cur,hv,hb,hg,hc,_⟩
 ·omega
 ·exact⟨g',bh,hv,hc⟩
theorem ZbB (w:World) (t:TypeId) (a b:Value):∀(j:Nat) (u:Value),[a,b][j]? =some u->(w.alloc (.cells #[a,b] t)).cell? ((⟨w.heap.size,0,none⟩:Addr).add j)=some u:=by
 intro j u h;rw[Go.WideShapes.add_plain,Nat.zero_add];have:=(Bk.new w t #[a,b]).cell j;rw[this];simpa using h
theorem ZlH (l:List (Int×Int)) (x:Int×Int) (c:Int):(pv (l++[x])).set (l.length*2+1) (iv c)=pv (l++[(x.1,c)]):=by
 rw[Z7A,Z7A,List.set_append_right _ _ (by rw[Z5D];omega),Z5D,show l.length*2+1-l.length*2=1 from by omega];rfl
theorem Z3F {a b:ByteArray} :(a.toList==b.toList)=decide (a=b):=by
 rw[Bool.eq_iff_iff,beq_iff_eq,decide_eq_true_iff,ByteArray.toList_eq,ByteArray.toList_eq];exact ZkV
end Wv
namespace Go.Proofs.YtchokmkfobandaaGreatDoor
open Go.RowKit Go.Proofs Wv Wv.Vi Wv.Rc Wv.Mo Wv.Ru
theorem Zkr:(Tryz.prog.info? 134).map (λi=>(i.zero,i.size,i.bytes))=some (some (.agg #[.int .i64 0,.int .i64 0]),2,16):=by kernel_rfl
theorem ZfA (d l:List ByteArray) (k:Nat) (h:k<l.length):
  (0<k->l[k-1]? =some l[k]->runs d (l.take (k+1))=bump (runs d (l.take k)))/\((k=0\/l[k-1]? ≠some l[k])->runs d (l.take (k+1))=runs d (l.take k)++[(ix d l[k],1)]):=by
 have hg:0<k->(l.take k).getLast? =l[k-1]? :=by
  intro h0;rw[List.getLast?_eq_getElem?,List.length_take,Nat.min_eq_left (by omega),List.getElem?_take_of_lt (by omega)]
 rw[List.take_succ_eq_append_getElem h,Z1v];refine⟨λh0 he=> ?_,λhc=> ?_⟩
 ·rw[hg h0,if_pos he]
 ·rcases Nat.eq_zero_or_pos k with h0|h0
  ·subst h0;rw[if_neg (by simp)]
  ·rw[hg h0,if_neg (hc.resolve_left (by omega))]
theorem ZfB (d l:List ByteArray) (k:Nat) (h:k<l.length):∃xs c,runs d (l.take (k+1))=xs++[(ix d l[k],c)]/\1<=c:=by
 rw[List.take_succ_eq_append_getElem h];exact ZdS d (l.take k) l[k]
def PRes (w:World) (r:List (Int×Int)) (x:Ending) (w':World):Prop:=∃A cap,x=.returned (.slice A r.length cap)/\At w' A (pv r)/\Below w.heap.size w w'
theorem ZiN {w:World} {A:Option Addr} {l:List ByteArray} (ha:At w A (svs l)) (n cap:Nat) (hn:n=l.length) (hm:n<=4096):
  Calls Tryz.prog 80 #[.slice A n cap] w λx w'=>PRes w (Z1f (runs (dict l) l)) x w':=by
 have H:=h_ (Z8R ha n cap hn hm);have Ha:=h_ ha;have Hn:=h_ hn;obtain⟨i0,hi,dp,bM,eu⟩:=info_parts Zkr;have lL:=h_ (And.intro hi (And.intro dp (And.intro bM eu)));obtain⟨Dl,sX⟩:∃Dl,dict l=Dl:=⟨_,rfl⟩;have Fc:=h_ (λs (hs:s∈l)=>show s∈Dl from sX▸(Z1H l s).2 hs);have rD:=h_ sX;clear ha hn hi dp bM eu sX;go_enter Tryz.func80,Tryz.ntmps80;go_wp2_with fail;refine(H.o).mono ?_;rintro x w1 ⟨v,b,rfl,hb,ho,eA,hf⟩;rw[rD.o] at eA;have eV:=Ha.o.below hf;clear ho;go_wp2;go_loopw [5,6,7,15] (λv5 _ _ i wr=>∃k:Nat,k<=n/\i=.int .i64 k/\wr.ownsRow w1.heap.size 134 2 v5 (Z1f (runs Dl (l.take k))).length (pv (Z1f (runs Dl (l.take k))))/\MAt wr b Dl/\At wr A (svs l)/\Below w1.heap.size w1 wr) (λ_ _ _ i _=>(n-intOf i).toNat);case atStart=>exact⟨0,by omega,rfl,Z0p,eA,eV,Below.refl _ _⟩
 case round=>
  have nQ:=h_ eA.lt;clear eA eV;obtain⟨k,hk,rfl,aa,dI,ak,aB⟩:=hrel;by_cases ab:k<n
  ·have bD:k<l.length:=(by rw[<-Hn.o];exact ab);obtain⟨s,hs⟩:∃s,l[k]=s:=⟨_,rfl⟩;have mu:=Fc.o s (hs▸List.getElem_mem _);obtain⟨bA,oA,hA,ec,ko⟩:=ak.get k (.string s) (by rw[Z1p l k bD,hs]);subst hA;obtain⟨r1,r2⟩:=ZfA Dl l k bD;rw[hs] at r1 r2;have cT:=Z1l Dl (l.take k);rw[List.length_take] at cT;by_cases mw:0<k/\l[k-1]? =some s
   ·obtain⟨h0,uC⟩:=mw
    have yO:=ak.get (k-1) (.string s) (by
     rw[svs,List.getElem?_map,uC];rfl)
    obtain⟨PN,PO,eh,_,xl⟩:=yO;injection eh with eh;injection eh with eh uD;subst eh;subst uD;obtain⟨xs,c,hx,bY⟩:=ZfB Dl l (k-1) (by omega);rw[show k-1+1=k from by omega] at hx;obtain⟨ii,rE⟩:∃ii,ix Dl (l[k-1]'(by omega))=ii:=⟨_,rfl⟩;rw[rE] at hx;have cA:=r1 h0 uC;rw[hx,Z5p] at cA;rw[hx] at aa cT;have dF:Z1f (xs++[(ii,c)])=Z1f xs++[((ii:Int),(c:Int))]:=(by simp[Z1f]);have fl:Z1f (xs++[(ii,c+1)])=Z1f xs++[((ii:Int),(c:Int)+1)]:=(by simp[Z1f]);rw[dF] at aa;have oo:=ZlH (Z1f xs) ((ii:Int),(c:Int)) ((c:Int)+1);obtain⟨X,hX⟩:∃X,Z1f xs=X:=⟨_,rfl⟩;have Fe:X.length=xs.length:=(by rw[<-hX];simp[Z1f]);rw[hX] at aa oo fl;rw[List.length_append,List.length_singleton] at aa;obtain⟨g,aK,oU,yP⟩:=Zfz aa (by omega);subst oU
    have hcell:=Zfy aa (X.length*2+1) (iv (c:Int)) (by
     have:=(Zbo (X++[((ii:Int),(c:Int))]) X.length (by simp)).2;simpa using this)
    obtain⟨q1,q2⟩:=hcell;have aj:=ZiM aa (X.length*2+1) (iv ((c:Int)+1));rw[oo] at aj
    have iV:c<=4096:=by
     have:=(Z3l Dl (l.take k) (ii,c) (by rw[hx];simp)).2.2;rw[List.length_take] at this;simp only at this;omega
    have Fg:=aB.setCell (p:=⟨g,X.length*2+1,none⟩) ((aa.lt g rfl).1) (iv ((c:Int)+1))
    have dM:xs.length+1<=k:=by
     rw[List.length_append,List.length_singleton] at cT;omega
    have hlen:X.length<=4096:=(by omega);have i1:((X.length:Int)+1)-1=(X.length:Int):=(by omega)
    have KX:MAt (wr.setCell ⟨g,X.length*2+1,none⟩ (iv ((c:Int)+1))) b Dl:=(Below.heap_setCell wr ⟨g,X.length*2+1,none⟩ _ b (by
     intro e;exact Z2u aa dI (by show some g=some b;rw[e]))).trans dI
    have uE:At (wr.setCell ⟨g,X.length*2+1,none⟩ (iv ((c:Int)+1))) (some ⟨bA,oA,none⟩) (svs l):=(Ha.o.below hf).below Fg;have heq:(s.toList==s.toList)=true:=(by simp);have bU:(0:Int)<(k:Int):=(by omega);have ik:(k:Int)-1=((k-1:Nat):Int):=(by omega);obtain⟨kp,qI⟩:∃kp,k-1=kp:=⟨_,rfl⟩;rw[qI] at ik xl;have Fh:(kp:Int)<(n:Int):=(by omega);have jk:w1.heap.size<=g:=(aa.lt g rfl).1;unfold iv at q1;have qJ:=h_ cA;have uF:=h_ fl;have av:=h_ aj;have PP:=h_ KX;have PQ:=h_ uE;have PR:=h_ Fg;clear r1 r2 hs hx cA dF fl oo hX Fe aa aj KX uE Fg rE dI ak cT qI mu uC aB;go_wp2;go_roundw
    case rel=>
     refine⟨k+1,by omega,by go_num,?_,PP.o,PQ.o,PR.o⟩;rw[qJ.o,uF.o,List.length_append,List.length_singleton];exact av.o
    case measure=>simp[intOf]<;>omega
   ·have bx:k=0\/l[k-1]? ≠some s:=by
     rcases Nat.eq_zero_or_pos k with h0|h0
     ·exact .inl h0
     ·exact .inr (λh=>mw ⟨h0,h⟩)
    have bQ:=r2 bx;have hl:=ZlG (P:=Tryz.prog) Tryz.underlying166 Tryz.underlying9 dI s mu;obtain⟨ii,rE⟩:∃ii,ix Dl s=ii:=⟨_,rfl⟩;rw[rE] at bQ hl;obtain⟨R,hR⟩:∃R,runs Dl (l.take k)=R:=⟨_,rfl⟩;rw[hR] at bQ aa cT;have fl:Z1f (R++[(ii,1)])=Z1f R++[((ii:Int),1)]:=(by simp[Z1f]);obtain⟨X,hX⟩:∃X,Z1f R=X:=⟨_,rfl⟩;have Fe:X.length=R.length:=(by rw[<-hX];simp[Z1f]);rw[hX] at aa fl;obtain⟨A4,fH,ku,dm⟩:=Z0q aa;subst ku;have dy:X.length+1<=maxLen:=(by unfold maxLen;omega);have ep:(X.length+1)*16<=140737488355328:=(by omega);have bw:=aB.size
    have dZ:(k=0)\/(0<k/\∃s2:ByteArray,(s2.toList==s.toList)=false/\wr.cell? ⟨bA,oA+(k-1),none⟩=some (.string s2)):=by
     rcases Nat.eq_zero_or_pos k with h0|h0
     ·exact .inl h0
     ·right;have fS:k-1<l.length:=(by omega);obtain⟨PN,PO,eh,_,xl⟩:=ak.get (k-1) (.string (l[k-1])) (Z1p l (k-1) fS);injection eh with eh;injection eh with eh uD;subst eh;subst uD;refine⟨h0,l[k-1],?_,xl⟩;rw[Z3F,decide_eq_false_iff_not];intro e;refine mw ⟨h0,?_⟩;rw[List.getElem?_eq_getElem fS,e]
    have fp:=h_ bQ;have uF:=h_ fl;have cg:=h_ aa;have jG:=h_ dI;have cG:=h_ aB;have KY:=h_ hf;clear r1 r2 hs bQ fl hX aa dI ak cT rE hR dm mw bx aB Fe mu hf;obtain⟨hi,dp,bM,eu⟩:=lL.o;rcases dZ with bU|⟨bU,s2,cF,xl⟩
    ·have aP:¬(0:Int)<(k:Int):=(by omega);clear bU
     go_wp2_with (
      at_builtin;refine wpList_append_own_at _ rfl (.tmp 41) (.tmp 46) _ rfl w1.heap.size 134 i0 (.agg #[.int .i64 0,.int .i64 0]) 2 16 Tryz.underlying131 hi dp bM eu rfl (by omega) (.slice A4 X.length fH) X.length (pv X) (by rfl) (cg.o.alloc _) ⟨wr.heap.size,0,none⟩ 1 1 [iv (ii:Int),iv 1] (by rfl) rfl (ZbB _ _ _ _) (by simp[Value.oneCell',iv]) dy ep (Nat.le_trans bw (by simp)) ?_;intro v' w2 ai df _ cI;have aE:=h_ ai;have gi:=h_ df;clear ai df cI)
     have dh:=(jG.o.alloc (.cells #[.int .i64 (ii:Int),.int .i64 1] 134)).grown gi.o (λe=>Z2u cg.o jG.o e.symm);have aL:Below w1.heap.size w1 w2:=(cG.o.alloc bw (.cells #[.int .i64 (ii:Int),.int .i64 1] 134)).grown gi.o (Nat.le_trans bw (by simp)) (λj hj=>(cg.o.lt j hj).1);have yN:=(Ha.o.below KY.o).below aL
     have mr:w2.ownsRow w1.heap.size 134 2 v' (X++[((ii:Int),(1:Int))]).length (pv (X++[((ii:Int),(1:Int))])):=by
      have:=aE.o;rw[List.length_append,Z7A];exact this
     clear aE gi hl ko;go_wp2;go_roundw;case rel=>exact⟨k+1,by omega,by go_num,by rw[fp.o,uF.o];exact mr,dh,yN,aL⟩
     case measure=>simp[intOf]<;>omega
    ·have aP:(0:Int)<(k:Int):=(by omega);have ik:(k:Int)-1=((k-1:Nat):Int):=(by omega);obtain⟨kp,qI⟩:∃kp,k-1=kp:=⟨_,rfl⟩;rw[qI] at ik xl;have Fh:(kp:Int)<(n:Int):=(by omega);clear qI bU
     go_wp2_with (
      at_builtin;refine wpList_append_own_at _ rfl (.tmp 41) (.tmp 46) _ rfl w1.heap.size 134 i0 (.agg #[.int .i64 0,.int .i64 0]) 2 16 Tryz.underlying131 hi dp bM eu rfl (by omega) (.slice A4 X.length fH) X.length (pv X) (by rfl) (cg.o.alloc _) ⟨wr.heap.size,0,none⟩ 1 1 [iv (ii:Int),iv 1] (by rfl) rfl (ZbB _ _ _ _) (by simp[Value.oneCell',iv]) dy ep (Nat.le_trans bw (by simp)) ?_;intro v' w2 ai df _ cI;have aE:=h_ ai;have gi:=h_ df;clear ai df cI)
     have dh:=(jG.o.alloc (.cells #[.int .i64 (ii:Int),.int .i64 1] 134)).grown gi.o (λe=>Z2u cg.o jG.o e.symm);have aL:Below w1.heap.size w1 w2:=(cG.o.alloc bw (.cells #[.int .i64 (ii:Int),.int .i64 1] 134)).grown gi.o (Nat.le_trans bw (by simp)) (λj hj=>(cg.o.lt j hj).1);have yN:=(Ha.o.below KY.o).below aL
     have mr:w2.ownsRow w1.heap.size 134 2 v' (X++[((ii:Int),(1:Int))]).length (pv (X++[((ii:Int),(1:Int))])):=by
      have:=aE.o;rw[List.length_append,Z7A];exact this
     clear aE gi hl ko xl;go_wp2;go_roundw;case rel=>exact⟨k+1,by omega,by go_num,by rw[fp.o,uF.o];exact mr,dh,yN,aL⟩
     case measure=>simp[intOf]<;>omega
  ·have ef:k=n:=(by omega);subst ef;have ax:l.take k=l:=List.take_of_length_le (by rw[<-Hn.o];exact Nat.le_refl _);rw[ax] at aa;obtain⟨A2,aK,hv,bL⟩:=Z0q aa;subst hv;have kx:=h_ bL;clear ax ak aa dI bL;go_wp2;go_ret;rw[rD.o];exact⟨A2,aK,rfl,kx.o,hf.trans (aB.mono hf.size)⟩
def TRes (w:World) (r:List ByteArray×Nat) (x:Ending) (w':World):Prop:=∃v,x=.returned (.tuple #[v,.int .i64 (r.2:Int)])/\SRes w' v r.1/\Below w.heap.size w w'
theorem Z2N {w w':World} (e:Nat) (hb:Below w.heap.size w w'):TRes w ([],e) (.returned (.tuple #[.slice none 0 0,.int .i64 (e:Int)])) w':=⟨_,rfl,SRes.nil _,hb⟩
theorem Za4 (d:List ByteArray) (l:List (Int×Int)) (k:Nat) (h:k<l.length) (acc:List ByteArray):
  Z0D d (l.drop k) acc=if l[k].1<0\/(d.length:Int)<=l[k].1\/l[k].2<1 then([],2) else if 4096-(acc.length:Int)<l[k].2 then([],9)
   else Z0D d (l.drop (k+1)) (acc++List.replicate l[k].2.toNat (d.getD l[k].1.toNat default)):=by
 rw[List.drop_eq_getElem_cons h,Z0D]
theorem ZcK {w:World} {A B:Option Addr} {d:List ByteArray} {l:List (Int×Int)} (ha:At w A (svs d)) (hp:At w B (pv l)) (n cap m aK:Nat) (hn:n=d.length) (hm:m=l.length) (bu:n<=9223372036854775807) (xm:m<=9223372036854775807):
  Calls Tryz.prog 155 #[.slice A n cap,.slice B m aK] w λx w'=>TRes w (Z0D d l []) x w':=by
 have Ha:=h_ ha;have Hp:=h_ hp;have Hn:=h_ hn;have Hm:=h_ hm;obtain⟨i0,hi,dp,bM,eu⟩:=info_parts Z1x;have lL:=h_ (And.intro hi (And.intro dp (And.intro bM eu)));clear ha hp hn hm hi dp bM eu;go_enter Tryz.func155,Tryz.ntmps155;go_wp2;go_loopw [6,8,11] (λv6 _ i wr=>∃(k:Nat) (acc:List ByteArray),k<=m/\i=.int .i64 k/\acc.length<=4096/\wr.ownsRow w.heap.size 9 1 v6 acc.length (svs acc)/\Hid (Z0D d (l.drop k) acc=Z0D d l [])/\Below w.heap.size w wr) (λ_ _ i _=>(m-intOf i).toNat);case atStart=>exact⟨0,[],by omega,rfl,by simp,Z0p,h_ rfl,Below.refl _ _⟩
 case round=>
  obtain⟨k,acc,hk,rfl,jY,aa,hex,hf⟩:=hrel;obtain⟨A4,fH,ku,dm⟩:=Z0q aa;subst ku;by_cases ab:k<m
  ·have bD:k<l.length:=(by rw[<-Hm.o];exact ab);have au:=Za4 d l k bD acc;have eM:=Zbo l k bD;obtain⟨⟨i,c⟩,hic⟩:∃x,l[k]=x:=⟨_,rfl⟩;rw[hic] at au eM;simp only at au eM;have yQ:=Hp.o.below hf;obtain⟨bB,oB,hB,KZ,mX⟩:=yQ.get (k*2) (iv i) eM.1;obtain⟨PS,PT,nR,_,jH⟩:=yQ.get (k*2+1) (iv c) eM.2;rw[hB] at nR;injection nR with nR
   injection nR with xo uG;subst xo;subst uG;subst hB;unfold iv at mX jH;have cg:=h_ aa;have Hf:=h_ hf;have oW:wr.cell? ⟨bB,oB+k*2+1,none⟩=some (.int .i64 c):=jH;have dj:=h_ (hf.alloc hf.size (.cells #[.int .i64 i,.int .i64 c] 134));by_cases aZ:i<0\/(d.length:Int)<=i\/c<1
   ·rw[if_pos aZ] at au;have Hr:Hid (Z0D d l []=([],2)):=h_ (by rw[<-hex.o,au]);have a8:i<0\/(n:Int)<=i\/c<1:=(by rw[Hn.o];exact aZ);clear aZ au hic eM yQ dm aa hf jH;by_cases b1:i<0
    ·clear a8;go_wp2;go_returns;rw[Hr.o];exact Z2N 2 dj.o
    ·by_cases b2:(n:Int)<=i
     ·clear a8;go_wp2;go_returns;rw[Hr.o];exact Z2N 2 dj.o
     ·have b3:c<1:=(by omega);clear a8;go_wp2;go_returns;rw[Hr.o];exact Z2N 2 dj.o
   ·rw[if_neg aZ] at au;have b1:¬i<0:=(by omega);have b2:¬(n:Int)<=i:=(by rw[Hn.o];omega);have b3:¬c<1:=(by omega);by_cases eQ:4096-(acc.length:Int)<c
    ·rw[if_pos eQ] at au;have Hr:Hid (Z0D d l []=([],9)):=h_ (by rw[<-hex.o,au]);clear aZ au hic eM yQ dm aa hf jH;go_wp2;go_returns;rw[Hr.o];exact Z2N 9 dj.o
    ·rw[if_neg eQ] at au;obtain⟨i,rfl⟩:=Int.eq_ofNat_of_zero_le (show 0<=i by omega);obtain⟨c,rfl⟩:=Int.eq_ofNat_of_zero_le (show 0<=c by omega);rw[Int.toNat_natCast,Int.toNat_natCast] at au;have hid:i<d.length:=(by omega);have aX:(i:Int)<(n:Int):=(by omega);obtain⟨s,hs⟩:∃s,d.getD i default=s:=⟨_,rfl⟩
     have ub:(svs d)[i]? =some (.string s):=by
      rw[Z1p d i hid,<-hs];simp[List.getD,hid]
     rw[hs] at au;have aR:Hid (Z0D d (l.drop (k+1)) (acc++List.replicate c s)=Z0D d l []):=h_ (by rw[<-au];exact hex.o);have oY:acc.length+c<=4096:=(by omega);clear aZ au hic eM yQ dm aa hf jH hex hs;have iS:=Bk.new wr 134 #[.int .i64 (i:Int),.int .i64 (c:Int)];have dz:=cg.o.alloc (.cells #[.int .i64 (i:Int),.int .i64 (c:Int)] 134);go_wp2;go_loopw [6,38] (λv6 j jB=>∃q:Nat,q<=c/\j=.int .i64 q/\jB.ownsRow w.heap.size 9 1 v6 (acc++List.replicate q s).length (svs (acc++List.replicate q s))/\Bk jB wr.heap.size 134 #[.int .i64 (i:Int),.int .i64 (c:Int)]/\Below w.heap.size w jB) (λ_ j _=>(c-intOf j).toNat);case atStart=>exact⟨0,by omega,rfl,by simpa using dz,iS,dj.o⟩
     case round=>
      have cH:=h_ Hf.o.size;clear iS dz;obtain⟨q,hq,rfl,aa,iS,hf⟩:=hrel;by_cases bK:q<c
      ·have ak:=Ha.o.below hf;obtain⟨bA,oA,hA,ec,ko⟩:=ak.get i (.string s) ub;subst hA;have x0:=iS.cell 0;simp at x0;obtain⟨L,hL⟩:∃L,acc++List.replicate q s=L:=⟨_,rfl⟩;have Ew:L.length=acc.length+q:=(by rw[<-hL];simp);have CQ:acc++List.replicate (q+1) s=L++[s]:=(by rw[List.replicate_succ',<-List.append_assoc,hL]);rw[hL] at aa;obtain⟨A5,bk,oU,_⟩:=Z0q aa;subst oU;have dy:L.length+1<=maxLen:=(by unfold maxLen;omega);have ep:(L.length+1)*16<=140737488355328:=(by omega);have bw:=hf.size;have CR:=h_ CQ;have ky:=h_ aa;have L5:=h_ iS;have bW:=h_ hf;have al:=h_ mX;clear hL CQ aa iS ak hf Ew mX oW;obtain⟨hi,dp,bM,eu⟩:=lL.o
       go_wp2_with (
        at_builtin;refine wpList_append_own_at _ rfl (.tmp 40) (.tmp 46) _ rfl w.heap.size 9 i0 (.string ByteArray.empty) 1 16 Tryz.underlying64 hi dp bM eu rfl (by omega) (.slice A5 L.length bk) L.length (svs L) (by rfl) (ky.o.alloc _) ⟨_,0,none⟩ 1 1 [.string s] (by rfl) rfl (Z2D _ _ _) (by simp[Value.oneCell']) dy ep (Nat.le_trans bw (by simp)) ?_;intro v' w3 ai df _ cI;have aE:=h_ ai;have gi:=h_ df;clear ai df cI)
       have Fi:=(L5.o.alloc (.cells #[.string s] 9)).grown gi.o (λe=>Z02 ky.o L5.o (by decide) e.symm);have aL:Below w.heap.size w w3:=(bW.o.alloc bw (.cells #[.string s] 9)).grown gi.o (Nat.le_trans bw (by simp)) (λj hj=>(ky.o.lt j hj).1)
       have mr:w3.ownsRow w.heap.size 9 1 v' (L++[s]).length (svs (L++[s])):=by
        have:=aE.o;rw[List.length_append];unfold svs at this⊢;rw[List.map_append];exact this
       clear aE gi ko x0;go_wp2;go_roundw;case rel=>exact⟨q+1,by omega,by go_num,by rw[CR.o];exact mr,Fi,aL⟩
       case measure=>simp[intOf]<;>omega
      ·have PU:q=c:=(by omega);subst PU;have ky:=h_ aa;have bW:=h_ hf;clear aa iS hf mX oW;go_wp2;go_roundw;case rel=>exact⟨k+1,acc++List.replicate q s,by omega,by go_num,by rw[List.length_append,List.length_replicate];omega,ky.o,aR,bW.o⟩
       case measure=>simp[intOf]<;>omega
  ·have mY:k=m:=(by omega);subst mY;have jE:l.drop k=[]:=List.drop_of_length_le (by rw[<-Hm.o];exact Nat.le_refl _);have bq:=hex.o;rw[jE,Z0D] at bq;have cq:=h_ bq;have fa:=h_ (ZbA aa);clear jE bq aa dm;go_wp2;go_returns;rw[<-cq.o];exact⟨.slice A4 acc.length fH,rfl,fa.o,hf⟩
def ERes (w:World) (r:List UInt8×Nat) (x:Ending) (w':World):Prop:=x=.returned (.tuple #[.string (bs r.1),.int .i64 (r.2:Int)])/\Below w.heap.size w w'
theorem Z4b {w w':World} (e:Nat) (hb:Below w.heap.size w w'):ERes w ([],e) (.returned (.tuple #[.string (bs []),.int .i64 (e:Int)])) w':=⟨rfl,hb⟩
theorem ZfC {w:World} (c:Int) (hc:c≠0) (bY:c≠1) (A:Option Addr) (n cap:Nat):
  Calls Tryz.prog 58 #[.int .i64 c,.slice A n cap] w λx w'=>ERes w ([],1) x w':=by
 have h0:(c !=0)=true:=(by rw[bne_iff_ne];exact hc);have h1:(c !=1)=true:=(by rw[bne_iff_ne];exact bY);have hb:=h_ (Below.refl w.heap.size w);clear hc bY;go_enter Tryz.func58,Tryz.ntmps58;go_wp2;go_returns;exact Z4b 1 hb.o
theorem Za5 {w:World} {A:Option Addr} {l:List ByteArray} (c:Nat) (hc:c<=1) (ha:At w A (svs l)) (ad:∀s∈l,s.size<=9223372036854775807) (n cap:Nat) (hn:n=l.length) (hm:n<=9223372036854775807) (eQ:4096<l.length\/∃s∈l,128<s.size):
  Calls Tryz.prog 58 #[.int .i64 (c:Int),.slice A n cap] w λx w'=>ERes w ([],9) x w':=by
 have hb:=h_ (Below.refl w.heap.size w);have jk:c=0\/c=1:=(by omega);by_cases h4:4096<n
 ·have L6:(4096:Int)<(n:Int):=(by omega);clear h4 eQ ha ad hn hc;rcases jk with rfl|rfl
  all_goals
   go_enter Tryz.func58,Tryz.ntmps58;go_wp2;go_returns;exact Z4b 9 hb.o
 ·have L6:¬(4096:Int)<(n:Int):=(by omega);have hL:=Zbx ha ad n cap hn (by omega);have hl:Za3 l=true:=decide_eq_true (eQ.resolve_left (by omega));rw[hl] at hL;have HL:=h_ hL;clear h4 eQ ha ad hn hc hL hl;rcases jk with rfl|rfl
  all_goals
   go_enter Tryz.func58,Tryz.ntmps58;go_wp2_with fail;refine(HL.o).mono ?_;rintro x w1 ⟨rfl,rfl⟩;go_wp2;go_returns;exact Z4b 9 hb.o
theorem ZbC (s:ByteArray) (h:s.size<=128):(text s).length<=137:=by
 unfold text;have:=kof9 s.size;rw[List.length_append,Z01];omega
theorem ZiO (D:List ByteArray) (h:∀s∈D,s.size<=128):(D.flatMap text).length<=137*D.length:=by
 induction D with
 |nil=>simp
 |cons s D ih=>
  have h1:=ZbC s (h s List.mem_cons_self);have h2:=ih (λu hu=>h u (List.mem_cons_of_mem _ hu));rw[List.flatMap_cons,List.length_append,List.length_cons];omega
theorem ZfD (D:List ByteArray) (k:Nat) (h:k<D.length):(D.take (k+1)).flatMap text=(D.take k).flatMap text++text D[k]:=by
 rw[List.take_succ_eq_append_getElem h,List.flatMap_append];simp
theorem Z2O (l:List Nat) (h:∀v∈l,v<4611686018427387904):(encn l).length<=13+134*l.length:=by
 unfold encn;rw[List.length_append];have h1:=kof9 l.length;split
 ·simp;omega
 ·have h2:=Z8J l (t0,e0) h;rw[show(e0.out.length)=0 from rfl] at h2;unfold efin;rw[List.length_append,Z16];omega
end Go.Proofs.YtchokmkfobandaaGreatDoor
