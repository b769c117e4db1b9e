import Derived.Test.YtchokmkfobandaaGreatDoorJ04
import Derived.BigRegion
set_option linter.unusedVariables false
set_option linter.unusedSimpArgs false
set_option maxRecDepth 100000
set_option maxHeartbeats 8000000
namespace Go.Proofs.YtchokmkfobandaaGreatDoor
open Go.RowKit Go.Proofs Wv Wv.Vi Wv.Rc
theorem Ze2:(Tryz.prog.info? 5).map (λi=>(i.zero,i.size,i.bytes))=some (some (.int .u8 0),1,1):=by kernel_rfl
def Z0k (w:World) (dv cD:Value):Prop:=cD.ownBlock=dv.ownBlock\/∀g,cD.ownBlock=some g->w.heap.size<=g
theorem Z0k.refl (w:World) (dv:Value):Z0k w dv dv:=.inl rfl
theorem Z0k.trans {w w':World} {a b c:Value} (h:Z0k w a b) (k:Z0k w' b c) (hs:w.heap.size<=w'.heap.size):Z0k w a c:=by
 rcases k with k|k
 ·rcases h with h|h
  ·exact .inl (k.trans h)
  ·exact .inr (λg hg=>h g (k▸hg))
 ·exact .inr (λg hg=>Nat.le_trans hs (k g hg))
theorem Zl8 {w w1 w2:World} {b:Nat} {a d:Value} (h:Fr (foot b a) w w1) (k:Fr (foot b d) w1 w2) (ho:Z0k w a d):Fr (foot b a) w w2:=
 h.trans' k (λi hi hs=>by
  rcases hs with hs|hs
  ·exact .inl hs
  ·rcases ho with ho|ho
   ·exact .inr (ho▸hs)
   ·have:=ho i hs;omega)
def EnAt (w:World) (b:Nat) (dv:Value) (e:En):Prop:=
 Bk w b 206 #[dv,.int .u32 (e.low:Int),.int .u32 (e.size:Int)]/\w.ownsRow 0 5 1 dv e.out.length (e.out.map bv)
theorem EnAt.drewN {w:World} {b:Nat} {dv:Value} {e:En} (h:EnAt w b dv e) (n:Nat):EnAt (w.drewN n) b dv e:=h
theorem EnAt.drew {w:World} {b:Nat} {dv:Value} {e:En} (h:EnAt w b dv e):EnAt w.drew b dv e:=h
theorem EnAt.apart {w:World} {b:Nat} {dv:Value} {e:En} (h:EnAt w b dv e):dv.ownBlock≠some b:=Z02 h.2 h.1 (by decide)
theorem EnAt.below {w w':World} {b:Nat} {dv:Value} {e:En} (h:EnAt w b dv e) (hb:Below w.heap.size w w'):EnAt w' b dv e:=
 ⟨h.1.below hb h.1.lt,Z0v h.2 (Fr.of_below (S:=nob) hb) (λ_ _ f=>f)⟩
theorem EnAt.fr {S:Nat->Prop} {w w':World} {b:Nat} {dv:Value} {e:En} (h:EnAt w b dv e) (hf:Fr S w w') (h1:¬S b) (h2:∀g,dv.ownBlock=some g->¬S g):EnAt w' b dv e:=
 ⟨h.1.fr hf h1,Z0v h.2 hf h2⟩
theorem Z6u (p:Int) (h1:1<=p) (h2:p<=2047) (w:World):
  Calls Tryz.prog 216 #[.int .i64 p] w λx w'=>x=.returned (.int .u32 p)/\w=w':=by
 go_enter Tryz.func216,Tryz.ntmps216;go_wp2;go_ret;exact⟨rfl,rfl⟩
theorem ZhZ (l:List UInt8) (j:Nat) (hj:j<l.length) (h:Z2E l=Z2E (l.take (j+1))++List.replicate (l.length-(j+1)) 0):
  (l[j]=255->Z2E l=Z2E (l.take j)++List.replicate (l.length-j) 0)/\(l[j]≠255->Z2E l=l.take j++(l[j]+1)::List.replicate (l.length-(j+1)) 0):=by
 rw[List.take_succ_eq_append_getElem hj] at h;refine⟨λe=> ?_,λe=> ?_⟩
 ·rw[e,Z4s] at h;rw[h,List.append_assoc,show l.length-j=l.length-(j+1)+1 from by omega,List.replicate_succ];rfl
 ·rw[Z4t _ _ e] at h;rw[h,List.append_assoc];rfl
theorem Z8s (x:UInt8):((x.toNat:Int)+1) % 256=((x+1).toNat:Int):=by
 rw[UInt8.toNat_add];have:(1:UInt8).toNat=1:=rfl;have:=UInt8.toNat_lt x;omega
theorem Ze9 (x:UInt8) (h:x=255):(((x+1).toNat:Int) !=0)=false:=by rw[h];rfl
theorem Zea (x:UInt8) (h:x≠255):(((x+1).toNat:Int) !=0)=true:=by
 rw[bne_iff_ne];have h1:x.toNat≠255:=λe=>h (UInt8.toNat_inj.1 e);rw[<-Z8s];have:=UInt8.toNat_lt x;omega
def Part (l:List UInt8) (j:Nat):List UInt8:=l.take j++List.replicate (l.length-j) 0
theorem Z9N (l:List UInt8) (j:Nat) (h:j<=l.length):(Part l j).length=l.length:=by simp[Part];omega
theorem Zi0 (l:List UInt8) (j:Nat) (h:j<l.length):(Part l (j+1))[j]? =some l[j]:=by
 unfold Part;rw[List.getElem?_append_left (by rw[List.length_take];omega),List.getElem?_take_of_lt (by omega),List.getElem?_eq_getElem h]
theorem Zi1 (l:List UInt8) (j:Nat) (h:j<l.length) (x:UInt8):(Part l (j+1)).set j x=l.take j++x::List.replicate (l.length-(j+1)) 0:=by
 unfold Part;have hl:(l.take j).length=j:=(by rw[List.length_take];omega);rw[List.take_succ_eq_append_getElem h,List.append_assoc,List.set_append_right _ _ (by omega),hl,Nat.sub_self];rfl
theorem Zeb (l:List UInt8) (j:Nat) (h:j<l.length):l.take j++0::List.replicate (l.length-(j+1)) 0=Part l j:=by
 unfold Part;rw[show l.length-j=l.length-(j+1)+1 from by omega,List.replicate_succ]
theorem Zco {w:World} {b:Nat} {dv:Value} {e:En} (h:EnAt w b dv e) (bR:0<e.out.length) (hm:e.out.length<=9223372036854775807):
  Calls Tryz.prog 217 #[.pointer (some ⟨b,0,none⟩)] w λx w'=>x=.returned (.tuple #[])/\EnAt w' b dv { e with out:=Z2E e.out } /\Fr (foot b dv) w w':=by
 have h0:=h.1.cell 0;simp at h0;obtain⟨g,cap,rfl,fB⟩:=Z3S h.2 bR;obtain⟨o,ho⟩:∃o,e.out=o:=⟨_,rfl⟩;have aa:=h.2;rw[ho] at aa hm h0 fB bR;have aC:=h.1;rw[ho] at aC
 have iJ:b≠g:=λe=>by
  have:=h.apart;simp[Value.ownBlock,e] at this
 have om:=h_ iJ;have Ho:=h_ ho;clear iJ h ho;rw[Ho.o];go_enter Tryz.func217,Tryz.ntmps217;go_wp2;go_loopw [2] (λi wr=>∃j:Nat,j<=o.length/\i=.int .i64 ((j:Int)-1)/\Bk wr b 206 #[.slice (some ⟨g,0,none⟩) o.length cap,.int .u32 (e.low:Int),.int .u32 (e.size:Int)]/\wr.ownsRow 0 5 1 (.slice (some ⟨g,0,none⟩) o.length cap) o.length ((Part o j).map bv)/\Fr (foot b (.slice (some ⟨g,0,none⟩) o.length cap)) w wr/\Hid (Z2E o=Z2E (o.take j)++List.replicate (o.length-j) 0)) (λi _=>(intOf i+1).toNat);case atStart=>exact⟨o.length,Nat.le_refl _,rfl,aC,by simpa [Part] using aa,Fr.refl _ _,h_ (by simp)⟩
 case round=>
  obtain⟨j,hj,rfl,aC,aa,hf,r9⟩:=hrel;clear h0;have g0:=aC.cell 0;simp at g0;by_cases ab:0<j
  ·obtain⟨k,rfl⟩:∃k,j=k+1:=⟨j-1,by omega⟩;have hk:k<o.length:=(by omega);obtain⟨x,hx⟩:∃x,o[k]=x:=⟨_,rfl⟩;have sI:=ZhZ o k hk r9.o;rw[hx] at sI;have ua:=h_ sI;obtain⟨c1,c2⟩:=Z3R aa k (.int .u8 (x.toNat:Int)) (by rw[List.getElem?_map,Zi0 o k hk,hx];rfl);have i1:((k+1:Nat):Int)-1=(k:Int):=(by omega);have cE:(k:Int)<(o.length:Int):=(by omega);have hb:=Z8s x;have dp:=h_ (λh=>Ze9 x h);have bM:=h_ (λh=>Zea x h);have Cz:bv (x+1)=.int .u8 ((x+1).toNat:Int):=rfl;obtain⟨y,hy⟩:∃y:Nat,(x+1).toNat=y:=⟨_,rfl⟩;rw[hy] at hb dp bM Cz;have oo:=Zi1 o k hk (x+1);have aj:=Z4r aa k hk (.int .u8 (y:Int));have hcell:=(Z3R aj k (.int .u8 (y:Int)) (by rw[List.getElem?_set_self (by rw[List.length_map,Z9N o _ (by omega)];exact hk)])).1;rw[show((Part o (k+1)).map bv).set k (.int .u8 (y:Int))=((Part o (k+1)).set k (x+1)).map bv from by rw[List.map_set,Cz],oo] at aj;have ra:=aC.off (p:=⟨g,k,none⟩) om.o (.int .u8 (y:Int));have q0:=ra.cell 0;simp at q0;have ah:=hf.setCell (p:=⟨g,k,none⟩) (.inl (.inr rfl)) (.int .u8 (y:Int));have av:=h_ aj;have mN:=h_ ra;have bW:=h_ ah;have Pf:=h_ (Zeb o k hk);rw[i1];by_cases jh:x=255
   ·have hz:=dp.o jh;have Hx:=h_ jh;clear hx r9 sI oo aj ra ah aa aC hf jh Cz hy dp bM;go_wp2;go_roundw
    case rel=>
     refine⟨k,by omega,rfl,mN.o,?_,bW.o,h_ (ua.o.1 Hx.o)⟩;have:=av.o;rw[Hx.o] at this;rw[<-Pf.o];exact this
    case measure=>simp[intOf]<;>omega
   ·have hz:=bM.o jh;have Hx:=h_ (ua.o.2 jh);clear hx r9 sI oo aj ra ah aa aC hf jh Cz hy dp bM;go_wp2;go_returns;refine⟨rfl,⟨?_,?_⟩,bW.o⟩
    ·have:=mN.o;simp only[Z1e];exact this
    ·have:=av.o;simp only[Z1e];rw[Hx.o];exact this
  ·have hU:j=0:=(by omega);subst hU;go_wp2;go_end0;refine⟨rfl,⟨?_,?_⟩,hf⟩
   ·simp only[Z1e];exact aC
   ·simp only[Z1e];rw[r9.o];have:=aa;simpa [Part,Z2E,inc] using this
end Go.Proofs.YtchokmkfobandaaGreatDoor
namespace Wv
open Go Go.RowKit
theorem Zi2 {P : Program} {w : World} (t ty e : TypeId) (z : Value) (bytes size : Nat) (ht : P.underlying t = some (.slice e)) (aH : (P.info? e).map (λi => (i.zero, i.size, i.bytes)) = some (some z, size, bytes)) (bM : z.cells.size = size) (jW : 0 < size)
    {base:Nat} {v:Value} {n:Nat} {xs:List Value} (hv:w.ownsRow base e size v n xs) (ys:List Value) (Kv:ys.length=size) (h1:∀y∈ys,y.oneCell'=true)
    (dT:n+1<=maxLen) (aS:(n+1)*bytes<=140737488355328) (bw:base<=w.heap.size):
    ∃v' w',(Builtin.append_ #[t,t] ty #[v,.slice (some ⟨w.heap.size,0,none⟩) 1 1]).run P (w.alloc (.cells ys.toArray e)).drew=.ok v' w'/\w'.ownsRow base e size v' (n+1) (xs++ys)/\
      (w.alloc (.cells ys.toArray e)).drew.grownBy w' v.ownBlock/\(v'.ownBlock=v.ownBlock\/v'.ownBlock=some (w.heap.size+1)):=by
  obtain⟨i,hi,hz,hs,dd⟩:=info_parts aH;have bj:(w.alloc (.cells ys.toArray e)).drew.ownsRow base e size v n xs:=hv.alloc _
  obtain ⟨v', w', hr, h2, h3, _, h5⟩ := run_append_own_at (P := P) (w.alloc (.cells ys.toArray e)).drew base t ty e i z size bytes ht hi hz hs dd bM jW v n xs bj ⟨w.heap.size, 0, none⟩ 1 1 ys (by omega) (λj u hu => by
      have hb:=(Bk.new w e ys.toArray).cell j;rw[Go.WideShapes.add_plain,Nat.zero_add];show(w.alloc (.cells ys.toArray e)).cell? _=_;rw[hb];simpa using hu) h1 dT aS (Nat.le_trans bw (by simp))
  refine⟨v',w',hr,h2,h3,?_⟩;rcases h5 with h5|h5
  · exact .inl h5
  · refine .inr (h5.trans ?_)
    simp
end Wv
namespace Go.Proofs.YtchokmkfobandaaGreatDoor.Bio
open Go.RowKit Go.Proofs Wv Wv.Bit
def RdAt (w:World) (b:Nat) (s:ByteArray) (x n:Nat):Prop:=Bk w b 308 #[.string s,.int .i64 (x:Int),.int .i64 (n:Int)]/\x<=n/\n<=65536/\n<=8*s.size
theorem RdAt.c0 {w:World} {b x n:Nat} {s:ByteArray} (h:RdAt w b s x n):w.cell? ⟨b,0,none⟩=some (.string s):=h.1.cell 0
theorem RdAt.c1 {w:World} {b x n:Nat} {s:ByteArray} (h:RdAt w b s x n):w.cell? ⟨b,1,none⟩=some (.int .i64 (x:Int)):=h.1.cell 1
theorem RdAt.c2 {w:World} {b x n:Nat} {s:ByteArray} (h:RdAt w b s x n):w.cell? ⟨b,2,none⟩=some (.int .i64 (n:Int)):=h.1.cell 2
theorem left_any {b x n:Nat} {s:ByteArray} {w:World} (h:RdAt w b s x n):
  Calls Tryz.prog 203 #[.pointer (some ⟨b,0,none⟩)] w λe w'=>e=.returned (.int .i64 ((n:Int)-(x:Int)))/\∃q,w'=w.drewN q:=by
 have h1:=h.c1;have h2:=h.c2;obtain⟨_,h3,h4,h5⟩:=h;go_enter Tryz.func203,Tryz.ntmps203;go_wp2;go_quiet (fail);go_wp2;go_ret;exact⟨rfl,_,rfl⟩
theorem Zl9 {b x n:Nat} {s:ByteArray} {w:World} (h:RdAt w b s x n) (c:Int) (hc:(n:Int)-(x:Int)<c):
  Calls Tryz.prog 278 #[.pointer (some ⟨b,0,none⟩),.int .i64 c] w λe w'=>e=.returned (.tuple #[.int .i64 0,.int .i64 12])/\∃q,w'=w.drewN q:=by
 have H:=h_ (left_any h);go_enter Tryz.func278,Tryz.ntmps278;go_wp2_with (go_at_call 203;refine(H.o).mono ?_;rintro e w' ⟨rfl,q,rfl⟩);go_ret2;exact⟨rfl,_,rfl⟩
theorem Zi3 {b x n:Nat} {s:ByteArray} {w:World} (h:RdAt w b s x n) (c:Nat) (hc:x+c<=n) (Kw:c<=62):
  Calls Tryz.prog 278 #[.pointer (some ⟨b,0,none⟩),.int .i64 (c:Int)] w λe w'=>e=.returned (.tuple #[.int .i64 (val (((rbits s n).drop x).take c):Nat),.int .i64 0])/\RdAt w' b s (x+c) n/\Fr (only b) w w':=by
 have H:=h_ (left_any h);have dF:¬(n:Int)-(x:Int)<(c:Int):=(by omega);have Hr:=h_ h;clear h;go_enter Tryz.func278,Tryz.ntmps278;go_wp2_with (go_at_call 203;refine(H.o).mono ?_;rintro e w' ⟨rfl,q,rfl⟩);go_loopw [6,12] (λv i wr=>∃k:Nat,k<=c/\i=.int .i64 k/\v=.int .i64 (val (((rbits s n).drop x).take k):Nat)/\RdAt wr b s (x+k) n/\Fr (only b) w wr) (λ_ i _=>(c-intOf i).toNat);case atStart=>exact⟨0,by omega,rfl,rfl,Hr.o,(Fr.refl _ _).drewN _⟩
 case round=>
  obtain⟨k,hk,rfl,rfl,hr,hf⟩:=hrel;by_cases ab:k<c
  ·obtain⟨y,hy⟩:∃y,y=x+k:=⟨_,rfl⟩;have bQ:=hr;rw[<-hy] at bQ;have g0:=bQ.c0;have g1:=bQ.c1;have g2:wr.frozen? ⟨b,1,none⟩=false:=hr.1.frozen 1;obtain⟨a7,a8,ae,aw⟩:=bQ;have Hy:=h_ hy;have j1:y<n:=(by omega);clear hy;have Hv:=h_ (Z7f ((rbits s n).drop x) k (by rw[List.length_drop,rbits_length];have:=Hy.o;omega));have jy:=λh6=>show bt ((rbits s n).drop x) k=(s[y/8]'h6).toNat/2 ^ (7-y % 8) % 2 from(by rw[Zl3,<-Hy.o,ZhS s n y j1 h6]);obtain⟨z,hz⟩:∃z,y/8=z:=⟨_,rfl⟩;obtain⟨d,hd⟩:∃d,7-y % 8=d:=⟨_,rfl⟩;obtain⟨m,hm⟩:∃m,y % 8=m:=⟨_,rfl⟩;have i3:IntKind.i64.wrap ((y:Int)/8)=(z:Int):=(by rw[IntWalk.i64_in _ (by omega)];omega);have i4:IntKind.i64.wrap ((y:Int) % 8)=(m:Int):=(by rw[IntWalk.i64_in _ (by omega)];omega);have i5:IntKind.i64.wrap (7-(m:Int))=(d:Int):=(by rw[IntWalk.i64_in _ (by omega)];omega);have i6:z<s.size:=(by omega);have i2:(z:Int)<(s.size:Int):=(by omega);have i7:d<8:=(by omega);have i8:(d:Int)<8:=(by omega);rw[hz] at jy;have Kx:=h_ (jy i6);clear hz hd hm jy;go_wp2;go_quiet (fail);go_wp2;go_roundw
   case rel=>
    refine⟨k+1,by omega,by go_num,?_,?_,(hf.drewN _).setCell (p:=⟨b,1,none⟩) (.inl rfl) _⟩
    ·rw[Hv.o,Kx.o];exact congrArg _ (Zcm _ _ _ (Z3Z _ _ (by omega)) (UInt8.toNat_lt _))
    ·have:=(a7.drewN nq).put 1 (.int .i64 ((y:Int)+1));have h9:=Hy.o;refine⟨?_,by omega,ae,aw⟩;rw[show x+(k+1)=y+1 from by omega];exact this
   case measure=>simp[intOf];omega
  ·have:k=c:=(by omega);subst this;go_wp2;go_ret2;exact⟨rfl,hr,hf⟩
end Go.Proofs.YtchokmkfobandaaGreatDoor.Bio
