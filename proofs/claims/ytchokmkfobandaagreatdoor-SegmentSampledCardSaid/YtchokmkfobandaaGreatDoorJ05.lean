import Derived.Test.YtchokmkfobandaaGreatDoorJ04
import Derived.BigRegion
set_option linter.unusedVariables false
set_option linter.unusedSimpArgs false
set_option maxRecDepth 100000
set_option maxHeartbeats 8000000
namespace Go.Proofs.YtchokmkfobandaaGreatDoor
open Go.RowKit Go.Proofs Wv Wv.Vi Wv.Rc
theorem Za8:(Tryz.prog.info? 5).map (λi=>(i.zero,i.size,i.bytes))=some (some (.int .u8 0),1,1):=by kernel_rfl
def Zo (w:World) (dv cK:Value):Prop:=cK.ownBlock=dv.ownBlock\/∀g,cK.ownBlock=some g->w.heap.size<=g
theorem Zo.refl (w:World) (dv:Value):Zo w dv dv:=.inl rfl
theorem Zo.trans {w w':World} {a b c:Value} (h:Zo w a b) (k:Zo w' b c) (hs:w.heap.size<=w'.heap.size):Zo w a c:=by
 rcases k with k|k
 ·rcases h with h|h
  ·exact .inl (k.trans h)
  ·exact .inr (λg hg=>h g (k▸hg))
 ·exact .inr (λg hg=>Vaq hs (k g hg))
theorem Zhy {w w1 w2:World} {b:Nat} {a d:Value} (h:Fr (foot b a) w w1) (k:Fr (foot b d) w1 w2) (ho:Zo w a d):Fr (foot b a) w w2:=
 h.trans' k (λi hi hs=>by
  rcases hs with hs|hs
  ·exact .inl hs
  ·rcases ho with ho|ho
   ·exact .inr (ho▸hs)
   ·have:=ho i hs;omega)
def EnAt (w:World) (b:Nat) (dv:Value) (e:En):Prop:=
 Bk w b 206 #[dv,.int .u32 (e.low:Int),.int .u32 (e.size:Int)]/\w.ownsRow 0 5 1 dv e.out.length (e.out.map bv)
theorem EnAt.drewN {w:World} {b:Nat} {dv:Value} {e:En} (h:EnAt w b dv e) (n:Nat):EnAt (w.drewN n) b dv e:=h
theorem EnAt.drew {w:World} {b:Nat} {dv:Value} {e:En} (h:EnAt w b dv e):EnAt w.drew b dv e:=h
theorem EnAt.apart {w:World} {b:Nat} {dv:Value} {e:En} (h:EnAt w b dv e):dv.ownBlock≠some b:=Z2 h.2 h.1 (by decide)
theorem EnAt.below {w w':World} {b:Nat} {dv:Value} {e:En} (h:EnAt w b dv e) (hb:Below w.heap.size w w'):EnAt w' b dv e:=
 ⟨h.1.below hb h.1.lt,Zn h.2 (Fr.of_below (S:=nob) hb) (λ_ _ f=>f)⟩
theorem EnAt.fr {S:Nat->Prop} {w w':World} {b:Nat} {dv:Value} {e:En} (h:EnAt w b dv e) (hf:Fr S w w') (h1:¬S b) (h2:∀g,dv.ownBlock=some g->¬S g):EnAt w' b dv e:=
 ⟨h.1.fr hf h1,Zn h.2 hf h2⟩
theorem Z2z (p:Int) (h1:1<=p) (h2:p<=2047) (w:World):
  Calls Tryz.prog 216 #[.int .i64 p] w λx w'=>x=.returned (.int .u32 p)/\w=w':=by
 go_enter Tryz.func216,Tryz.ntmps216;go_wp2;go_ret;exact⟨rfl,rfl⟩
theorem Zeg (l:List UInt8) (j:Nat) (hj:j<l.length) (h:XD l=XD (l.take (j+1))++List.replicate (l.length-(j+1)) 0):
  (l[j]=255->XD l=XD (l.take j)++List.replicate (l.length-j) 0)/\(l[j]≠255->XD l=l.take j++(l[j]+1)::List.replicate (l.length-(j+1)) 0):=by
 rw[Vac hj] at h;refine⟨λe=> ?_,λe=> ?_⟩
 ·rw[e,Z0s] at h;rw[h,Vay,show l.length-j=l.length-(j+1)+1 from by omega,Vbg];rfl
 ·rw[Z0t _ _ e] at h;rw[h,Vay];rfl
theorem Z4s (x:UInt8):((x.toNat:Int)+1) % 256=((x+1).toNat:Int):=by
 rw[UInt8.toNat_add];have:(1:UInt8).toNat=1:=rfl;have:=Vbi x;omega
theorem Zaf (x:UInt8) (h:x=255):(((x+1).toNat:Int) !=0)=false:=by rw[h];rfl
theorem Zag (x:UInt8) (h:x≠255):(((x+1).toNat:Int) !=0)=true:=by
 rw[Va0];have h1:x.toNat≠255:=λe=>h (UInt8.toNat_inj.1 e);rw[<-Z4s];have:=Vbi x;omega
def Part (l:List UInt8) (j:Nat):List UInt8:=l.take j++List.replicate (l.length-j) 0
theorem Z5R (l:List UInt8) (j:Nat) (h:j<=l.length):(Part l j).length=l.length:=by simp[Part];omega
theorem Zeh (l:List UInt8) (j:Nat) (h:j<l.length):(Part l (j+1))[j]? =some l[j]:=by
 unfold Part;rw[List.getElem?_append_left (by rw[Vau];omega),List.getElem?_take_of_lt (by omega),Van h]
theorem Zei (l:List UInt8) (j:Nat) (h:j<l.length) (x:UInt8):(Part l (j+1)).set j x=l.take j++x::List.replicate (l.length-(j+1)) 0:=by
 unfold Part;have hl:(l.take j).length=j:=(by rw[Vau];omega);rw[Vac h,Vay,Va8 _ _ (by omega),hl,Va7];rfl
theorem Zah (l:List UInt8) (j:Nat) (h:j<l.length):l.take j++0::List.replicate (l.length-(j+1)) 0=Part l j:=by
 unfold Part;rw[show l.length-j=l.length-(j+1)+1 from by omega,Vbg]
theorem Z8v {w:World} {b:Nat} {dv:Value} {e:En} (h:EnAt w b dv e) (bU:0<e.out.length) (hm:e.out.length<=9223372036854775807):
  Calls Tryz.prog 217 #[.pointer (some ⟨b,0,none⟩)] w λx w'=>x=.returned (.tuple #[])/\EnAt w' b dv { e with out:=XD e.out } /\Fr (foot b dv) w w':=by
 have h0:=h.1.cell 0;simp at h0;obtain⟨g,cap,rfl,fN⟩:=QT h.2 bU;obtain⟨o,ho⟩:∃o,e.out=o:=⟨_,rfl⟩;have aa:=h.2;rw[ho] at aa hm h0 fN bU;have aD:=h.1;rw[ho] at aD
 have iV:b≠g:=λe=>by
  have:=h.apart;simp[Value.ownBlock,e] at this
 have oO:=h_ iV;have Ho:=h_ ho;clear iV h ho;rw[Ho.o];go_enter Tryz.func217,Tryz.ntmps217;go_wp2;go_loopw [2] (λi wr=>∃j:Nat,j<=o.length/\i=.int .i64 ((j:Int)-1)/\Bk wr b 206 #[.slice (some ⟨g,0,none⟩) o.length cap,.int .u32 (e.low:Int),.int .u32 (e.size:Int)]/\wr.ownsRow 0 5 1 (.slice (some ⟨g,0,none⟩) o.length cap) o.length ((Part o j).map bv)/\Fr (foot b (.slice (some ⟨g,0,none⟩) o.length cap)) w wr/\Hid (XD o=XD (o.take j)++List.replicate (o.length-j) 0)) (λi _=>(intOf i+1).toNat);case atStart=>exact⟨o.length,UZz,rfl,aD,by simpa [Part] using aa,Fr.refl _ _,h_ (by simp)⟩
 case round=>
  obtain⟨j,hj,rfl,aD,aa,hf,rK⟩:=hrel;clear h0;have g0:=aD.cell 0;simp at g0;by_cases ab:0<j
  ·obtain⟨k,rfl⟩:∃k,j=k+1:=⟨j-1,by omega⟩;have hk:k<o.length:=(by omega);obtain⟨x,hx⟩:∃x,o[k]=x:=⟨_,rfl⟩;have tx:=Zeg o k hk rK.o;rw[hx] at tx;have uN:=h_ tx;obtain⟨c1,c2⟩:=QS aa k (.int .u8 (x.toNat:Int)) (by rw[Vbb,Zeh o k hk,hx];rfl);have i1:((k+1:Nat):Int)-1=(k:Int):=(by omega);have cL:(k:Int)<(o.length:Int):=(by omega);have hb:=Z4s x;have du:=h_ (λh=>Zaf x h);have bN:=h_ (λh=>Zag x h);have Dm:bv (x+1)=.int .u8 ((x+1).toNat:Int):=rfl;obtain⟨y,hy⟩:∃y:Nat,(x+1).toNat=y:=⟨_,rfl⟩;rw[hy] at hb du bN Dm;have oP:=Zei o k hk (x+1);have aj:=Z0r aa k hk (.int .u8 (y:Int));have hcell:=(QS aj k (.int .u8 (y:Int)) (by rw[List.getElem?_set_self (by rw[Vag,Z5R o _ (by omega)];exact hk)])).1;rw[show((Part o (k+1)).map bv).set k (.int .u8 (y:Int))=((Part o (k+1)).set k (x+1)).map bv from by rw[List.map_set,Dm],oP] at aj;have rL:=aD.off (p:=⟨g,k,none⟩) oO.o (.int .u8 (y:Int));have q0:=rL.cell 0;simp at q0;have ai:=hf.setCell (p:=⟨g,k,none⟩) (.inl (.inr rfl)) (.int .u8 (y:Int));have aA:=h_ aj;have nf:=h_ rL;have cl:=h_ ai;have PK:=h_ (Zah o k hk);rw[i1];by_cases jy:x=255
   ·have hz:=du.o jy;have Hx:=h_ jy;clear hx rK tx oP aj rL ai aa aD hf jy Dm hy du bN;go_wp2;go_roundw
    case rel=>
     refine⟨k,by omega,rfl,nf.o,?_,cl.o,h_ (uN.o.1 Hx.o)⟩;have:=aA.o;rw[Hx.o] at this;rw[<-PK.o];exact this
    case measure=>simp[intOf]<;>omega
   ·have hz:=bN.o jy;have Hx:=h_ (uN.o.2 jy);clear hx rK tx oP aj rL ai aa aD hf jy Dm hy du bN;go_wp2;go_returns;refine⟨rfl,⟨?_,?_⟩,cl.o⟩
    ·have:=nf.o;simp only[Yd];exact this
    ·have:=aA.o;simp only[Yd];rw[Hx.o];exact this
  ·have gI:j=0:=(by omega);subst gI;go_wp2;go_end0;refine⟨rfl,⟨?_,?_⟩,hf⟩
   ·simp only[Yd];exact aD
   ·simp only[Yd];rw[rK.o];have:=aa;simpa [Part,XD,inc] using this
end Go.Proofs.YtchokmkfobandaaGreatDoor
namespace Wv
open Go Go.RowKit
theorem Zej {P : Program} {w : World} (t ty e : TypeId) (z : Value) (bytes size : Nat) (ht : P.underlying t = some (.slice e)) (aK : (P.info? e).map (λi => (i.zero, i.size, i.bytes)) = some (some z, size, bytes)) (bN : z.cells.size = size) (kF : 0 < size)
    {base:Nat} {v:Value} {n:Nat} {xs:List Value} (hv:w.ownsRow base e size v n xs) (ys:List Value) (KQ:ys.length=size) (h1:∀y∈ys,y.oneCell'=true)
    (e9:n+1<=maxLen) (aV:(n+1)*bytes<=140737488355328) (bx:base<=w.heap.size):
    ∃v' w',(Builtin.append_ #[t,t] ty #[v,.slice (some ⟨w.heap.size,0,none⟩) 1 1]).run P (w.alloc (.cells ys.toArray e)).drew=.ok v' w'/\w'.ownsRow base e size v' (n+1) (xs++ys)/\
      (w.alloc (.cells ys.toArray e)).drew.grownBy w' v.ownBlock/\(v'.ownBlock=v.ownBlock\/v'.ownBlock=some (w.heap.size+1)):=by
  obtain⟨i,hi,hz,hs,dj⟩:=info_parts aK;have bj:(w.alloc (.cells ys.toArray e)).drew.ownsRow base e size v n xs:=hv.alloc _
  obtain ⟨v', w', hr, h2, h3, _, h5⟩ := run_append_own_at (P := P) (w.alloc (.cells ys.toArray e)).drew base t ty e i z size bytes ht hi hz hs dj bN kF v n xs bj ⟨w.heap.size, 0, none⟩ 1 1 ys (by omega) (λj u hu => by
      have hb:=(Bk.new w e ys.toArray).cell j;rw[Go.WideShapes.add_plain,Vbo];show(w.alloc (.cells ys.toArray e)).cell? _=_;rw[hb];simpa using hu) h1 e9 aV (Vaq bx (by simp))
  refine⟨v',w',hr,h2,h3,?_⟩;rcases h5 with h5|h5
  · exact .inl h5
  · refine .inr (h5.trans ?_)
    simp
end Wv
namespace Go.Proofs.YtchokmkfobandaaGreatDoor.Bio
open Go.RowKit Go.Proofs Wv Wv.Bit
def RdAt (w:World) (b:Nat) (s:ByteArray) (x n:Nat):Prop:=Bk w b 308 #[.string s,.int .i64 (x:Int),.int .i64 (n:Int)]/\x<=n/\n<=65536/\n<=8*s.size
theorem RdAt.c0 {w:World} {b x n:Nat} {s:ByteArray} (h:RdAt w b s x n):w.cell? ⟨b,0,none⟩=some (.string s):=h.1.cell 0
theorem RdAt.c1 {w:World} {b x n:Nat} {s:ByteArray} (h:RdAt w b s x n):w.cell? ⟨b,1,none⟩=some (.int .i64 (x:Int)):=h.1.cell 1
theorem RdAt.c2 {w:World} {b x n:Nat} {s:ByteArray} (h:RdAt w b s x n):w.cell? ⟨b,2,none⟩=some (.int .i64 (n:Int)):=h.1.cell 2
theorem left_any {b x n:Nat} {s:ByteArray} {w:World} (h:RdAt w b s x n):
  Calls Tryz.prog 203 #[.pointer (some ⟨b,0,none⟩)] w λe w'=>e=.returned (.int .i64 ((n:Int)-(x:Int)))/\∃q,w'=w.drewN q:=by
 have h1:=h.c1;have h2:=h.c2;obtain⟨_,h3,h4,h5⟩:=h;go_enter Tryz.func203,Tryz.ntmps203;go_wp2;go_quiet (fail);go_wp2;go_ret;exact⟨rfl,_,rfl⟩
theorem Zhz {b x n:Nat} {s:ByteArray} {w:World} (h:RdAt w b s x n) (c:Int) (hc:(n:Int)-(x:Int)<c):
  Calls Tryz.prog 278 #[.pointer (some ⟨b,0,none⟩),.int .i64 c] w λe w'=>e=.returned (.tuple #[.int .i64 0,.int .i64 12])/\∃q,w'=w.drewN q:=by
 have H:=h_ (left_any h);go_enter Tryz.func278,Tryz.ntmps278;go_wp2_with (go_at_call 203;refine(H.o).mono ?_;rintro e w' ⟨rfl,q,rfl⟩);go_ret2;exact⟨rfl,_,rfl⟩
theorem Zek {b x n:Nat} {s:ByteArray} {w:World} (h:RdAt w b s x n) (c:Nat) (hc:x+c<=n) (KR:c<=62):
  Calls Tryz.prog 278 #[.pointer (some ⟨b,0,none⟩),.int .i64 (c:Int)] w λe w'=>e=.returned (.tuple #[.int .i64 (val (((rbits s n).drop x).take c):Nat),.int .i64 0])/\RdAt w' b s (x+c) n/\Fr (only b) w w':=by
 have H:=h_ (left_any h);have dI:¬(n:Int)-(x:Int)<(c:Int):=(by omega);have Hr:=h_ h;clear h;go_enter Tryz.func278,Tryz.ntmps278;go_wp2_with (go_at_call 203;refine(H.o).mono ?_;rintro e w' ⟨rfl,q,rfl⟩);go_loopw [6,12] (λv i wr=>∃k:Nat,k<=c/\i=.int .i64 k/\v=.int .i64 (val (((rbits s n).drop x).take k):Nat)/\RdAt wr b s (x+k) n/\Fr (only b) w wr) (λ_ i _=>(c-intOf i).toNat);case atStart=>exact⟨0,by omega,rfl,rfl,Hr.o,(Fr.refl _ _).drewN _⟩
 case round=>
  obtain⟨k,hk,rfl,rfl,hr,hf⟩:=hrel;by_cases ab:k<c
  ·obtain⟨y,hy⟩:∃y,y=x+k:=⟨_,rfl⟩;have bP:=hr;rw[<-hy] at bP;have g0:=bP.c0;have g1:=bP.c1;have g2:wr.frozen? ⟨b,1,none⟩=false:=hr.1.frozen 1;obtain⟨a7,a8,af,ax⟩:=bP;have Hy:=h_ hy;have j1:y<n:=(by omega);clear hy;have Hv:=h_ (Z3h ((rbits s n).drop x) k (by rw[Va2,rbits_length];have:=Hy.o;omega));have jN:=λh6=>show bt ((rbits s n).drop x) k=(s[y/8]'h6).toNat/2 ^ (7-y % 8) % 2 from(by rw[Zht,<-Hy.o,Ze9 s n y j1 h6]);obtain⟨z,hz⟩:∃z,y/8=z:=⟨_,rfl⟩;obtain⟨d,hd⟩:∃d,7-y % 8=d:=⟨_,rfl⟩;obtain⟨m,hm⟩:∃m,y % 8=m:=⟨_,rfl⟩;have i3:IntKind.i64.wrap ((y:Int)/8)=(z:Int):=(by rw[IntWalk.i64_in _ (by omega)];omega);have i4:IntKind.i64.wrap ((y:Int) % 8)=(m:Int):=(by rw[IntWalk.i64_in _ (by omega)];omega);have i5:IntKind.i64.wrap (7-(m:Int))=(d:Int):=(by rw[IntWalk.i64_in _ (by omega)];omega);have i6:z<s.size:=(by omega);have i2:(z:Int)<(s.size:Int):=(by omega);have i7:d<8:=(by omega);have i8:(d:Int)<8:=(by omega);rw[hz] at jN;have KS:=h_ (jN i6);clear hz hd hm jN;go_wp2;go_quiet (fail);go_wp2;go_roundw
   case rel=>
    refine⟨k+1,by omega,by go_num,?_,?_,(hf.drewN _).setCell (p:=⟨b,1,none⟩) (.inl rfl) _⟩
    ·rw[Hv.o,KS.o];exact congrArg _ (Z8t _ _ _ (Z00 _ _ (by omega)) (Vbi _))
    ·have:=(a7.drewN nq).put 1 (.int .i64 ((y:Int)+1));have h9:=Hy.o;refine⟨?_,by omega,af,ax⟩;rw[show x+(k+1)=y+1 from by omega];exact this
   case measure=>simp[intOf];omega
  ·have:k=c:=(by omega);subst this;go_wp2;go_ret2;exact⟨rfl,hr,hf⟩
end Go.Proofs.YtchokmkfobandaaGreatDoor.Bio
