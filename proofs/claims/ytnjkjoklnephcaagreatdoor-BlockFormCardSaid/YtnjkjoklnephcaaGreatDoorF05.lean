import Derived.Test.YtnjkjoklnephcaaGreatDoorF04
import Derived.BigRegion
set_option linter.all false
set_option maxRecDepth 100000
set_option maxHeartbeats 0
theorem vO{P:Prop}(h:P:=by rw[ek];omega):P:=h
theorem I6{P:Prop}(h:P:=by rw[IntWalk.i64_in _ (by omega)];omega):P:=h
namespace Go.Proofs.Y
open Tryz Wv Go.RowKit
variable{a dv:aI}{b:Nat}{w w':aq}
theorem C_:(prog.info? 5).map (λi=>(i.zero,i.size,i.bytes))=some (some (.int .u8 0),1,1):=qD
def Zu (w:aq) (dv d:aI):Prop:=d.ownBlock=dv.ownBlock\/∀g,d.ownBlock=some g->w.heap.size<=g
theorem Zu.refl (w:aq) (dv:aI):Zu w dv dv:=.inl rfl
theorem Zu.trans {b c:aI} (h:Zu w a b) (k:Zu w' b c) (j:w<=w'.heap.size):Zu w a c:=by rcases k with k|k;rcases h with h|h;exact .inl (k.trans h);exact .inr (λg d=>h g (k▸d));exact .inr (λg d=>co j (k g d))
theorem Zml {w1 l:aq} {d:aI} (h:Fr (foot b a) w w1) (k:Fr (foot b d) w1 l) (j:Zu w a d):Fr (foot b a) w l:=
 h.trans' k (λi hi g=>by rcases g with g|g;exact .inl g;rcases j with j|j;exact .inr (j▸g);have:=j i g;omega)
def dY (w:aq) (b:Nat) (dv:aI) (e:En):Prop:=
 Bk w b 242 #[dv,.int .u32 (e.low:Int),.int .u32 (e.size:Int)]/\w.ownsRow 0 5 1 dv e.out (e.out.map bv)
theorem dY.drewN {e:En} (h:dY w b dv e) (n:Nat):dY (w.drewN n) b dv e:=h
theorem dY.drew {e:En} (h:dY w b dv e):dY w.drew b dv e:=h
theorem dY.apart {e:En} (h:dY w b dv e):dv.ownBlock≠some b:=Z1 h.2 h.1 aY
theorem dY.below {e:En} (h:dY w b dv e) (hb:Below w w w'):dY w' b dv e:=
 ⟨h.1.below hb h.1.lt,Z6 h.2 (Fr.of_below (S:=nob) hb) (λ_ _ f=>f)⟩
theorem dY.fr {S:Nat->Prop} {e:En} (h:dY w b dv e) (d:Fr S w w') (h1:¬S b) (j:∀g,dv.ownBlock=some g->¬S g):dY w' b dv e:=
 ⟨h.1.fr d h1,Z6 h.2 d j⟩
theorem Tm (p:Int) (h1:1<=p) (d:p<=2047) (w:aq):
  Calls prog 208 #[p] w λx w'=>x=.returned (.int .u32 p)/\w=w':=Cl
theorem ZhK (l:ax) (j:Nat) (d:j<l) (h:Qa l=Qa (l.take (j+1))++List.replicate (l.length-(j+1)) 0):
  (l[j]=255->Qa l=Qa (l.take j)++List.replicate (l.length-j) 0)/\(l[j]≠255->Qa l=l.take j++(l[j]+1)::List.replicate (l.length-(j+1)) 0):=by rw[dK d] at h;refine⟨λe=> ?_,λe=> ?_⟩;rw[e,JV] at h;rw[h,er,show l.length-j=l.length-(j+1)+1 from by exact O,pP];rfl;rw[JW _ _ e] at h;rw[h,er];rfl
theorem TY (x:cj):((x.toNat:Int)+1) % 256=((x+1).toNat:Int):=by rw[UInt8.toNat_add];have:(1:cj).toNat=1:=rfl;have:=iq x;omega
theorem Zhg (x:cj) (h:x=255):(((x+1).toNat:Int) !=0)=false:=by rw[h];rfl
theorem Zgf (x:cj) (h:x≠255):(((x+1).toNat:Int) !=0)=true:=by rw[kx];have h1:x.toNat≠255:=λe=>h (UInt8.toNat_inj.1 e);rw[<-TY];have:=iq x;omega
def rQ (l:ax) (j:Nat):ax:=l.take j++List.replicate (l.length-j) 0
theorem Z8P (l:ax) (j:Nat) (h:j<=l):(rQ l j)=l.length:=by simp[rQ];omega
theorem Zjf (l:ax) (j:Nat) (h:j<l):(rQ l (j+1))[j]? =some l[j]:=by unfold rQ;rw[List.getElem?_append_left vO,List.getElem?_take_of_lt O,fb h]
theorem Zjg (l:ax) (j:Nat) (h:j<l) (x:cj):(rQ l (j+1)).set j x=l.take j++x::List.replicate (l.length-(j+1)) 0:=by unfold rQ;have d:(l.take j)=j:=vO;rw[dK h,er,nj _ _ O,d,fh];rfl
theorem Zf4 (l:ax) (j:Nat) (h:j<l):l.take j++0::List.replicate (l.length-(j+1)) 0=rQ l j:=by unfold rQ;rw[show l.length-j=l.length-(j+1)+1 from by exact O,pP]
theorem ZbV {e:En} (h:dY w b dv e) (a1:0<e.out.length) (b2:e.out.length<=9223372036854775807):
  Calls prog 209 #[(b,0)] w λx w'=>x=.returned (.tuple #[])/\dY w' b dv { e with out:=Qa e.out } /\Fr (foot b dv) w w':=by
 have h0:=h.1.cell 0;simp at h0;obtain⟨g,cap,rfl,a9⟩:=C' h.2 a1;obtain⟨o,M⟩:=ay e.out;have d:=h.2;rw[M] at d b2 h0 a9 a1;have l:=h.1;rw[M] at l;have a8:b≠g:=λe=>by have:=h.apart;simp[Value.ownBlock,e] at this
 have b4:=J a8;have a7:=J M;rw[a7.o];go_in;go_wp2;go_loopw [2] (λi wr=>∃j:Nat,j<=o/\i=((j:Int)-1:Int)/\Bk wr b 242 #[.slice (some (g,0)) o cap,.int .u32 (e.low:Int),.int .u32 (e.size:Int)]/\wr.ownsRow 0 5 1 (.slice (some (g,0)) o cap) o ((rQ o j).map bv)/\Fr (foot b (.slice (some (g,0)) o cap)) w wr/\Hid (Qa o=Qa (o.take j)++List.replicate (o.length-j) 0)) (λi _=>(intOf i+1).toNat);exact⟨o.length,aU,rfl,l,by simpa [rQ] using d,Fr.refl _ _,J (by simp)⟩;obtain⟨j,b8,rfl,l,d,L,D⟩:=hrel;have b0:=l.cell 0;simp at b0;by_cases ab:0<j
 .obtain⟨k,rfl⟩:∃k,j=k+1:=⟨j-1,O⟩;have q:k<o.length:=O;obtain⟨x,R⟩:=ay o[k];have B:=ZhK o k q D.o;rw[R] at B;have a6:=J B;obtain⟨c1,c2⟩:=C9 d k (.int .u8 (x.toNat:Int)) (by rw[jX,Zjf o k q,R];rfl);have i1:((k+1:Nat):Int)-1=(k:Int):=O;have b7:(k:Int)<o:=O;have hb:=TY x;have I:=J (λh=>Zhg x h);have G:=J (λh=>Zgf x h);have F:bv (x+1)=.int .u8 ((x+1).toNat:Int):=rfl;obtain⟨y,a4⟩:∃y:Nat,(x+1).toNat=y:=⟨_,rfl⟩;rw[a4] at hb I G F;have a3:=Zjg o k q (x+1);have z:=Dd d k q (.int .u8 (y:Int));have b6:=(C9 z k (.int .u8 (y:Int)) (by rw[List.getElem?_set_self (by rw[c',Z8P o _ O];exact q)])).1;rw[show((rQ o (k+1)).map bv).set k (.int .u8 (y:Int))=((rQ o (k+1)).set k (x+1)).map bv from by rw[List.map_set,F],a3] at z;have E:=l.off (p:=⟨g,k,none⟩) b4.o (.int .u8 (y:Int));have b5:=E.cell 0;simp at b5;have a0:=L.setCell (p:=⟨g,k,none⟩) (.inl (.inr rfl)) (.int .u8 (y:Int));obtain⟨S,a5,a2,Q⟩:=dc z E a0 (Zf4 o k q);rw[i1];by_cases t:x=255;.have b3:=I.o t;have u:=J t;clear R D B a3 z E a0 d l L t F a4 I G;go_wp2;go_roundw;refine⟨k,O,rfl,a5.o,?_,a2.o,J (a6.o.1 u.o)⟩;have:=S.o;rw[u.o] at this;rw[<-Q.o];exact this;simp[intOf]<;>omega
  have b3:=G.o t;have u:=J (a6.o.2 t);go_wp2;go_returns;refine⟨rfl,⟨?_,?_⟩,a2.o⟩;have:=a5.o;simp only[Ym];exact this;have:=S.o;simp only[Ym];rw[u.o];exact this
 have b1:j=0:=O;subst b1;go_wp2;go_end0;refine⟨rfl,⟨?_,?_⟩,L⟩;simp only[Ym];exact l;simp only[Ym];rw[D.o];have:=d;simpa [rQ,Qa,D9] using this
end Go.Proofs.Y
namespace Wv
open Go.Proofs.Tryz Go Go.RowKit
theorem ZjJ {P : Program} {w : aq} (t l e : TypeId) (z : aI) (bytes size : Nat) (R : P.underlying t = some (.slice e)) (p : (P.info? e).map (λi => (i.zero, i.size, i.bytes)) = some (some z, size, bytes)) (E : z.cells.size = size) (a1 : 0 < size)
    {base:Nat} {v:aI} {n:Nat} {xs:List aI} (S:w.ownsRow base e size v n xs) (d:List aI) (a2:d=size) (h1:∀y∈d,y.oneCell'=true)
    (G:n+1<=maxLen) (q:(n+1)*bytes<=140737488355328) (B:base<=w):
    ∃g w',(Builtin.append_ #[t,t] l #[v,.slice (some (w,0)) 1 1]).run P (w.alloc (.cells d.toArray e)).drew=.ok g w'/\w'.ownsRow base e size g (n+1) (xs++d)/\
      (w.alloc (.cells d.toArray e)).drew.grownBy w' v.ownBlock/\(g.ownBlock=v.ownBlock\/g.ownBlock=some (w.heap.size+1)):=by obtain⟨i,hi,a0,Q,F⟩:=info_parts p;have D:(w.alloc (.cells d.toArray e)).drew.ownsRow base e size v n xs:=S.alloc _;obtain ⟨g, w', M, I, L, _, k⟩ := run_append_own_at (P := P) (w.alloc (.cells d.toArray e)).drew base t l e i z size bytes R hi a0 Q F E a1 v n xs D ⟨w, 0, none⟩ 1 1 d O (λj u a3 => by have hb:=(Bk.new w e d.toArray).cell j;rw[Go.WideShapes.add_plain,jK];show(w.alloc (.cells d.toArray e)).cell? _=_;grind) h1 G q (co B (by simp));refine⟨g,w',M,I,L,?_⟩;rcases k with k|k;exact aO;simp_all
end Wv
namespace Go.Proofs.Y
open Tryz Wv Go.RowKit
variable{b n x:Nat}{s:aT}{w:aq}
def gA (w:aq) (b:Nat) (s:aT) (x n:Nat):Prop:=Bk w b 369 #[s,x,n]/\x<=n/\n<=65536/\n<=8*s.size
theorem gA.c0 (h:gA w b s x n):w.cell? (b,0)=s:=h.1.cell 0
theorem gA.c1 (h:gA w b s x n):w.cell? (b,1)=x:=h.1.cell 1
theorem gA.c2 (h:gA w b s x n):w.cell? (b,2)=n:=h.1.cell 2
theorem Ia (h:gA w b s x n):
  Calls prog 271 #[(b,0)] w λe w'=>e=.returned ((n:Int)-x:Int)/\∃q,w'=w.drewN q:=by have h1:=h.c1;have d:=h.c2;obtain⟨_,g,j,k⟩:=h;go_in;go_wp2;go_quiet (fail);go_wp2;go_ret;exact⟨rfl,_,rfl⟩
theorem ZnM (h:gA w b s x n) (c:Int) (g:(n:Int)-x<c):
  Calls prog 337 #[(b,0),c] w λe w'=>e=.returned (.tuple #[(0:Int),(12:Int)])/\∃q,w'=w.drewN q:=by have d:=J (Ia h);go_in;go_wp2_with (go_at_call 271;refine(d.o).mono ?_;rintro e w' ⟨rfl,q,rfl⟩);go_ret2;exact⟨rfl,_,rfl⟩
theorem Zk7 (h:gA w b s x n) (c:Nat) (a7:x+c<=n) (a1:c<=62):
  Calls prog 337 #[(b,0),c] w λe w'=>e=.returned (.tuple #[((val (((ed s n).drop x).take c):Nat):Int),(0:Int)])/\gA w' b s (x+c) n/\Fr (only b) w w':=by
 have g:=J (Ia h);have a2:¬(n:Int)-x<(c:Int):=O;have G:=J h;clear h;go_in;go_wp2_with (go_at_call 271;refine(g.o).mono ?_;rintro e w' ⟨rfl,q,rfl⟩);go_loopw [6,12] (λv i wr=>∃k:Nat,k<=c/\i=k/\v=.int .i64 (val (((ed s n).drop x).take k):Nat)/\gA wr b s (x+k) n/\Fr (only b) w wr) (λ_ i _=>(c-intOf i).toNat);exact⟨0,O,rfl,rfl,G.o,(Fr.refl _ _).drewN _⟩;obtain⟨k,a8,rfl,rfl,t,E⟩:=hrel;by_cases ab:k<c
 .obtain⟨y,u⟩:∃y,y=x+k:=⟨_,rfl⟩;have j:=t;rw[<-u] at j;have a3:=j.c0;have a4:=j.c1;have a5:wr.frozen? (b,1)=false:=t.1.frozen 1;obtain⟨Q,aa,M,an⟩:=j;have l:=J u;have a0:y<n:=O;clear u;have I:=J (Z5V ((ed s n).drop x) k (by rw[iW,rM];have:=l.o;omega));have B:=λD=>show bt ((ed s n).drop x) k=(s[y/8]'D).toNat/2 ^ (7-y % 8) % 2 from(by rw[ZlC,<-l.o,ZhC s n y a0 D]);obtain⟨z,F⟩:=ay (y/8);obtain⟨d,hd⟩:=ay (7-y % 8);obtain⟨m,R⟩:=ay (y % 8);have b0:IntKind.i64.wrap ((y:Int)/8)=(z:Int):=I6;have b1:IntKind.i64.wrap ((y:Int) % 8)=(m:Int):=I6;have b2:IntKind.i64.wrap (7-(m:Int))=(d:Int):=I6;have S:z<s.size:=O;have a9:(z:Int)<s.size:=O;have b3:d<8:=O;have b4:(d:Int)<8:=O;rw[F] at B;have L:=J (B S);clear F hd R B;go_wp2;go_quiet (fail);go_wp2;go_roundw;.refine⟨k+1,O,ci,?_,?_,(E.drewN _).setCell (p:=⟨b,1,none⟩) (.inl rfl) _⟩;rw[I.o,L.o];exact congrArg _ (Zcd _ _ _ (Rx _ _ O) (iq _));have:=(Q.drewN nq).put 1 ((y:Int)+1:Int);have a6:=l.o;refine⟨?_,O,M,an⟩;rw[show x+(k+1)=y+1 from by exact O];exact this
  simp[intOf];omega
 have:k=c:=O;subst this;go_wp2;go_ret2;exact⟨rfl,t,E⟩
