import Derived.Test.YtikecoijpkmnbaaGreatDoorJ04
import Derived.BigRegion
set_option linter.all false
set_option maxRecDepth 100000
set_option maxHeartbeats 0
theorem vO{P:Prop}(h:P:=by rw[ek];omega):P:=h
theorem I6{P:Prop}(h:P:=by rw[IntWalk.i64_in _ (by omega)];omega):P:=h
namespace Go.Proofs.Y
open Tryz Wv Go.RowKit
variable{a dv:aI}{b:Nat}{w w':aq}
theorem C_:(prog.info? 5).map (λi=>(i.zero,i.size,i.bytes))=some (some (.int .u8 0),1,1):=qD
def Zu (w:aq) (dv k:aI):Prop:=k.ownBlock=dv.ownBlock\/∀g,k.ownBlock=some g->w.heap.size<=g
theorem Zu.refl (w:aq) (dv:aI):Zu w dv dv:=.inl rfl
theorem Zu.trans {b c:aI} (h:Zu w a b) (k:Zu w' b c) (p:w<=w'.heap.size):Zu w a c:=by rcases k with k|k;rcases h with h|h;exact .inl (k.trans h);exact .inr (λg l=>h g (k▸l));exact .inr (λg l=>co p (k g l))
theorem Zml {w1 p:aq} {d:aI} (h:Fr (foot b a) w w1) (k:Fr (foot b d) w1 p) (l:Zu w a d):Fr (foot b a) w p:=
 h.trans' k (λi hi g=>by rcases g with g|g;exact .inl g;rcases l with l|l;exact .inr (l▸g);have:=l i g;omega)
def dY (w:aq) (b:Nat) (dv:aI) (e:En):Prop:=
 Bk w b 237 #[dv,.int .u32 (e.low:Int),.int .u32 (e.size:Int)]/\w.ownsRow 0 5 1 dv e.out (e.out.map bv)
theorem dY.drewN {e:En} (h:dY w b dv e) (n:Nat):dY (w.drewN n) b dv e:=h
theorem dY.drew {e:En} (h:dY w b dv e):dY w.drew b dv e:=h
theorem dY.apart {e:En} (h:dY w b dv e):dv.ownBlock≠some b:=Z1 h.2 h.1 aY
theorem dY.below {e:En} (h:dY w b dv e) (hb:Below w w w'):dY w' b dv e:=
 ⟨h.1.below hb h.1.lt,Z6 h.2 (Fr.of_below (S:=nob) hb) (λ_ _ f=>f)⟩
theorem dY.fr {S:Nat->Prop} {e:En} (h:dY w b dv e) (k:Fr S w w') (h1:¬S b) (l:∀g,dv.ownBlock=some g->¬S g):dY w' b dv e:=
 ⟨h.1.fr k h1,Z6 h.2 k l⟩
theorem Tm (p:Int) (h1:1<=p) (g:p<=2047) (w:aq):
  Calls prog 197 #[p] w λx w'=>x=.returned (.int .u32 p)/\w=w':=Cl
theorem ZhK (l:ax) (j:Nat) (g:j<l) (h:Qa l=Qa (l.take (j+1))++List.replicate (l.length-(j+1)) 0):
  (l[j]=255->Qa l=Qa (l.take j)++List.replicate (l.length-j) 0)/\(l[j]≠255->Qa l=l.take j++(l[j]+1)::List.replicate (l.length-(j+1)) 0):=by rw[dK g] at h;refine⟨λe=> ?_,λe=> ?_⟩;rw[e,JV] at h;rw[h,er,show l.length-j=l.length-(j+1)+1 from by exact O,pP];rfl;rw[JW _ _ e] at h;rw[h,er];rfl
theorem TY (x:cj):((x.toNat:Int)+1) % 256=((x+1).toNat:Int):=by rw[UInt8.toNat_add];have:(1:cj).toNat=1:=rfl;have:=iq x;omega
theorem Zhg (x:cj) (h:x=255):(((x+1).toNat:Int) !=0)=false:=by rw[h];rfl
theorem Zgf (x:cj) (h:x≠255):(((x+1).toNat:Int) !=0)=true:=by rw[kx];have h1:x.toNat≠255:=λe=>h (UInt8.toNat_inj.1 e);rw[<-TY];have:=iq x;omega
def rQ (l:ax) (j:Nat):ax:=l.take j++List.replicate (l.length-j) 0
theorem Z8P (l:ax) (j:Nat) (h:j<=l):(rQ l j)=l.length:=by simp[rQ];omega
theorem Zjf (l:ax) (j:Nat) (h:j<l):(rQ l (j+1))[j]? =some l[j]:=by unfold rQ;rw[List.getElem?_append_left vO,List.getElem?_take_of_lt O,fb h]
theorem Zjg (l:ax) (j:Nat) (h:j<l) (x:cj):(rQ l (j+1)).set j x=l.take j++x::List.replicate (l.length-(j+1)) 0:=by unfold rQ;have g:(l.take j)=j:=vO;rw[dK h,er,nj _ _ O,g,fh];rfl
theorem Zf4 (l:ax) (j:Nat) (h:j<l):l.take j++0::List.replicate (l.length-(j+1)) 0=rQ l j:=by unfold rQ;rw[show l.length-j=l.length-(j+1)+1 from by exact O,pP]
theorem ZbV {e:En} (h:dY w b dv e) (a3:0<e.out.length) (b4:e.out.length<=9223372036854775807):
  Calls prog 198 #[(b,0)] w λx w'=>x=.returned (.tuple #[])/\dY w' b dv { e with out:=Qa e.out } /\Fr (foot b dv) w w':=by
 have h0:=h.1.cell 0;simp at h0;obtain⟨g,cap,rfl,b1⟩:=C' h.2 a3;obtain⟨o,R⟩:=ay e.out;have l:=h.2;rw[R] at l b4 h0 b1 a3;have q:=h.1;rw[R] at q;have b0:b≠g:=λe=>by have:=h.apart;simp[Value.ownBlock,e] at this
 have b6:=J b0;have a9:=J R;rw[a9.o];go_in;go_wp2;go_loopw [2] (λi wr=>∃j:Nat,j<=o/\i=((j:Int)-1:Int)/\Bk wr b 237 #[.slice (some (g,0)) o cap,.int .u32 (e.low:Int),.int .u32 (e.size:Int)]/\wr.ownsRow 0 5 1 (.slice (some (g,0)) o cap) o ((rQ o j).map bv)/\Fr (foot b (.slice (some (g,0)) o cap)) w wr/\Hid (Qa o=Qa (o.take j)++List.replicate (o.length-j) 0)) (λi _=>(intOf i+1).toNat);exact⟨o.length,aU,rfl,q,by simpa [rQ] using l,Fr.refl _ _,J (by simp)⟩;obtain⟨j,c3,rfl,q,l,Q,E⟩:=hrel;have b2:=q.cell 0;simp at b2;by_cases ab:0<j
 .obtain⟨k,rfl⟩:∃k,j=k+1:=⟨j-1,O⟩;have t:k<o.length:=O;obtain⟨x,a0⟩:=ay o[k];have D:=ZhK o k t E.o;rw[a0] at D;have a8:=J D;obtain⟨c1,c2⟩:=C9 l k (.int .u8 (x.toNat:Int)) (by rw[jX,Zjf o k t,a0];rfl);have i1:((k+1:Nat):Int)-1=(k:Int):=O;have b9:(k:Int)<o:=O;have hb:=TY x;have M:=J (λh=>Zhg x h);have I:=J (λh=>Zgf x h);have G:bv (x+1)=.int .u8 ((x+1).toNat:Int):=rfl;obtain⟨y,a6⟩:∃y:Nat,(x+1).toNat=y:=⟨_,rfl⟩;rw[a6] at hb M I G;have a5:=Zjg o k t (x+1);have B:=Dd l k t (.int .u8 (y:Int));have b8:=(C9 B k (.int .u8 (y:Int)) (by rw[List.getElem?_set_self (by rw[Vah,Z8P o _ O];exact t)])).1;rw[show((rQ o (k+1)).map bv).set k (.int .u8 (y:Int))=((rQ o (k+1)).set k (x+1)).map bv from by rw[List.map_set,G],a5] at B;have F:=q.off (p:=⟨g,k,none⟩) b6.o (.int .u8 (y:Int));have b7:=F.cell 0;simp at b7;have a2:=Q.setCell (p:=⟨g,k,none⟩) (.inl (.inr rfl)) (.int .u8 (y:Int));obtain⟨a1,a7,a4,S⟩:=dc B F a2 (Zf4 o k t);rw[i1];by_cases u:x=255;.have b5:=M.o u;have z:=J u;clear a0 E D a5 B F a2 l q Q u G a6 M I;go_wp2;go_roundw;refine⟨k,O,rfl,a7.o,?_,a4.o,J (a8.o.1 z.o)⟩;have:=a1.o;rw[z.o] at this;rw[<-S.o];exact this;simp[intOf]<;>omega
  have b5:=I.o u;have z:=J (a8.o.2 u);go_wp2;go_returns;refine⟨rfl,⟨?_,?_⟩,a4.o⟩;have:=a7.o;simp only[Ym];exact this;have:=a1.o;simp only[Ym];rw[z.o];exact this
 have b3:j=0:=O;subst b3;go_wp2;go_end0;refine⟨rfl,⟨?_,?_⟩,Q⟩;simp only[Ym];exact q;simp only[Ym];rw[E.o];have:=l;simpa [rQ,Qa,D9] using this
end Go.Proofs.Y
namespace Wv
open Go.Proofs.Tryz Go Go.RowKit
theorem ZjJ {P : Program} {w : aq} (t p e : TypeId) (z : aI) (bytes size : Nat) (a0 : P.underlying t = some (.slice e)) (q : (P.info? e).map (λi => (i.zero, i.size, i.bytes)) = some (some z, size, bytes)) (F : z.cells.size = size) (a3 : 0 < size)
    {base:Nat} {v:aI} {n:Nat} {xs:List aI} (a1:w.ownsRow base e size v n xs) (g:List aI) (a4:g=size) (h1:∀y∈g,y.oneCell'=true)
    (I:n+1<=maxLen) (B:(n+1)*bytes<=140737488355328) (D:base<=w):
    ∃k w',(Builtin.append_ #[t,t] p #[v,.slice (some (w,0)) 1 1]).run P (w.alloc (.cells g.toArray e)).drew=.ok k w'/\w'.ownsRow base e size k (n+1) (xs++g)/\
      (w.alloc (.cells g.toArray e)).drew.grownBy w' v.ownBlock/\(k.ownBlock=v.ownBlock\/k.ownBlock=some (w.heap.size+1)):=by obtain⟨i,hi,a2,S,G⟩:=info_parts q;have E:(w.alloc (.cells g.toArray e)).drew.ownsRow base e size v n xs:=a1.alloc _;obtain ⟨k, w', R, M, Q, _, l⟩ := run_append_own_at (P := P) (w.alloc (.cells g.toArray e)).drew base t p e i z size bytes a0 hi a2 S G F a3 v n xs E ⟨w, 0, none⟩ 1 1 g O (λj u a5 => by have hb:=(Bk.new w e g.toArray).cell j;rw[Go.WideShapes.add_plain,jK];show(w.alloc (.cells g.toArray e)).cell? _=_;grind) h1 I B (co D (by simp));refine⟨k,w',R,M,Q,?_⟩;rcases l with l|l;exact aO;simp_all
end Wv
namespace Go.Proofs.Y
open Tryz Wv Go.RowKit
variable{b n x:Nat}{s:aT}{w:aq}
def gA (w:aq) (b:Nat) (s:aT) (x n:Nat):Prop:=Bk w b 356 #[s,x,n]/\x<=n/\n<=65536/\n<=8*s.size
theorem gA.c0 (h:gA w b s x n):w.cell? (b,0)=s:=h.1.cell 0
theorem gA.c1 (h:gA w b s x n):w.cell? (b,1)=x:=h.1.cell 1
theorem gA.c2 (h:gA w b s x n):w.cell? (b,2)=n:=h.1.cell 2
theorem Ia (h:gA w b s x n):
  Calls prog 246 #[(b,0)] w λe w'=>e=.returned ((n:Int)-x:Int)/\∃q,w'=w.drewN q:=by have h1:=h.c1;have g:=h.c2;obtain⟨_,k,l,p⟩:=h;go_in;go_wp2;go_quiet (fail);go_wp2;go_ret;exact⟨rfl,_,rfl⟩
theorem ZnM (h:gA w b s x n) (c:Int) (g:(n:Int)-x<c):
  Calls prog 312 #[(b,0),c] w λe w'=>e=.returned (.tuple #[(0:Int),(12:Int)])/\∃q,w'=w.drewN q:=by have H:=J (Ia h);go_in;go_wp2_with (go_at_call 246;refine(H.o).mono ?_;rintro e w' ⟨rfl,q,rfl⟩);go_ret2;exact⟨rfl,_,rfl⟩
theorem Zk7 (h:gA w b s x n) (c:Nat) (a8:x+c<=n) (a2:c<=62):
  Calls prog 312 #[(b,0),c] w λe w'=>e=.returned (.tuple #[((val (((rbits s n).drop x).take c):Nat):Int),(0:Int)])/\gA w' b s (x+c) n/\Fr (only b) w w':=by
 have H:=J (Ia h);have a3:¬(n:Int)-x<(c:Int):=O;have G:=J h;clear h;go_in;go_wp2_with (go_at_call 246;refine(H.o).mono ?_;rintro e w' ⟨rfl,q,rfl⟩);go_loopw [6,12] (λv i wr=>∃k:Nat,k<=c/\i=k/\v=.int .i64 (val (((rbits s n).drop x).take k):Nat)/\gA wr b s (x+k) n/\Fr (only b) w wr) (λ_ i _=>(c-intOf i).toNat);exact⟨0,O,rfl,rfl,G.o,(Fr.refl _ _).drewN _⟩;obtain⟨k,a9,rfl,rfl,t,E⟩:=hrel;by_cases ab:k<c
 .obtain⟨y,u⟩:∃y,y=x+k:=⟨_,rfl⟩;have g:=t;rw[<-u] at g;have a4:=g.c0;have a5:=g.c1;have a6:wr.frozen? (b,1)=false:=t.1.frozen 1;obtain⟨R,aa,Q,an⟩:=g;have l:=J u;have a1:y<n:=O;clear u;have I:=J (Z5V ((rbits s n).drop x) k (by rw[iW,rM];have:=l.o;omega));have B:=λD=>show bt ((rbits s n).drop x) k=(s[y/8]'D).toNat/2 ^ (7-y % 8) % 2 from(by rw[ZlC,<-l.o,ZhC s n y a1 D]);obtain⟨z,F⟩:=ay (y/8);obtain⟨d,hd⟩:=ay (7-y % 8);obtain⟨m,S⟩:=ay (y % 8);have b1:IntKind.i64.wrap ((y:Int)/8)=(z:Int):=I6;have b2:IntKind.i64.wrap ((y:Int) % 8)=(m:Int):=I6;have b3:IntKind.i64.wrap (7-(m:Int))=(d:Int):=I6;have a0:z<s.size:=O;have b0:(z:Int)<s.size:=O;have b4:d<8:=O;have b5:(d:Int)<8:=O;rw[F] at B;have M:=J (B a0);clear F hd S B;go_wp2;go_quiet (fail);go_wp2;go_roundw;.refine⟨k+1,O,ci,?_,?_,(E.drewN _).setCell (p:=⟨b,1,none⟩) (.inl rfl) _⟩;rw[I.o,M.o];exact congrArg _ (Zcd _ _ _ (Rx _ _ O) (iq _));have:=(R.drewN nq).put 1 ((y:Int)+1:Int);have a7:=l.o;refine⟨?_,O,Q,an⟩;rw[show x+(k+1)=y+1 from by exact O];exact this
  simp[intOf];omega
 have:k=c:=O;subst this;go_wp2;go_ret2;exact⟨rfl,t,E⟩
