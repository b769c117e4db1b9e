import Derived.Test.YtnjkjoklnephcaaGreatDoorJ04
import Derived.BigRegion
set_option linter.all false
set_option maxRecDepth 100000
set_option maxHeartbeats 0
theorem vW{P:Prop}(h:P:=by rw[eC];omega):P:=h
theorem I6{P:Prop}(h:P:=by rw[IntWalk.i64_in _ (by omega)];omega):P:=h
namespace Go.Proofs.Y
open Tryz Wv Go.RowKit
variable{a dv:aJ}{b:Nat}{w w':au}
theorem Y_:(prog.info? 5).map (λi=>(i.zero,i.size,i.bytes))=some (some (.int .u8 0),1,1):=qH
def Zu (w:au) (dv k:aJ):Prop:=k.ownBlock=dv.ownBlock\/∀g,k.ownBlock=some g->w.heap.size<=g
theorem Zu.refl (w:au) (dv:aJ):Zu w dv dv:=.inl rfl
theorem Zu.trans {b c:aJ} (h:Zu w a b) (k:Zu w' b c) (p:w<=w'.heap.size):Zu w a c:=by rcases k with k|k;rcases h with h|h;exact .inl (k.trans h);exact .inr (λg l=>h g (k▸l));exact .inr (λg l=>cp p (k g l))
theorem Zmr {w1 p:au} {d:aJ} (h:Fr (foot b a) w w1) (k:Fr (foot b d) w1 p) (l:Zu w a d):Fr (foot b a) w p:=
 h.trans' k (λi hi g=>by rcases g with g|g;exact .inl g;rcases l with l|l;exact .inr (l▸g);have:=l i g;omega)
def dT (w:au) (b:Nat) (dv:aJ) (e:En):Prop:=
 Bk w b 242 #[dv,.int .u32 (e.low:Int),.int .u32 (e.size:Int)]/\w.ownsRow 0 5 1 dv e.out (e.out.map bv)
theorem dT.drewN {e:En} (h:dT w b dv e) (n:Nat):dT (w.drewN n) b dv e:=h
theorem dT.drew {e:En} (h:dT w b dv e):dT w.drew b dv e:=h
theorem dT.apart {e:En} (h:dT w b dv e):dv.ownBlock≠some b:=Z1 h.2 h.1 aZ
theorem dT.below {e:En} (h:dT w b dv e) (hb:Below w w w'):dT w' b dv e:=
 ⟨h.1.below hb h.1.lt,Z6 h.2 (Fr.of_below (S:=nob) hb) (λ_ _ f=>f)⟩
theorem dT.fr {S:Nat->Prop} {e:En} (h:dT w b dv e) (k:Fr S w w') (h1:¬S b) (l:∀g,dv.ownBlock=some g->¬S g):dT w' b dv e:=
 ⟨h.1.fr k h1,Z6 h.2 k l⟩
theorem TF (p:Int) (h1:1<=p) (g:p<=2047) (w:au):
  Calls prog 208 #[p] w λx w'=>x=.returned (.int .u32 p)/\w=w':=Cr
theorem ZhU (l:ax) (j:Nat) (g:j<l) (h:Qd l=Qd (l.take (j+1))++List.replicate (l.length-(j+1)) 0):
  (l[j]=255->Qd l=Qd (l.take j)++List.replicate (l.length-j) 0)/\(l[j]≠255->Qd l=l.take j++(l[j]+1)::List.replicate (l.length-(j+1)) 0):=by rw[dD g] at h;refine⟨λe=> ?_,λe=> ?_⟩;rw[e,JX] at h;rw[h,ey,show l.length-j=l.length-(j+1)+1 from by exact O,pS];rfl;rw[JY _ _ e] at h;rw[h,ey];rfl
theorem Ui (x:ci):((x.toNat:Int)+1) % 256=((x+1).toNat:Int):=by rw[UInt8.toNat_add];have:(1:ci).toNat=1:=rfl;have:=iA x;omega
theorem Zhm (x:ci) (h:x=255):(((x+1).toNat:Int) !=0)=false:=by rw[h];rfl
theorem Zgl (x:ci) (h:x≠255):(((x+1).toNat:Int) !=0)=true:=by rw[kx];have h1:x.toNat≠255:=λe=>h (UInt8.toNat_inj.1 e);rw[<-Ui];have:=iA x;omega
def rT (l:ax) (j:Nat):ax:=l.take j++List.replicate (l.length-j) 0
theorem Z8V (l:ax) (j:Nat) (h:j<=l):(rT l j)=l.length:=by simp[rT];omega
theorem Zjp (l:ax) (j:Nat) (h:j<l):(rT l (j+1))[j]? =some l[j]:=by unfold rT;rw[List.getElem?_append_left vW,List.getElem?_take_of_lt O,fD h]
theorem Zjq (l:ax) (j:Nat) (h:j<l) (x:ci):(rT l (j+1)).set j x=l.take j++x::List.replicate (l.length-(j+1)) 0:=by unfold rT;have g:(l.take j)=j:=vW;rw[dD h,ey,nz _ _ O,g,fv];rfl
theorem Zfc (l:ax) (j:Nat) (h:j<l):l.take j++0::List.replicate (l.length-(j+1)) 0=rT l j:=by unfold rT;rw[show l.length-j=l.length-(j+1)+1 from by exact O,pS]
theorem Zc3 {e:En} (h:dT w b dv e) (a2:0<e.out.length) (b2:e.out.length<=9223372036854775807):
  Calls prog 209 #[(b,0)] w λx w'=>x=.returned (.tuple #[])/\dT w' b dv { e with out:=Qd e.out } /\Fr (foot b dv) w w':=by
 have h0:=h.1.cell 0;simp at h0;obtain⟨g,cap,rfl,b0⟩:=Dh h.2 a2;obtain⟨o,R⟩:=ay e.out;have q:=h.2;rw[R] at q b2 h0 b0 a2;have l:=h.1;rw[R] at l;have a9:b≠g:=λe=>by have:=h.apart;simp[Value.ownBlock,e] at this
 have b5:=J a9;have a8:=J R;rw[a8.o];go_in;go_wp2;go_loopw [2] (λi wr=>∃j:Nat,j<=o/\i=((j:Int)-1:Int)/\Bk wr b 242 #[.slice (some (g,0)) o cap,.int .u32 (e.low:Int),.int .u32 (e.size:Int)]/\wr.ownsRow 0 5 1 (.slice (some (g,0)) o cap) o ((rT o j).map bv)/\Fr (foot b (.slice (some (g,0)) o cap)) w wr/\Hid (Qd o=Qd (o.take j)++List.replicate (o.length-j) 0)) (λi _=>(intOf i+1).toNat);exact⟨o.length,aW,rfl,l,by simpa [rT] using q,Fr.refl _ _,J (by simp)⟩;obtain⟨j,b9,rfl,l,q,Q,F⟩:=hrel;have b1:=l.cell 0;simp at b1;by_cases ab:0<j
 .obtain⟨k,rfl⟩:∃k,j=k+1:=⟨j-1,O⟩;have t:k<o.length:=O;obtain⟨x,a0⟩:=ay o[k];have E:=ZhU o k t F.o;rw[a0] at E;have a7:=J E;obtain⟨c1,c2⟩:=Df q k (.int .u8 (x.toNat:Int)) (by rw[jV,Zjp o k t,a0];rfl);have i1:((k+1:Nat):Int)-1=(k:Int):=O;have b8:(k:Int)<o:=O;have hb:=Ui x;have M:=J (λh=>Zhm x h);have I:=J (λh=>Zgl x h);have G:bv (x+1)=.int .u8 ((x+1).toNat:Int):=rfl;obtain⟨y,a5⟩:∃y:Nat,(x+1).toNat=y:=⟨_,rfl⟩;rw[a5] at hb M I G;have a4:=Zjq o k t (x+1);have B:=Dg q k t (.int .u8 (y:Int));have b7:=(Df B k (.int .u8 (y:Int)) (by rw[List.getElem?_set_self (by rw[dc,Z8V o _ O];exact t)])).1;rw[show((rT o (k+1)).map bv).set k (.int .u8 (y:Int))=((rT o (k+1)).set k (x+1)).map bv from by rw[List.map_set,G],a4] at B;have D:=l.off (p:=⟨g,k,none⟩) b5.o (.int .u8 (y:Int));have b6:=D.cell 0;simp at b6;have an:=Q.setCell (p:=⟨g,k,none⟩) (.inl (.inr rfl)) (.int .u8 (y:Int));obtain⟨a1,a6,a3,S⟩:=dm B D an (Zfc o k t);rw[i1];by_cases u:x=255;.have b3:=M.o u;have z:=J u;clear a0 F E a4 B D an q l Q u G a5 M I;go_wp2;go_roundw;refine⟨k,O,rfl,a6.o,?_,a3.o,J (a7.o.1 z.o)⟩;have:=a1.o;rw[z.o] at this;rw[<-S.o];exact this;simp[intOf]<;>omega
  have b3:=I.o u;have z:=J (a7.o.2 u);go_wp2;go_returns;refine⟨rfl,⟨?_,?_⟩,a3.o⟩;have:=a6.o;simp only[Ym];exact this;have:=a1.o;simp only[Ym];rw[z.o];exact this
 have b4:j=0:=O;subst b4;go_wp2;go_end0;refine⟨rfl,⟨?_,?_⟩,Q⟩;simp only[Ym];exact l;simp only[Ym];rw[F.o];have:=q;simpa [rT,Qd,Ec] using this
end Go.Proofs.Y
namespace Wv
open Go.Proofs.Tryz Go Go.RowKit
theorem ZjR {P : Program} {w : au} (t q e : TypeId) (z : aJ) (bytes size : Nat) (a1 : P.underlying t = some (.slice e)) (B : (P.info? e).map (λi => (i.zero, i.size, i.bytes)) = some (some z, size, bytes)) (G : z.cells.size = size) (a4 : 0 < size)
    {base:Nat} {v:aJ} {n:Nat} {l:List aJ} (a2:w.ownsRow base e size v n l) (g:List aJ) (a5:g=size) (h1:∀y∈g,y.oneCell'=true)
    (M:n+1<=maxLen) (E:(n+1)*bytes<=140737488355328) (D:base<=w):
    ∃k w',(Builtin.append_ #[t,t] q #[v,.slice (some (w,0)) 1 1]).run P (w.alloc (.cells g.toArray e)).drew=.ok k w'/\w'.ownsRow base e size k (n+1) (l++g)/\
      (w.alloc (.cells g.toArray e)).drew.grownBy w' v.ownBlock/\(k.ownBlock=v.ownBlock\/k.ownBlock=some (w.heap.size+1)):=by obtain⟨i,hi,a3,a0,I⟩:=info_parts B;have F:(w.alloc (.cells g.toArray e)).drew.ownsRow base e size v n l:=a2.alloc _;obtain ⟨k, w', S, Q, R, _, p⟩ := run_append_own_at (P := P) (w.alloc (.cells g.toArray e)).drew base t q e i z size bytes a1 hi a3 a0 I G a4 v n l F ⟨w, 0, none⟩ 1 1 g O (λj u a6 => by have hb:=(Bk.new w e g.toArray).cell j;rw[Go.WideShapes.add_plain,jW];show(w.alloc (.cells g.toArray e)).cell? _=_;grind) h1 M E (cp D (by simp));refine⟨k,w',S,Q,R,?_⟩;rcases p with p|p;exact aI;simp_all
end Wv
namespace Go.Proofs.Y
open Tryz Wv Go.RowKit
variable{b n x:Nat}{s:aS}{w:au}
def gJ (w:au) (b:Nat) (s:aS) (x n:Nat):Prop:=Bk w b 369 #[s,x,n]/\x<=n/\n<=65536/\n<=8*s.size
theorem gJ.c0 (h:gJ w b s x n):w.cell? (b,0)=s:=h.1.cell 0
theorem gJ.c1 (h:gJ w b s x n):w.cell? (b,1)=x:=h.1.cell 1
theorem gJ.c2 (h:gJ w b s x n):w.cell? (b,2)=n:=h.1.cell 2
theorem Ii (h:gJ w b s x n):
  Calls prog 271 #[(b,0)] w λe w'=>e=.returned ((n:Int)-x:Int)/\∃q,w'=w.drewN q:=by have h1:=h.c1;have g:=h.c2;obtain⟨_,k,l,p⟩:=h;go_in;go_wp2;go_quiet (fail);go_wp2;go_ret;exact⟨rfl,_,rfl⟩
theorem ZnS (h:gJ w b s x n) (c:Int) (g:(n:Int)-x<c):
  Calls prog 337 #[(b,0),c] w λe w'=>e=.returned (.tuple #[(0:Int),(12:Int)])/\∃q,w'=w.drewN q:=by have H:=J (Ii h);go_in;go_wp2_with (go_at_call 271;refine(H.o).mono ?_;rintro e w' ⟨rfl,q,rfl⟩);go_ret2;exact⟨rfl,_,rfl⟩
theorem Zkg (h:gJ w b s x n) (c:Nat) (a8:x+c<=n) (a2:c<=62):
  Calls prog 337 #[(b,0),c] w λe w'=>e=.returned (.tuple #[((val (((dY s n).drop x).take c):Nat):Int),(0:Int)])/\gJ w' b s (x+c) n/\Fr (only b) w w':=by
 have H:=J (Ii h);have a3:¬(n:Int)-x<(c:Int):=O;have G:=J h;clear h;go_in;go_wp2_with (go_at_call 271;refine(H.o).mono ?_;rintro e w' ⟨rfl,q,rfl⟩);go_loopw [6,12] (λv i wr=>∃k:Nat,k<=c/\i=k/\v=.int .i64 (val (((dY s n).drop x).take k):Nat)/\gJ wr b s (x+k) n/\Fr (only b) w wr) (λ_ i _=>(c-intOf i).toNat);exact⟨0,O,rfl,rfl,G.o,(Fr.refl _ _).drewN _⟩;obtain⟨k,b0,rfl,rfl,t,E⟩:=hrel;by_cases ab:k<c
 .obtain⟨y,u⟩:∃y,y=x+k:=⟨_,rfl⟩;have g:=t;rw[<-u] at g;have a4:=g.c0;have a5:=g.c1;have a6:wr.frozen? (b,1)=false:=t.1.frozen 1;obtain⟨Q,aa,R,S⟩:=g;have l:=J u;have j1:y<n:=O;clear u;have I:=J (Z65 ((dY s n).drop x) k (by rw[jt,rM];have:=l.o;omega));have B:=λD=>show bt ((dY s n).drop x) k=(s[y/8]'D).toNat/2 ^ (7-y % 8) % 2 from(by rw[ZlI,<-l.o,ZhL s n y j1 D]);obtain⟨z,F⟩:=ay (y/8);obtain⟨d,hd⟩:=ay (7-y % 8);obtain⟨m,a0⟩:=ay (y % 8);have b2:IntKind.i64.wrap ((y:Int)/8)=(z:Int):=I6;have b3:IntKind.i64.wrap ((y:Int) % 8)=(m:Int):=I6;have b4:IntKind.i64.wrap (7-(m:Int))=(d:Int):=I6;have a1:z<s.size:=O;have b1:(z:Int)<s.size:=O;have b5:d<8:=O;have b6:(d:Int)<8:=O;rw[F] at B;have M:=J (B a1);clear F hd a0 B;go_wp2;go_quiet (fail);go_wp2;go_roundw;.refine⟨k+1,O,ck,?_,?_,(E.drewN _).setCell (p:=⟨b,1,none⟩) (.inl rfl) _⟩;rw[I.o,M.o];exact congrArg _ (Zcm _ _ _ (RW _ _ O) (iA _));have:=(Q.drewN nq).put 1 ((y:Int)+1:Int);have a7:=l.o;refine⟨?_,O,R,S⟩;rw[show x+(k+1)=y+1 from by exact O];exact this
  simp[intOf];omega
 have:k=c:=O;subst this;go_wp2;go_ret2;exact⟨rfl,t,E⟩
