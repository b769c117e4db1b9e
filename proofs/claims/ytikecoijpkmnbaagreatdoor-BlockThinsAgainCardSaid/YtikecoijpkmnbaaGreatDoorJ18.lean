import Derived.Test.YtikecoijpkmnbaaGreatDoorJ14
import Derived.Lib.EndianBits
import Derived.Test.YtikecoijpkmnbaaGreatDoorJ15
set_option linter.all false
set_option maxRecDepth 100000
set_option maxHeartbeats 0
open Go.Proofs.Tryz (prog results112 underlying110 underlying279 underlying5 underlying9)
section
variable{P Q:Prop}
theorem yH(h:P:=by rw[b6];omega):P:=h
theorem Ct(h:P:=by simpa using h):P:=h
theorem Fj(h:P:=by show r≠B3;omega):P:=h
theorem yG(h:P:=by rw[b5.out];omega):P:=h
theorem Fw(h:P:=by rw[F.k.2];decide):P:=h
theorem Ft(h:P:=by with_reducible rfl):P:=h
theorem qB(h:P:=by with_reducible assumption):P:=h
theorem xf(h:P:=by go_in;go_wp2;go_returns;exact⟨rfl,rfl⟩):P:=h
theorem Jg(h:P:=by rcases g k a7 with h|h;exact h1 h;exact h2 h):P:=h
theorem PU(h:P:=by go_in;go_wp21;refine cp Q.out ?_;go_wp2;go_returns;exact⟨⟨_,rfl⟩,rfl⟩):P:=h
theorem OB(h:P:=by have hb:=(Bk.new w e ys.toArray).cell j;rw[Go.WideShapes.add_plain,jK,hb];simpa using hu):P:=h
theorem Oo(h:P:=by go_wp2;refine⟨⟨k+1,z,ab,by go_num,by congr 1,g,l,by first|rfl|trivial⟩,?_⟩;simp[intOf]<;>omega):P:=h
theorem FJ(h:P:=by
 go_wp2;go_quiet (fail);go_wp2;first|go_end0|go_returns
 rw[<-z.out];exact⟨rfl,u.out.drewN _,q.out.drewN _⟩):P:=h
theorem NU(h:P:=by
 go_wp2;go_quiet (fail);go_wp2;first|go_end0|go_returns
 rw[<-z.out];exact⟨rfl,g.out _,l.out _ _ _ _ _ _ _⟩):P:=h
theorem O5(h:P:=by rcases Nat.lt_or_ge p.block W.heap.size with h1|h1;exact h1;simp[World.cell?,Array.getElem?_eq_none h1] at h):P:=h
theorem O2(h:P:=by have e1:lZ 0 (2 ^ n) t=t:=(by unfold lZ;rw[Ch,<-h,pi]);rw[e1] at a b;rw[a];unfold sF;rw[qA,pU,jK,b,<-h,wY,fg]):P:=h
theorem ND(h:P:=by rcases h with h|h;rcases R with e|e|e;exact .inl (h.trans e);exact .inr (.inr (.inr (.inl (h.trans e))));exact .inr (.inr (.inr (.inr (.inl (h.trans e)))));exact .inr (.inr (.inr (.inr (.inr h))))):P:=h
end
namespace Go.Proofs.Y
open Wv Go.RowKit
theorem KD {y:Nat} (h:y % 2=0):xJ y=y/2:=by unfold xJ;rw[Vae O,Nat.xor_zero]
theorem ZlW {y:Nat} (h:y % 2=1):xJ y=(y/2) ^^^ 3988292384:=by unfold xJ;rw[Vag h]
theorem K6 (l:ax) (i:Nat) (h:i<l) (g:i<(bs l).size):(bs l)[i]'g=l[i]'h:=by simp[bs];rfl
theorem Zcw (b:Nat) (hb:b<2 ^ 32):(2 ^ 32-1) ^^^ b=2 ^ 32-1-b:=by apply Nat.eq_of_testBit_eq;intro i;rw[Nat.testBit_xor,Nat.testBit_two_pow_sub_one,show 2 ^ 32-1-b=2 ^ 32-(b+1) by omega,Nat.testBit_two_pow_sub_succ hb];by_cases hi:i<32;simp[hi];have:b.testBit i=false:=Nat.testBit_lt_two_pow (Vas hb (pQ aY O));simp[hi,this]
theorem ZlU (y:Nat) (h:y<4294967296):bits .xor .u32 IntKind.u32.max (y:Int)=4294967295-(y:Int):=by have h1:=u32_xor_nat 4294967295 y O h;have g:=Zcw y O;have e:(2:Nat) ^ 32-1=4294967295:=aY;rw[e] at g;rw[g] at h1;have k:((4294967295-y:Nat):Int)=4294967295-(y:Int):=O;rw[k] at h1;exact h1
theorem Z6k (r:Nat) (G:r<4294967296) (w:aq):
  Calls prog 202 #[.int .u32 (r:Int)] w λx w'=>x=.returned (.int .u32 (wu 8 r:Nat))/\w=w':=by
 have R:bits .and .u32 0 3988292384=0:=aY;have a1:bits .and .u32 4294967295 3988292384=3988292384:=aY;have n1:IntKind.u32.wrap (-1)=4294967295:=aY;go_in;go_wp2;go_loopw [0,3] (λQ s3 wr=>∃(k y:Nat),k<=8/\s3=k/\Q=.int .u32 (y:Int)/\Hid (wu k r=y)/\y<4294967296/\wr=w) (λ_ s3 _=>(8-intOf s3).toNat);exact⟨0,r,O,rfl,rfl,J rfl,G,rfl⟩;obtain⟨k,y,a2,rfl,rfl,u,M,rfl⟩:=hrel;by_cases ab:k<8
 .have S:(k:Int)<8:=O;have h1:bits .and .u32 (y:Int) 1=((y % 2:Nat):Int):=by have:=u32_and_nat y 1 M O;rw[Nat.and_one_is_mod] at this;exact this
  obtain⟨z,t⟩:=ay (xJ y);have l:z<4294967296:=by have:=Y_ (r:=y) O;omega
  have g:Hid (wu (k+1) r=z):=J (by show xJ (wu k r)=z;rw[u.out,t]);have hd:(y:Int)/2=((y/2:Nat):Int):=O;have p:y % 2=0\/y % 2=1:=O;rcases p with p|p
  .rw[p] at h1;have h1:bits .and .u32 (y:Int) 1=0:=h1;have B:bits .xor .u32 ((y/2:Nat):Int) 0=(z:Int):=by have:=u32_xor_nat (y/2) 0 O O;rw[Nat.xor_zero,<-KD p,t] at this;rw[<-KD p,t] at*;exact this
   have D:(y:Int)/2=(z:Int):=by rw[hd,<-KD p,t]
   have E:bits .xor .u32 (z:Int) 0=(z:Int):=by have:=u32_xor_nat z 0 O O;rw[Nat.xor_zero] at this;exact this
   clear t hd B p u;exact Oo
  rw[p] at h1;have h1:bits .and .u32 (y:Int) 1=1:=h1;obtain⟨q,F⟩:=ay (y/2);have D:(y:Int)/2=(q:Int):=O;have E:bits .xor .u32 (q:Int) 3988292384=(z:Int):=by have:=u32_xor_nat q 3988292384 O O;rw[<-t,ZlW p,F];exact this
  exact Oo
 have I:k=8:=O;subst I;rw[<-u.out];exact Ai
theorem Zb9 (s:ax) (a6:s.length<=1099511627776) (w:aq):
  Calls prog 156 #[.int .u32 0,bs s] w λx w'=>x=.returned (.int .u32 (qU s:Nat))/\w=w':=by
 have g:(bs s).size=s:=Z0 s;have D:Hid (∀(i:Nat) (h:i<s.length) (k:i<(bs s).size),(bs s)[i]'k=s[i]'h):=J (λi h k=>K6 s i h k);obtain⟨n,F⟩:=ay s.length;obtain⟨S,a4⟩:=ay (bs s);rw[a4] at g D⊢;rw[F] at g a6;obtain⟨p,b5,R⟩:=bD F g (λr (h:r<4294967296) W=>Z6k r h W);have n1:bits .xor .u32 IntKind.u32.max 0=4294967295:=aY;go_in;go_wp2;go_loopw [5,11] (λb1 l wr=>∃(i y:Nat),i<=n/\l=(i:Int)/\b1=.int .u32 (y:Int)/\Hid (crg 4294967295 (s.take i)=y)/\y<4294967296/\wr=w) (λ_ l _=>(n-intOf l).toNat);exact⟨0,4294967295,cf _,rfl,by first|rfl|(simp;done),J rfl,O,rfl⟩;obtain⟨i,y,hi,rfl,rfl,I,Q,rfl⟩:=hrel;by_cases ab:i<n
 .have t:i<s.length:=(by rw[p.out];exact ab);have b6:i<S.size:=(by rw[b5.out];exact ab);have B:=D.out i t;have q:s.take (i+1)=s.take i++[s[i]]:=dK t;obtain⟨c,a5⟩:=ay s[i];rw[a5] at B q;have a3:∀h:i<S.size,(S[i]'h).toNat=c.toNat:=λh=>(by rw[B h]);have b3:(i:Int)<S.size:=O;have b4:(0:Int)<=i:=O;have a0:=c.toNat_lt;obtain⟨a,E⟩:=ay c.toNat;rw[E] at a3 a0;have a7:=u32_xor_nat y a Q O;have u:y ^^^ a<2 ^ 32:=Nat.xor_lt_two_pow O O;obtain⟨b,hb⟩:=ay (y ^^^ a);rw[hb] at a7 u;have K:=J (R.out b O wr);obtain⟨z,M⟩:=ay (wu 8 b);have b0:z<4294967296:=by have:=ZlV u 8;omega
  have a8:Hid (crg 4294967295 (s.take (i+1))=z):=J (by rw[q,Zi6,I.out,E,hb,M]);rw[M] at K;have G:b<4294967296:=O;go_wp21;refine cp K.out ?_;go_wp2;refine⟨⟨i+1,z,ab,ci,by congr 1,a8,b0,mG⟩,?_⟩;simp[intOf]<;>omega
 have a1:i=n:=O;subst a1;have b2:¬(i:Int)<S.size:=yG;have a2:Hid (((qU s:Nat):Int)=4294967295-(y:Int)):=J (by have h1:=I.out;rw[d' (by rw[p.out];exact aU)] at h1;unfold qU;rw[h1];omega);have a9:=ZlU y Q;go_wp2;go_ret;exact⟨DJ (by rw[a2.out,<-a9];try rfl),rfl⟩
theorem S9 (s:ax) (g:s.length<=1099511627776) (w:aq):
  Calls prog 119 #[bs s] w λx w'=>x=.returned (.int .u32 (qU s:Nat))/\w=w':=by have H:=J (Zb9 s g w);generalize bs s=S at*;go_in;go_wp21;refine cp H.out ?_;exact Ai
theorem yY (s:ax) (i:Nat) (h:i<s) (g:i<(bs s).size):((bs s)[i]'g).toNat=(s.getD i 0).toNat:=by rw[K6 s i h g];simp[List.getD,h]
theorem Z8I (s : ax) (a4 : s.length <= 1000000) (i j m : Nat) (hi : i + m <= s.length) (a1 : j + m <= s.length) (w : aq) :
    Calls prog 268 #[bs s,i,j,m] w (bM w ((oM s i j m:Nat):Int)):=by
  have p:(bs s).size=s:=Z0 s;have l:=J (yY s);obtain⟨n,E⟩:=ay s.length;obtain⟨S,B⟩:=ay (bs s);obtain⟨R,t⟩:=ay (oM s i j m);have h0:Hid (so s i j 0 (m-0)=R):=J (by rw[Nat.sub_zero];exact t);have Q:R<=m:=(by rw[<-t];exact L' s i j m);have F:=J (λk (h:k<m)=>(by(obtain⟨q,a3⟩:∃q,m-k=q+1:=⟨m-k-1,O⟩);rw[a3,Zdb,show q=m-(k+1) by omega]:so s i j k (m-k)=if s.getD (i+k) 0=s.getD (j+k) 0 then so s i j (k+1) (m-(k+1)) else k));rw[B] at p l⊢;rw[E] at p a4 hi a1 l;rw[t];have b5:=J p;clear E B p t;go_in;go_wp2;go_loopw [11] (λy wr=>∃k:Nat,k<=m/\y=(k:Int)/\Hid (so s i j k (m-k)=R)/\Hid (Below w w wr)) (λy _=>(m-intOf y).toNat);exact⟨0,cf _,rfl,h0,J (bf _ _)⟩;obtain⟨k,b2,rfl,D,hb⟩:=hrel;by_cases ab:k<m
  . have b3:i+k<S.size:=yG;have a2:j+k<S.size:=yG;have a6:=l.out (i+k) O;have I:=l.out (j+k) O;have u:=F.out k ab;obtain⟨a,a0⟩:=ay (s.getD (i+k) 0);obtain⟨b,a5⟩:=ay (s.getD (j+k) 0);rw[a0] at a6 u;rw[a5] at I u;have b4:(i:Int)+k<(S.size:Int):=O;have a8:(j:Int)+k<(S.size:Int):=O;have b0:(0:Int)<=i+(k:Int):=O;have b1:(0:Int)<=j+(k:Int):=O;have a9:(k:Int)<m:=O;have g:=J (D.out);rw[u] at g;by_cases e:a=b;. rw[Vag e] at g;subst e;have M:((a.toNat:Int) !=a.toNat)=false:=(by simp);go_wp2;go_quiet (fail);go_wp2;refine⟨⟨k+1,ab,ci,g,J (mN hb.out _)⟩,?_⟩;simp[intOf]<;>omega
    rw[Vae e] at g;have M:((a.toNat:Int) !=b.toNat)=true:=by rw[kx];intro h;exact e (UInt8.toNat_inj.1 O)
    go_wp2;go_quiet (fail);go_wp2;go_returns;rw[<-g.out];exact⟨rfl,mN hb.out _⟩
  have a7:k=m:=O;subst a7;have z:=D.out;rw[fh,Zdc] at z;have G:=J z;go_wp2;go_returns;rw[<-G.out];exact⟨by first|rfl|(congr 2;omega),hb.out⟩
def lq (o:List (Nat×Nat)):List aI:=o.flatMap (λc=>[.int .i64 (c.1:Int),.int .i64 (c.2:Int)])
structure mf (w:World) (B ib wb bb mb db ob:Nat) (s:List UInt8) (i most b:Nat) (ov:Value) (o:List (Nat×Nat)):Prop where
 i:Bk w ib 3 #[i]
 win:Bk w wb 3 #[(4096:Int)]
 best:Bk w bb 3 #[b]
 most:Bk w mb 3 #[most]
 data:Bk w db 9 #[bs s]
 out:Bk w ob 279 #[ov]
 row:w.ownsRow B 282 2 ov o.length (lq o)
 n1:ib≠bb
 n2:wb≠bb
 n3:mb≠bb
 nb:B<=bb
 no:B<=ob
theorem ZqA:(prog.info? 282).map (λi=>(i.zero,i.size,i.bytes))=some (some (.agg #[(0:Int),(0:Int)]),2,16):=dw
theorem Zi5 (o:List (Nat×Nat)) (c:Nat×Nat):lq (o++[c])=lq o++[.int .i64 (c.1:Int),.int .i64 (c.2:Int)]:=by simp[lq]
end Go.Proofs.Y
namespace Wv
open Go Go.RowKit
theorem Vn {P : Program} (t e : TypeId) (z : aI) (bytes size : Nat) (a3 : P.underlying t = some (.slice e)) (F : (P.info? e).map (λi => (i.zero, i.size, i.bytes)) = some (some z, size, bytes)) (I : z.cells.size = size) (a5 : 0 < size) {w wb : aq} {B : Nat} {v : aI} {n : Nat} {xs : List aI} (h : w.ownsRow B e size v n xs) (a0 : Below B wb w) (D : B <= w.heap.size) (ys : List aI) (a6 : ys.length = size) (h1 : ∀ y ∈ ys, y.oneCell' = true) (Q : n + 1 <= maxLen) (G : (n + 1) * bytes <= 140737488355328) :
    ∃l w',(Builtin.append_ #[t,t] t #[v,.slice (some (w,0)) 1 1]).run P (w.alloc (.cells ys.toArray e))=.ok l w'/\w'.ownsRow B e size l (n+1) (xs++ys)/\Below B wb w'/\(∀E T p,Bk w E T p->e≠T->Bk w' E T p)/\w.heap.size<=w'.heap.size:=by obtain⟨i,hi,a4,a2,M⟩:=info_parts F;obtain ⟨l, w', a1, R, q, _, a7⟩ := run_append_own_at (P := P) (w.alloc (.cells ys.toArray e)) B t t e i z size bytes a3 hi a4 a2 M I a5 v n xs (h.alloc _) ⟨w, 0, none⟩ 1 1 ys O (λj u hu => OB) h1 Q G (co D (by simp));refine⟨l,w',a1,R,(a0.alloc D _).grown q (co D (by simp)) (λk g=>(h.lt k g).1),λE T p g S=>(g.alloc _).grown q (λe=>Z1 h g S e.symm),?_⟩;have:=q.size;simp at this;omega
end Wv
namespace Go.Proofs.Y
open Wv Go.RowKit
section
variable{cb p:Nat}{w':aq}
section
variable {w:aq} {B ib wb bb mb db ob:Nat} {s:ax} {i most b:Nat} {ov:aI} {o:List (Nat×Nat)}
theorem mf.below (h:mf w B ib wb bb mb db ob s i most b ov o) (hb:Below w w w'):mf w' B ib wb bb mb db ob s i most b ov o:=
 ⟨h.i.below hb h.i.lt,h.win.below hb h.win.lt,h.best.below hb h.best.lt,h.most.below hb h.most.lt,h.data.below hb h.data.lt,h.out.below hb h.out.lt,Z6 h.row (Fr.of_below (S:=nob) hb) (λ_ _ f=>f),h.n1,h.n2,h.n3,h.nb,h.no⟩
theorem mf.setBest (h:mf w B ib wb bb mb db ob s i most b ov o) (n:Nat):mf (w.setCell (bb,0) n) B ib wb bb mb db ob s i most n ov o:=
 ⟨h.i.off (p:=⟨bb,0,none⟩) h.n1 _,h.win.off (p:=⟨bb,0,none⟩) h.n2 _,h.best.put 0 _,h.most.off (p:=⟨bb,0,none⟩) h.n3 _,h.data.off (p:=⟨bb,0,none⟩) (Bk.apart h.data h.best aY) _,h.out.off (p:=⟨bb,0,none⟩) (Bk.apart h.out h.best aY) _,
  Zq h.row (p:=⟨bb,0,none⟩) (Z1 h.row h.best aY) _,h.n1,h.n2,h.n3,h.nb,h.no⟩
theorem mf.grow {q:aI} {l:List (Nat×Nat)} (h:mf w B ib wb bb mb db ob s i most b ov o) (k:∀D T t,Bk w D T t->282≠T->Bk w' D T t) (y:w'.ownsRow B 282 2 q l (lq l)):mf (w'.setCell (ob,0) q) B ib wb bb mb db ob s i most b q l:=by
 have g:=k _ _ _ h.out aY;have hi:=k _ _ _ h.i aY;have z:=k _ _ _ h.win aY;have hb:=k _ _ _ h.best aY;have u:=k _ _ _ h.most aY;have hd:=k _ _ _ h.data aY
 exact⟨hi.off (p:=⟨ob,0,none⟩) (Bk.apart hi g aY) _,z.off (p:=⟨ob,0,none⟩) (Bk.apart z g aY) _,hb.off (p:=⟨ob,0,none⟩) (Bk.apart hb g aY) _,u.off (p:=⟨ob,0,none⟩) (Bk.apart u g aY) _,hd.off (p:=⟨ob,0,none⟩) (Bk.apart hd g aY) _,g.put 0 _,
  Zq y (p:=⟨ob,0,none⟩) (Z1 y g aY) _,h.n1,h.n2,h.n3,h.nb,h.no⟩
theorem mf.cells (h:mf w B ib wb bb mb db ob s i most b ov o):w.cell? (ib,0)=i/\w.cell? (wb,0)=(4096:Int)/\w.cell? (bb,0)=b/\w.cell? (mb,0)=most/\w.cell? (db,0)=(bs s)/\w.cell? (ob,0)=some ov/\w.frozen? (bb,0)=false/\w.frozen? (ob,0)=false:=
 ⟨h.i.cell 0,h.win.cell 0,h.best.cell 0,h.most.cell 0,h.data.cell 0,h.out.cell 0,h.best.frozen 0,h.out.frozen 0⟩
def zR (w:aq) (B ib wb bb mb db ob:Nat) (s:ax) (i most p b:Nat) (ov:aI) (o:List (Nat×Nat)) (x:Ending) (w':aq):Prop:=
 ∃g l k,mf w' B ib wb bb mb db ob s i most g l k/\Below B w w'/\((rA s i most p b o=none/\x=.returned false/\g=b/\k=o)\/(rA s i most p b o=some (g,k)/\x=.returned true))
theorem Z6W (h:mf w B ib wb bb mb db ob s i most b ov o) (l:B<=w) (i7:s.length<=4096) (i6:p<i) (hi:i+most<=s) (b1:o.length<=4096):
  Calls prog 267 #[p,(ib,0),(wb,0),(bb,0),(mb,0),(db,0),(ob,0)] w λx w'=>zR w B ib wb bb mb db ob s i most p b ov o x w':=by
 have q:=bf B w;obtain⟨c1,c2,f9,g0,g9,h0,h5,h6⟩:=h.cells;have H:=J h;by_cases h1:4096<i-p;.have g:rA s i most p b o=none:=(by unfold rA;rw[Vag (.inl h1)]);have k:Hid (∀w',Below w w w'->zR w B ib wb bb mb db ob s i most p b ov o (.returned false) w'):=J (λw' hb=>⟨b,ov,o,H.out.below hb,q.trans (hb.mono l),.inl ⟨g,rfl,rfl,rfl⟩⟩);have a6:(4096:Int)<i-(p:Int):=O;go_in;go_wp2;go_returns;exact k.out _ (bf _ _)
 by_cases b0:most<=b;.have g:rA s i most p b o=none:=(by unfold rA;rw[Vag (.inr b0)]);have k:Hid (∀w',Below w w w'->zR w B ib wb bb mb db ob s i most p b ov o (.returned false) w'):=J (λw' hb=>⟨b,ov,o,H.out.below hb,q.trans (hb.mono l),.inl ⟨g,rfl,rfl,rfl⟩⟩);have a6:¬(4096:Int)<i-(p:Int):=O;have f5:(most:Int)<=b:=O;go_in;go_wp2;go_returns;exact k.out _ (bf _ _)
 have a6:¬(4096:Int)<i-(p:Int):=O;have f5:¬(most:Int)<=b:=O;have I:(bs s).size=s:=Z0 s;have a0:p+b<(bs s).size:=O;have f4:i+b<(bs s).size:=O;have a1:=yY s (p+b) O a0;have Q:=yY s (i+b) O f4;have d9:(p:Int)+b<((bs s).size:Int):=O;have j4:(i:Int)+b<((bs s).size:Int):=O;have j2:(0:Int)<=p+(b:Int):=O;have h7:(0:Int)<=i+(b:Int):=O;have F:=J (λW=>Z8I s O p i most O hi W);have a3:¬(4096<i-p\/most<=b):=O;have f3:=L' s p i most;by_cases u:s.getD (p+b) 0=s.getD (i+b) 0
 .have g:rA s i most p b o=if b<oM s p i most then some (oM s p i most,o++[(oM s p i most,i-p)]) else some (b,o):=by unfold rA;rw[Vae a3,Vae (by simpa using u)]
  have d6:(bs s)[p+b]=(bs s)[i+b]:=UInt8.toNat_inj.1 (by rw[a1,Q,u]);obtain⟨n,d8⟩:=ay (oM s p i most);rw[d8] at g F f3;by_cases E:b<n
  .rw[Vag E] at g;have b2:(b:Int)<n:=O;have R:Hid (∀n w',Below w (w.drewN n) w'->mf w' B ib wb bb mb db ob s i most b ov o):=J (λn w' hb=>H.out.below ((mN (bf _ _) n).trans hb));have k:Hid (∀w' a2,mf w' B ib wb bb mb db ob s i most n a2 (o++[(n,i-p)])->Below B w w'->zR w B ib wb bb mb db ob s i most p b ov o (.returned true) w'):=J (λw' a2 d7 hb=>⟨n,a2,_,d7,hb,.inr ⟨g,rfl⟩⟩);have a9:o+1=(o++[(n,i-p)]).length:=(by simp);have y:lq (o++[(n,i-p)])=lq o++[.int .i64 (n:Int),.int .i64 ((i:Int)-p)]:=by rw[Zi5];simp only;rw[show((i-p:Nat):Int)=(i:Int)-p by omega]
   obtain⟨f2,G,a5⟩:=bD a9 y l;generalize bs s=S at*;clear g h q E I a9 y;go_in;go_wp2;go_quiet (fail);go_wp21;refine aP (F.out _) λw1 t=>?_;have aa:Below w w w1:=(mN (bf w w) nq).trans t;have z:=R.out _ _ t;obtain⟨b8,b9,c9,d1,d2,d3,d4,d5⟩:=z.cells;have D:=z.setBest n;have a4:Below B w (w1.setCell (bb,0) (n:Int)):=(aa.mono a5.out).setCell (p:=⟨bb,0,none⟩) z.nb _;have b4:B<=(w1.setCell (bb,0) (n:Int)).heap.size:=co a5.out a4.size;obtain⟨h8,h9,i0,i1,i2,i3,i4,i5⟩:=D.cells;obtain⟨j3,w2,e9,M,b6,a7,j0⟩:=Vn (P:=prog) 279 282 _ _ 2 underlying279 ZqA rfl O D.row a4 b4 [.int .i64 (n:Int),.int .i64 ((i:Int)-p)] rfl sX fU O;rw[f2.out,<-G.out] at M;obtain⟨f6,f7,f8,rfl⟩:=Z7 M;have b3:=D.grow a7 M;have a8:=a7 _ _ _ D.out aY;have i8:=a8.cell 0;have i9:=a8.frozen 0;have b7:=J (k.out _ _ b3 (b6.setCell (p:=⟨ob,0,none⟩) z.no _));have b5:=J e9;generalize j1:w1.setCell ⟨bb,0,none⟩ (n:Int)=W2 at*;go_wp2_with (at_builtin;refine Z5 Ft rfl _ _ _ rfl _ _ (by rfl) (by rfl) b5.out ?_);go_returns;exact b7.out
  rw[Vae E] at g;have k:Hid (∀w',Below w w w'->zR w B ib wb bb mb db ob s i most p b ov o (.returned true) w'):=J (λw' hb=>⟨b,ov,o,H.out.below hb,q.trans (hb.mono l),.inr ⟨g,rfl⟩⟩);have b2:¬(b:Int)<n:=O;have R:Hid (∀n w',Below w (w.drewN n) w'->mf w' B ib wb bb mb db ob s i most b ov o):=J (λn w' hb=>H.out.below ((mN (bf _ _) n).trans hb));generalize bs s=S at*;clear g h q l b1 E I;go_in;go_wp2;go_quiet (fail);go_wp21;refine aP (F.out _) λw1 t=>?_;have aa:Below w w w1:=(mN (bf w w) nq).trans t;obtain⟨b8,b9,c9,d1,d2,d3,d4,d5⟩:=(R.out _ _ t).cells;go_wp2;go_returns;exact k.out _ aa
 have g:rA s i most p b o=some (b,o):=(by unfold rA;rw[Vae a3,Vag u]);have k:Hid (∀w',Below w w w'->zR w B ib wb bb mb db ob s i most p b ov o (.returned true) w'):=J (λw' hb=>⟨b,ov,o,H.out.below hb,q.trans (hb.mono l),.inr ⟨g,rfl⟩⟩);have d6:((((bs s)[p+b]).toNat:Int) !=(((bs s)[i+b]).toNat:Int))=true:=by rw[kx];intro e;exact u (UInt8.toNat_inj.1 (by rw[<-a1,<-Q];omega))
 generalize bs s=S at*;clear a1 Q u a3 h1 b0 g h H q l b1 I;go_in;go_wp2;go_quiet (fail);go_wp2;go_returns;exact k.out _ (mN (bf _ _) _)
end
def MX (ib wb bb mb db ob:Nat):aI:=.func (.func 267) #[] #[.pointer (some ⟨ib,0,none⟩),.pointer (some ⟨wb,0,none⟩),.pointer (some ⟨bb,0,none⟩),.pointer (some ⟨mb,0,none⟩),.pointer (some ⟨db,0,none⟩),.pointer (some ⟨ob,0,none⟩)]
theorem Zhe {s:ax} {i most b:Nat} {o:List (Nat×Nat)} {y:Nat×List (Nat×Nat)} (h:rA s i most p b o=some y):y.2<=o.length+1:=by unfold rA at h;split at h;exact po;split at h;injection h with h;rw[<-h];simp;split at h;injection h with h;rw[<-h];simp;injection h with h;rw[<-h];simp
section
variable {w:aq} {B ib wb bb mb db ob:Nat} {s:ax} {i most b:Nat} {ov:aI} {o:List (Nat×Nat)}
theorem Zbv (h:mf w B ib wb bb mb db ob s i most b ov o) (b0:B<=w) (b1:s.length<=4096) (hi:i+most<=s) (M:o.length=0) (b7:w.cell? (cb,0)=i):
  Calls prog 232 #[MX ib wb bb mb db ob,(cb,0)] w λx w'=>x=.returned (.tuple #[])/\∃y z,mf w' B ib wb bb mb db ob s i most y z (pB s i most i b o)/\Below B w w':=by
 obtain⟨R,k⟩:=ay (pB s i most i b o);have h0:=J k;rw[k];obtain⟨H,a4,a8,a6⟩:=dc h (λ(W:aq) (p b:Nat) (ov:aI) (o:List (Nat×Nat)) (l:mf W B ib wb bb mb db ob s i most b ov o) (a3:B<=W) (Q:p<i) (M:o.length<=4096)=>Z6W l a3 b1 Q hi M) (λp b o=>ZhD s i most p b o) (bf B w);have b6:i<=4096:=O;have a7:=J (show o.length+i<=i by omega);unfold MX;go_in;go_wp2;go_loopw [3] (λs3 wr=>∃(p b:Nat) (ov:aI) (o:List (Nat×Nat)),p<=i/\s3=((p:Int)-1:Int)/\Hid (mf wr B ib wb bb mb db ob s i most b ov o)/\Hid (pB s i most p b o=R)/\Hid (Below B w wr)/\Hid (o.length+p<=i)) (λs3 _=>(intOf s3+1).toNat);exact⟨i,b,ov,o,aU,rfl,H,h0,a6,a7⟩;obtain⟨p,b,ov,o,Q,rfl,l,k,hb,I⟩:=hrel;by_cases ab:0<p
 .obtain⟨q,rfl⟩:∃q,p=q+1:=⟨p-1,O⟩;have i1:((q+1:Nat):Int)-1=(q:Int):=O;rw[i1];have a0:B<=wr:=co b0 hb.out.size;have a1:=J (a4.out wr q b ov o l.out a0 O (by have:=I.out;omega));have b8:(0:Int)<=q:=O;have G:=k.out;rw[a8.out] at G;have E:=J G;go_wp21;refine(a1.out).mono ?_;rintro x w1 ⟨y,z,S,b4,b2,a5⟩;have F:=J (hb.out.trans b2);have D:=J b4;rcases a5 with ⟨t,rfl,rfl,rfl⟩|⟨t,rfl⟩
  .have g:=E.out;rw[t] at g;have u:=J g;go_wp2;first|go_end0|go_returns
   rw[<-u.out];exact⟨rfl,_,_,D.out,F.out⟩
  have g:=E.out;rw[t] at g;have u:=J g;have b3:=Zhe t;have a2:=J (show S.length+q<=i by have:=I.out;simp only at b3;omega);go_wp2;refine⟨⟨q,y,z,S,O,rfl,D,u,F,a2⟩,?_⟩;simp[intOf]<;>omega
 have b5:p=0:=O;subst b5;have g:Hid (o=R):=k;go_wp2;first|go_end0|go_returns
 rw[<-g.out];exact⟨rfl,_,_,l.out,hb.out⟩
end
def Ea (w:aq) (s:ax) (i:Nat) (m:Int):aq:=((((((w.alloc (.cells #[bs s] 9)).alloc (.cells #[i] 3)).alloc (.cells #[(4096:Int)] 3)).alloc (.cells #[m] 3)).alloc (.cells #[.slice none 0 0] 279)).alloc (.cells #[(1:Int)] 3))
theorem Bk.newN (w:aq) (t:TypeId) (g:Array aI) {n:Nat} (h:w=n):Bk (w.alloc (.cells g t)) n t g:=h▸Bk.new w t g
theorem Zj3 (w:aq) (s:ax) (i m:Nat):mf (Ea w s i m) w (w.heap.size+1) (w.heap.size+1+1) (w.heap.size+1+1+1+1+1) (w.heap.size+1+1+1) w (w.heap.size+1+1+1+1) s i m 1 (.slice none 0 0) []/\Below w w (Ea w s i m):=by have hb:Below w w (Ea w s i m):=((((((bf w w).alloc aU _).alloc (by simp) _).alloc fj _).alloc fj _).alloc fj _).alloc fj _;refine⟨⟨?_,?_,?_,?_,?_,?_,Zl,O,O,O,O,O⟩,hb⟩;exact((((Bk.newN _ _ _ (by simp)).alloc _).alloc _).alloc _).alloc _;exact(((Bk.newN _ _ _ (by simp)).alloc _).alloc _).alloc _;exact Bk.newN _ _ _ (by simp);exact((Bk.newN _ _ _ (by simp)).alloc _).alloc _;exact(((((Bk.new _ _ _).alloc _).alloc _).alloc _).alloc _).alloc _;exact(Bk.newN _ _ _ (by simp)).alloc _
theorem Z8H (s:ax) (a5:s.length<=4096) (i:Nat) (hi:i<=s) {w:aq} (a1:w.cell? (cb,0)=i) (b0:cb<w):
  Calls prog 231 #[bs s,i,(4096:Int),(273:Int),.func (.func 232) #[] #[(cb,0)]] w λx w'=>∃ov,x=.returned ov/\w'.ownsRow w 282 2 ov (rD s i) (lq (rD s i))/\Below w w w':=by
 have b3:(bs s).size=s:=Z0 s;have a3:XV s i=min 273 (s.length-i):=rfl;have a0:rD s i=pB s i (XV s i) i 1 []:=rfl;rw[a0];obtain⟨m,a2⟩:=ay (XV s i);rw[a2] at a3⊢;have D:i+m<=s:=O;have F:=J (λ(W:aq) (B ib wb bb mb db ob:Nat) (ov:aI) (h:mf W B ib wb bb mb db ob s i m 1 ov []) (b1:B<=W) (a1:W.cell? ⟨cb,0,none⟩=i)=>Zbv h b1 a5 D rfl a1);obtain⟨S,l⟩:=Zj3 w s i m;have k:=J (F.out _ _ _ _ _ _ _ _ _ S l.size ((l.cell (p:=⟨cb,0,none⟩) b0).trans a1));unfold MX Ea at k;have y:=J l;generalize pB s i m i 1 []=R at*;have a7:=J a5;by_cases a4:273<=s.length-i;.have q:m=273:=O;have a8:min (273:Int) ((s.length:Int)-i)=273:=O;have a6:(273:Int)<=s.length-(i:Int):=O;subst q;clear a3 a0 a2 S l F D;go_in;go_wp21;refine aP k.out λw1 ⟨a9,b2,g,t⟩=>?_;have Q:=g.out.cell 0;obtain⟨z,I,M,rfl⟩:=Z7 g.row;simp at Q;have E:=J (⟨g.row,y.out.trans t⟩:w1.ownsRow w 282 2 (.slice z I M) R (lq R)/\Below w w w1);clear g t k y;go_wp2;go_returns;exact⟨_,rfl,E.out⟩
 have a6:¬(273:Int)<=s.length-(i:Int):=O;have a8:min (273:Int) ((s.length:Int)-i)=(s.length:Int)-i:=O;have q:((s.length:Int)-i)=(m:Int):=O;rw[<-q] at k;have G:=J q;clear a3 a0 a2 S l F D q;go_in;go_wp21;refine aP k.out λw1 ⟨a9,b2,g,t⟩=>?_;have Q:=g.out.cell 0;obtain⟨z,I,M,rfl⟩:=Z7 g.row;simp at Q;have u:=y.out;unfold Ea at u;rw[<-G.out] at u;have E:=J (⟨g.row,u.trans t⟩:w1.ownsRow w 282 2 (.slice z I M) R (lq R)/\Below w w w1);clear g t k y u;go_wp2;go_returns;exact⟨_,rfl,E.out⟩
theorem ZbC (w:aq):Calls prog 230 #[(4096:Int),(273:Int)] w λx w'=>x=.returned true/\w=w':=xf
theorem Zbw (s:ax) (t:s.length<=4096) (i:Nat) (hi:i<=s) (w:aq):
  Calls prog 195 #[bs s,i,(4096:Int),(273:Int)] w λx w'=>∃ov,x=.returned ov/\w'.ownsRow w 282 2 ov (rD s i) (lq (rD s i))/\Below w w w':=by
 have p:=J (λW=>ZbC W);have y:(bs s).size=s:=Z0 s;have B:¬(4096:Int)<((bs s).size:Int):=O;have F:¬((bs s).size:Int)<(i:Int):=O;have q:=(bf w w).alloc aU (.cells #[i] 3);have l:=J (Z8H s t i hi (w:=w.alloc (.cells #[i] 3)) (cb:=w.heap.size) ((Bk.new w 3 #[i]).cell 0) (by simp));generalize rD s i=R at*
 have k:Hid (∀(w':aq) ov,w'.ownsRow (w.alloc (.cells #[i] 3)) 282 2 ov R (lq R)->Below (w.alloc (.cells #[i] 3)) (w.alloc (.cells #[i] 3)) w'->w'.ownsRow w 282 2 ov R (lq R)/\Below w w w'):=
  J (λw' ov h1 g=>⟨K4 h1 (by simp),q.trans (g.mono (by simp))⟩);generalize bs s=S at*;clear q y t hi;go_in;go_wp21;refine cp (p.out _) ?_;go_wp21;refine(l.out).mono ?_;rintro x w1 ⟨ov,rfl,h1,g⟩;have u:=J (k.out _ _ h1 g);obtain⟨z,D,E,rfl⟩:=Z7 h1;clear h1 g k l p;go_wp2;go_returns;exact⟨_,rfl,u.out⟩
end
theorem Z85 (s:ax) (F:s.length<=1000000000) (w:aq):
  Calls prog 79 #[bs s] w (bM w (bs (pZ s))):=by
 have g:=J (S9 s O w);have ab:=Z84 s;obtain⟨n,k⟩:=ay (qU s);rw[k] at g ab;obtain⟨a1,h1⟩:=ay (n % 256);obtain⟨a2,p⟩:=ay (n/256 % 256);obtain⟨a3,t⟩:=ay (n/65536 % 256);obtain⟨a4,u⟩:=ay (n/16777216);have i1:(n:Int) % 256=(a1:Int):=O;have E:(n:Int)/256 % 256=(a2:Int):=O;have G:(n:Int)/65536 % 256=(a3:Int):=O;have I:(n:Int)/16777216=(a4:Int):=O;have R:a1<256:=O;have l2:a2<256:=O;have S:a3<256:=O;have l4:a4<256:=O;have M:(a4:Int) % 256=(a4:Int):=O;have D:(convert 110 9 (.slice (some (w,0)) 4 4)).run prog (w.alloc (.cells #[.int .u8 (a1:Int),.int .u8 (a2:Int),.int .u8 (a3:Int),.int .u8 (a4:Int)] 5))=.ok (.string (bs [UInt8.ofNat a1,UInt8.ofNat a2,UInt8.ofNat a3,UInt8.ofNat a4])) (w.alloc (.cells #[.int .u8 (a1:Int),.int .u8 (a2:Int),.int .u8 (a3:Int),.int .u8 (a4:Int)] 5)):=by refine run_convert_bytes_back _ 110 9 5 ⟨w,0,none⟩ 4 [UInt8.ofNat a1,UInt8.ofNat a2,UInt8.ofNat a3,UInt8.ofNat a4] underlying110 underlying5 underlying9 (λj y=> ?_);have z:j<4:=y;rw[Go.WideShapes.add_plain,jK,(Bk.new w _ _).cell];exact On
 have B:(bs s).size<=1000000000:=Cs;have Q:(bs [UInt8.ofNat a1,UInt8.ofNat a2,UInt8.ofNat a3,UInt8.ofNat a4]).size=4:=rfl;have l:=J (show bs s++bs [UInt8.ofNat a1,UInt8.ofNat a2,UInt8.ofNat a3,UInt8.ofNat a4]=bs (pZ s) from by rw[Z9];unfold pZ zA;rw[k,<-h1,<-p,<-t,<-u];exact Om);have hb:=J ((bf w w).alloc aU (.cells #[.int .u8 (a1:Int),.int .u8 (a2:Int),.int .u8 (a3:Int),.int .u8 (a4:Int)] 5));generalize bs s=s1 at*;generalize bs [UInt8.ofNat a1,UInt8.ofNat a2,UInt8.ofNat a3,UInt8.ofNat a4]=s2 at*;go_in;go_wp21;refine cp g.out ?_;go_wp2;go_ret;exact⟨Bc l.out,hb.out⟩
def lst4 (g b1 k:Nat):Nat->Nat
 |0=>0
 |1=>g
 |2=>g+256*b1
 |_=>g+256*b1+65536*k
def zK (s:ax):Nat:=qU (s.take (s.length-4)) ^^^ wn s
theorem ZiT (s:ax):wn s<4294967296:=by unfold wn;have h0:=(s.getD (s.length-4) 0).toNat_lt;have h1:=(s.getD (s.length-3) 0).toNat_lt;have g:=(s.getD (s.length-2) 0).toNat_lt;have k:=(s.getD (s.length-1) 0).toNat_lt;omega
theorem Z7Q (a b:Nat):a ^^^ b=0↔a=b:=by constructor;intro h;apply Nat.eq_of_testBit_eq;intro i;have:=congrArg (λn=>n.testBit i) h;simp only[Nat.testBit_xor,Nat.zero_testBit] at this;revert this;cases a.testBit i<;>cases b.testBit i<;>simp;intro h;rw[h,Nat.xor_self]
theorem ZeS {s:ax} (h:4<=s.length):qO s=decide (zK s=0):=by unfold qO zK;rw[dd h,Bool.true_and,lN,Vax,Vax,Z7Q]
theorem Zb8 (s:ax) (b9:4<=s.length) (c6:s.length<=1000000000) (w:aq):
  Calls prog 136 #[bs s] w λx w'=>x=.returned (.int .u32 (zK s:Nat))/\w=w':=by
 obtain⟨k,Q⟩:∃k,s.length=k+4:=⟨s.length-4,O⟩;have a2:(bs s).size=k+4:=(by rw[Z0,Q]);have q:∀j (h:k+j<s.length) (p:k+j<(bs s).size),((bs s)[k+j]'p).toNat=(s.getD (k+j) 0).toNat:=λj h p=>by rw[K6 s (k+j) h p];simp[List.getD,h]
 have R:wn s=(s.getD (k+0) 0).toNat+256*(s.getD (k+1) 0).toNat+65536*(s.getD (k+2) 0).toNat+16777216*(s.getD (k+3) 0).toNat:=by unfold wn;rw[Q,show k+4-4=k+0 by omega,show k+4-3=k+1 by omega,show k+4-2=k+2 by omega,show k+4-1=k+3 by omega]
 obtain⟨g,I⟩:=ay ((s.getD (k+0) 0).toNat);obtain⟨b1,M⟩:=ay ((s.getD (k+1) 0).toNat);obtain⟨t,aa⟩:=ay ((s.getD (k+2) 0).toNat);obtain⟨b3,G⟩:=ay ((s.getD (k+3) 0).toNat);have d7:g<256:=(by rw[<-I];exact iq _);have d8:b1<256:=(by rw[<-M];exact iq _);have l2:t<256:=(by rw[<-aa];exact iq _);have d9:b3<256:=(by rw[<-G];exact iq _);rw[I,M,aa,G] at R;obtain⟨d1,c7,a0,a1⟩:=dc (λ(p:k<(bs s).size)=>(q 0 O p).trans I) (λ(p:k+1<(bs s).size)=>(q 1 O p).trans M) (λ(p:k+2<(bs s).size)=>(q 2 O p).trans aa) (λ(p:k+3<(bs s).size)=>(q 3 O p).trans G);have c4:(bs s).extract 0 k=bs (s.take k):=Gr (bs s) k;have a6:=J (λW=>S9 (s.take k) vO W);have u:zK s=qU (s.take k) ^^^ wn s:=(by unfold zK;rw[Q,vI]);have a7:=Z84 (s.take k);have a8:=ZiT s;obtain⟨c,a9⟩:=ay (qU (s.take k));obtain⟨l,b4⟩:=ay (wn s);obtain⟨z,b7⟩:=ay (zK s);rw[a9] at a6 u a7;rw[b4] at u a8 R;rw[b7] at u⊢;have d5:bits .xor .u32 (c:Int) (l:Int)=(z:Int):=(by rw[u32_xor_nat c l a7 a8,u]);have c8:=J R;obtain⟨b8,B,L1,D,E,F⟩:∃f:Nat->Nat,f 0=0/\f 1=g/\f 2=g+256*b1/\f 3=g+256*b1+65536*t/\f 4=l:=⟨λi=>if i=4 then l else lst4 g b1 t i,rfl,rfl,rfl,rfl,rfl⟩;obtain⟨B,L1,D,E,F⟩:=ii B L1 D E F;generalize bs (s.take k)=T at*;generalize bs s=S at*;have b5:=J a2;have e3:k<=1000000000:=O;have b6:(S.size:Int)=k+4:=(by rw[a2];omega);clear q I M aa G u a9 b4 b7 Q R a2 b9 c6;go_in;go_wp2;go_loopw [4,9] (λc9 a5 wr=>∃i:Nat,i<=4/\a5=(i:Int)/\c9=.int .u32 (b8 i:Int)/\wr=w) (λ_ a5 _=>(4-intOf a5).toNat);exact⟨0,O,rfl,by rw[B.out];rfl,rfl⟩;obtain⟨i,hi,rfl,rfl,rfl⟩:=hrel;have e2:k<S.size:=yG;have e4:k+1<S.size:=yG;have d4:k+2<S.size:=yG;have c3:k+3<S.size:=yG;have d2:(0:Int)<=k:=O;have d3:(k:Int)<S.size:=O;have e5:(k:Int)+1<(S.size:Int):=O;have d6:(k:Int)+2<(S.size:Int):=O;have c5:(k:Int)+3<(S.size:Int):=O;rcases(show i=0\/i=1\/i=2\/i=3\/i=4 by omega) with rfl|rfl|rfl|rfl|rfl
 .have q:∀h:k<S.size,(S[k]'h).toNat=g:=d1.out;have a3:bits .or .u32 0 (g:Int)=(g:Int):=by have:=u32_or_nat 0 g O O;rw[Nat.zero_or] at this;exact this
  rw[B.out];go_wp2;go_roundw;exact⟨1,O,rfl,by rw[L1.out];all_goals first|(congr 1;done)|(congr 1;omega),mG⟩;simp[intOf]
 .have q:∀h:k+1<S.size,(S[k+1]'h).toNat=b1:=c7.out;have a3:bits .or .u32 (g:Int) ((b1:Int)*256)=((g+256*b1:Nat):Int):=by rw[u32_or8 _ _ O O O O O];all_goals omega
  rw[L1.out];go_wp2;go_roundw;exact⟨2,O,rfl,by rw[D.out];all_goals first|(congr 1;done)|(congr 1;omega),mG⟩;simp[intOf]
 .have q:∀h:k+2<S.size,(S[k+2]'h).toNat=t:=a0.out;obtain⟨y,a4⟩:=ay (g+256*b1);have a3:bits .or .u32 (y:Int) ((t:Int)*65536)=((y+65536*t:Nat):Int):=by rw[u32_or16 _ _ O O O O O];all_goals omega
  rw[D.out];rw[a4];go_wp2;go_roundw;exact⟨3,O,rfl,by rw[E.out];all_goals first|(congr 1;done)|(congr 1;omega),mG⟩;simp[intOf]
 .have q:∀h:k+3<S.size,(S[k+3]'h).toNat=b3:=a1.out;obtain⟨y,a4⟩:=ay (g+256*b1+65536*t);have a3:bits .or .u32 (y:Int) ((b3:Int)*16777216)=(l:Int):=by rw[u32_or24 _ _ O O O O O,c8.out];all_goals omega
  rw[E.out];rw[a4];go_wp2;go_roundw;exact⟨4,O,rfl,by rw[F.out];all_goals first|(congr 1;done)|(congr 1;omega),mG⟩;simp[intOf]
 rw[F.out];go_wp21;refine cp (a6.out _) ?_;exact Ai
theorem Qd (s:ax) (p:s.length<=1000000000) (w:aq):
  Calls prog 91 #[bs s] w λx w'=>(∃y,x=.returned (.tuple #[.string y,(if qO s=true then 0 else 12:Int)]))/\w=w':=by have g:(bs s).size=s:=Z0 s;by_cases k:4<=s.length;have Q:=J (Zb8 s k p w);have l:=ZeS k;have u:¬((bs s).size:Int)<4:=(by rw[g];omega);have B:4<=(bs s).size:=(by rw[g];exact k);have E:(bs s).size<=1000000000:=(by rw[g];exact p);rw[l];obtain⟨z,t⟩:=ay (zK s);rw[t] at Q⊢;clear l g t k p;generalize bs s=S at*;by_cases q:z=0;subst q;exact PU;have D:((z:Int) !=0)=true:=kx.2 O;rw[Vae (by simpa using q)];exact PU;have u:((bs s).size:Int)<4:=(by rw[g];omega);have l:qO s=false:=(by unfold qO;rw[Vai k,Bool.false_and]);rw[l];generalize bs s=S at*;go_in;go_wp2;go_returns;exact⟨⟨_,rfl⟩,rfl⟩
section
variable{b g k v:Nat}{c c0:cj}{t:List Nat}{ts:List (List Nat)}{w':aq}
theorem Z8K (w:aq):
  Calls prog 149 #[(1:Int)] w λx w'=>x=.returned (.tuple #[(w.heap.size+1,0),(0:Int)])/\Bk w' w 3 (nc (wF 1))/\Bk w' (w.heap.size+1) 239 #[(1:Int),.slice (some (w,0)) 2 2]/\Below w w w':=by have p:=J (ZbQ w);go_in;go_wp21;refine aP p.out λw1 ⟨h1,g,hb⟩=>?_;have k:=J h1;have l:=J g;clear h1 g;go_wp2;go_returns;exact⟨rfl,k.out,l.out,hb⟩
def xH (g:Nat) (c:cj):Array aI:=(tJ g 8).push (bv c)
theorem Zoq (g:Nat) (c:cj) (h:k<8):(xH g c)[2*k]? =(8:Int)/\(xH g c)[2*k+1]? =some (.slice (some ⟨g,256*k,none⟩) 256 256):=by rcases(show k=0\/k=1\/k=2\/k=3\/k=4\/k=5\/k=6\/k=7 by omega) with rfl|rfl|rfl|rfl|rfl|rfl|rfl|rfl<;>exact⟨rfl,rfl⟩
theorem CW (g:Nat) (c:cj):(xH g c)[16]? =some (.int .u8 (c.toNat:Int)):=rfl
theorem Wu (g:Nat) (c d:cj):(xH g c).setIfInBounds 16 (.int .u8 (d.toNat:Int))=xH g d:=rfl
structure lJ (w:World) (b g:Nat) (ts:List Nat) (c:UInt8):Prop where
 st:Bk w b 244 (xH g c)
 nd:Bk w g 3 (nc ts)
theorem lJ.tree {w:aq} {ts:List Nat} (h:lJ w b g ts c) (l:k<8):pd w b (2*k) g (256*k) 8 ts:=by obtain⟨t0,t1⟩:=Zoq g c l;have c0:=h.st.cell (2*k);have c1:=h.st.cell (2*k+1);rw[t0] at c0;rw[t1] at c1;exact⟨c0,c1,h.nd,Bk.apart h.st h.nd aY,h.st.lt⟩
theorem lJ.fr {S:Nat->Prop} {w:aq} {ts:List Nat} (h:lJ w b g ts c) (k:Fr S w w') (h1:¬S b) (l:¬S g):lJ w' b g ts c:=⟨h.st.fr k h1,h.nd.fr k l⟩
theorem lJ.below {w:aq} {ts:List Nat} (h:lJ w b g ts c) (hb:Below w w w'):lJ w' b g ts c:=⟨h.st.below hb h.st.lt,h.nd.below hb h.nd.lt⟩
theorem slap (w:aq) (g:Nat):(Instr.arrayAt 242 (.slice (some (g,0)) 8 8)).run prog w=.ok (.pointer (some (g,0))) w:=dw
theorem ZiC (g:Nat):Array.foldl (λk x=>k.setIfInBounds x.snd x.fst) (#[(0:Int),.slice none 0 0,(0:Int),.slice none 0 0,(0:Int),.slice none 0 0,(0:Int),.slice none 0 0,(0:Int),.slice none 0 0,(0:Int),.slice none 0 0,(0:Int),.slice none 0 0,(0:Int),.slice none 0 0,.int .u8 0]:Array aI) (tJ g 8).zipIdx 0 16=xH g 0:=dw
theorem ZnV:prog.underlying 242=some (.array 8 239):=dw
theorem Z72 (w:aq):
  Calls prog 150 #[] w λx w'=>∃b,x=.returned (.pointer (some ⟨b,0,none⟩))/\w.heap.size<b/\lJ w' b w (List.replicate 2048 1024) 0/\Below w w w':=by have t:=J (ZbR w);go_in;go_wp21;refine aP t.out λw1 ⟨h1,k,hb⟩=>?_;have y:=J h1;have D:=J k;have G:=slap w1 (w.heap.size+1);have z:=ZiC w;have E:=k.lt;have u:w1.heap[w.heap.size+1]? =some (.cells (tJ w 8) 239 (0,0)):=k;obtain⟨B,p⟩:=ay (xH w 0);obtain⟨q,g⟩:=ay (tJ w 8);rw[p,g] at z;rw[g] at u;have hi:(prog.info? 242).map (·.size)=some q.size:=(by rw[<-g];kernel_rfl);have l:=J p;have F:q.size=16:=(by rw[<-g];rfl);clear h1 k t p g;go_wp2_with (refine wpList_load_row rfl 242 _ rfl (w.heap.size+1) rfl 239 q (0,0) _ u ZnV rfl hi ?_);go_returns;exact⟨_,rfl,O,⟨by rw[l.out];exact Bk.new _ _ _,y.out.alloc _⟩,hb.alloc hb.size _⟩
theorem lJ.drew {w:aq} {ts:List Nat} (h:lJ w b g ts c):lJ w.drew b g ts c:=⟨h.st,h.nd⟩
theorem lJ.foot {w:aq} {eb:Nat} {dv:aI} {ts:List Nat} {e:En} (h:lJ w b g ts c) (l:dY w eb dv e):¬foot eb dv b/\¬foot eb dv g:=by refine⟨λk=> ?_,Gq l h.nd⟩;rcases k with k|k;exact Bk.apart h.st l.1 aY k;exact Z1 l.2 h.st aY k
theorem Zp4 (h:∀t∈ts,iV t/\t.length=256) (g:ts.length=8):ts.flatten.length=2048:=by rw[ZdY (λt k=>(h t k).2),g]
def MB (b g eb:Nat) (dv:aI):Nat->Prop:=λk=>k=b\/tc g eb dv k
theorem Zed {w:aq} {eb:Nat} {dv:aI} {e:En} (h:lJ w b g ts.flatten c0) (D:∀t∈ts,iV t/\t.length=256) (c3:ts.length=8) (a1:dY w eb dv e) (b8:dE 0 e) (c:cj) (b5:e.out.length<=800000):
  Calls prog 116 #[(b,0),(eb,0),.int .u8 (c.toNat:Int)] w λx w'=>x=.returned (.tuple #[])/\lJ w' b g (ts.set (c0.toNat/32) (fM 8 c.toNat 1 (ts.getD (c0.toNat/32) []) e).1).flatten c/\∃Q,dY w' eb Q (fM 8 c.toNat 1 (ts.getD (c0.toNat/32) []) e).2/\Fr (MB b g eb dv) w w'/\Zu w dv Q:=by
 have a4:=Lf c0;have a2:=h.foot a1;have b6:=Zp4 D c3;have M:=h.st.cell 16;rw[CW] at M;obtain⟨k,B⟩:=ay (c0.toNat/32);rw[B] at a4⊢;have i1:(c0.toNat:Int)/32=(k:Int):=O;have c5:IntKind.i64.wrap ((c.toNat:Nat):Int)=((c.toNat:Nat):Int):=IntWalk.i64_in _ Jo;have a9:2*k=k*2:=tP _ _;have y:=J (λ(W:aq) (a0:lJ W b g ts.flatten c0) (F:dY W eb dv e)=>TM (a0.tree a4) O yH yH (Vg (λt h=>(D t h).1)) F (a0.foot F).1 b8 c.toNat Jo b5);rw[<-c5,a9] at y;have l:∀t∈ts,t.length=256:=λt h=>(D t h).2;obtain⟨c7,c8⟩:=J5 (L:=256) l (j:=k) O;obtain⟨q1,q2⟩:=VH 8 (256*k) c.toNat 1 256 (t:=ts.flatten) (e:=e) yH aY;rw[c7] at q1 q2;rw[c8 _ q2] at q1;have E:=J q1;have d3:(k:Int)<8:=O;have d2:(0:Int)<=k:=O;have b2:=c.toNat_lt;obtain⟨m,b7⟩:=ay c.toNat;have I:=Wu g c0 c;rw[b7] at y E b2 I⊢;obtain⟨m0,c4⟩:=ay c0.toNat;rw[c4] at M i1;obtain⟨a8,H,a6⟩:=bD I h a1;have b1:=h.st.lt;have b0:¬tc g eb dv b:=λq=>by rcases q with q|q;exact Bk.apart h.st h.nd aY q;exact a2.1 q
 have b9:=a2.1;go_in;go_wp2;go_region_with ((go_at_call 115;refine(y.out _ H.out.drew a6.out.drew).mono ?_;rintro r w1 ⟨rfl,d1,c6,b4,G,a3⟩))
 all_goals
  have u:=H.out.st.drew.fr G b0;have b3:=u.frozen 16;have a7:=u.cell 16;rw[CW] at a7;have c9:=Te (w1:=w1) b9 a3 b1;go_wp2;go_end0;have R:=u.put 16 (.int .u8 (m:Int));rw[a8.out] at R;have z:=d1.nd;have S:=b4.offG (m:=16) (x:=.int .u8 (m:Int)) c9;rw[E.out] at z S;have a5:=Bk.apart u z aY;exact⟨rfl,⟨R,z.off (p:=⟨b,16,none⟩) (Ne.symm a5) _⟩,c6,S,((Fr.refl (MB b g eb dv) w).drew.trans (G.mono (λk B=>.inr B))).setCell (p:=⟨b,16,none⟩) (.inl (.inl rfl)) _,a3⟩
theorem Zec {w:aq} {eb:Nat} {d:De} (h:lJ w b g ts.flatten c0) (I:∀t∈ts,iV t/\t.length=256) (c8:ts.length=8) (a4:dD w eb d) (a5:DV 0 d):
  Calls prog 185 #[(b,0),(eb,0)] w λx w'=>x=.returned (.int .u8 (((UInt8.ofNat ((ej 8 1 (ts.getD (c0.toNat/32) []) d).1-256)).toNat:Nat):Int))/\lJ w' b g (ts.set (c0.toNat/32) (ej 8 1 (ts.getD (c0.toNat/32) []) d).2.1).flatten (UInt8.ofNat ((ej 8 1 (ts.getD (c0.toNat/32) []) d).1-256))/\dD w' eb (ej 8 1 (ts.getD (c0.toNat/32) []) d).2.2/\Fr (λk=>k=b\/vg g eb k) w w':=by
 have a6:=Lf c0;have b6:=Zp4 I c8;have a2:=h.st.cell 16;rw[CW] at a2;obtain⟨k,G⟩:=ay (c0.toNat/32);rw[G] at a6⊢;have i1:(c0.toNat:Int)/32=(k:Int):=O;have M:b≠eb:=Bk.apart h.st a4 aY;have S:b≠g:=Bk.apart h.st h.nd aY;have b3:2*k=k*2:=tP _ _;have a0:=Vg (λt h=>(I t h).1);have l:=J (λ(W:aq) (c3:lJ W b g ts.flatten c0) (a9:dD W eb d)=>TL (c3.tree a6) O yH yH a0 a9 M a5);rw[b3] at l;have q:∀t∈ts,t.length=256:=λt h=>(I t h).2;obtain⟨d1,d2⟩:=J5 (L:=256) q (j:=k) O;obtain⟨q1,q2⟩:=VG 8 (256*k) 1 256 (t:=ts.flatten) (d:=d) yH aY;obtain⟨_,_,_,Q,R⟩:=z_ 8 (256*k) 1 256 ts.flatten d a0 yH aY a5;rw[d1] at q1 q2;rw[d2 _ q2] at q1;rw[q1] at l Q R;simp only at l Q R;have b4:(2:Nat) ^ 8=256:=aY;rw[b4] at l Q R;have d5:(k:Int)<8:=O;have d4:(0:Int)<=k:=O;obtain⟨z,c5⟩:=ay ((ej 8 1 (ts.getD k []) d).1-256);have c6:z<256:=O;rw[c5] at l⊢;have y:(UInt8.ofNat z).toNat=z:=(by rw[UInt8.toNat_ofNat'];omega);have a1:=Wu g c0 (UInt8.ofNat z);rw[y] at a1⊢;obtain⟨m0,c9⟩:=ay c0.toNat;rw[c9] at a2 i1;have c4:IntKind.u8.wrap (z:Int)=(z:Int):=(by rw[IntKind.wrap_u8];omega);obtain⟨D,b2,H,a8⟩:=dc y a1 h a4;have d6:=h.st.lt;have E:¬vg g eb b:=λu=>by rcases u with u|u;exact S u;exact M u
 have b5:=h.st.frozen 16;go_in;go_wp2;go_region_with ((go_at_call 184;refine(l.out _ H.out.drew a8.out.drew).mono ?_;rintro r w1 ⟨rfl,d3,b7,B⟩;have a3:=(H.out.st.drew.fr B E).frozen 16;have b1:=(H.out.st.drew.fr B E).cell 16;rw[CW] at b1))
 all_goals
  have c7:=H.out.st.drew.fr B E;have F:=c7.put 16 (.int .u8 (z:Int));rw[b2.out] at F;have b0:=F.cell 16;rw[CW,D.out] at b0;have b9:=d3.nd.off (p:=⟨b,16,none⟩) (Ne.symm S) (.int .u8 (z:Int));have b8:=b7.offG (m:=16) (x:=.int .u8 (z:Int)) M;have hF:Fr (λk=>k=b\/vg g eb k) w (w1.setCell (b,16) (.int .u8 (z:Int))):=((Fr.refl (λk=>k=b\/vg g eb k) w).drew.trans (B.mono (λk G=>.inr G))).setCell (p:=⟨b,16,none⟩) (.inl (.inl rfl)) _;have a7:=J F;generalize w1.setCell ⟨b,16,none⟩ (.int .u8 (z:Int))=W2 at*;go_wp2;go_ret;exact⟨rfl,⟨a7.out,b9⟩,b8,hF⟩
structure Pl where
 kb:Nat
 kg:Nat
 bb:Nat
 bg:Nat
 lb:Nat
 lg:Nat
 db:Nat
 dg:Nat
structure gj (w:World) (p:Pl) (m:Ms):Prop where
 ks:Bk w p.kb 239 #[(1:Int),.slice (some ⟨p.kg,0,none⟩) 2 2]
 kn:Bk w p.kg 3 (nc m.kind)
 bt:lJ w p.bb p.bg m.bytes.flatten m.last
 ln:fp w p.lb p.lg m.len
 dn:fp w p.db p.dg m.dist
 a1:p.kg≠p.bg
 a2:p.kg≠p.lg
 a3:p.kg≠p.dg
 a4:p.bg≠p.lg
 a5:p.bg≠p.dg
 a6:p.lg≠p.dg
structure yj (T:Nat->Prop) (p:Pl):Prop where
 kb:¬T p.kb
 kg:¬T p.kg
 bb:¬T p.bb
 bg:¬T p.bg
 lb:¬T p.lb
 lg:¬T p.lg
 db:¬T p.db
 dg:¬T p.dg
theorem Vi {w:aq} {eb:Nat} {dv:aI} {e:En} {t:TypeId} {l:Array aI} (k:dY w eb dv e) (h:Bk w b t l) (h1:t≠237) (p:5≠t):¬foot eb dv b:=λg=>by rcases g with g|g;exact Bk.apart h k.1 h1 g;exact Z1 k.2 h p g
theorem gj.offE {w:aq} {p:Pl} {m:Ms} (h:gj w p m) {eb:Nat} {dv:aI} {e:En} (g:dY w eb dv e):yj (foot eb dv) p:=
 ⟨Vi g h.ks aY aY,Gq g h.kn,(h.bt.foot g).1,(h.bt.foot g).2,(h.ln.foot g).1,(h.ln.foot g).2,(h.dn.foot g).1,(h.dn.foot g).2⟩
theorem gj.offD {w:aq} {p:Pl} {m:Ms} (h:gj w p m) {eb:Nat} {d:De} (g:dD w eb d):yj (only eb) p:=
 ⟨Bk.apart h.ks g aY,Bk.apart h.kn g aY,Bk.apart h.bt.st g aY,Bk.apart h.bt.nd g aY,(h.ln.onl g).1,(h.ln.onl g).2,(h.dn.onl g).1,(h.dn.onl g).2⟩
theorem gj.kind {w:aq} {p:Pl} {m:Ms} (h:gj w p m):pd w p.kb 0 p.kg 0 1 m.kind:=
 ⟨h.ks.cell 0,h.ks.cell 1,h.kn,Bk.apart h.ks h.kn aY,h.ks.lt⟩
theorem gj.fr {S:Nat->Prop} {w:aq} {p:Pl} {m:Ms} (h:gj w p m) (k:Fr S w w') (g:yj S p):gj w' p m:=
 ⟨h.ks.fr k g.kb,h.kn.fr k g.kg,h.bt.fr k g.bb g.bg,h.ln.fr k g.lb g.lg,h.dn.fr k g.db g.dg,h.a1,h.a2,h.a3,h.a4,h.a5,h.a6⟩
theorem gj.below {w:aq} {p:Pl} {m:Ms} (h:gj w p m) (hb:Below w w w'):gj w' p m:=
 ⟨h.ks.below hb h.ks.lt,h.kn.below hb h.kn.lt,h.bt.below hb,h.ln.below hb,h.dn.below hb,h.a1,h.a2,h.a3,h.a4,h.a5,h.a6⟩
theorem gj.drew {w:aq} {p:Pl} {m:Ms} (h:gj w p m):gj w.drew p m:=
 ⟨h.ks,h.kn,h.bt.drew,h.ln.drew,h.dn.drew,h.a1,h.a2,h.a3,h.a4,h.a5,h.a6⟩
theorem gj.drewN {w:aq} {p:Pl} {m:Ms} (h:gj w p m) (n:Nat):gj (w.drewN n) p m:=
 ⟨h.ks,h.kn,⟨h.bt.st,h.bt.nd⟩,h.ln,h.dn,h.a1,h.a2,h.a3,h.a4,h.a5,h.a6⟩
theorem gj.setK {S T:Nat->Prop} {w:aq} {p:Pl} {m:Ms} (h:gj w p m) (q:Fr S w w') (g:∀k,S k->k=p.kg\/T k) (l:yj T p) (u:Bk w' p.kg 3 (nc t)):gj w' p { m with kind:=t } :=by
 have key:∀k,k≠p.kg->¬T k->¬S k:=λk h1 h2 a7=>Jg
 exact⟨h.ks.fr q (key _ (Bk.apart h.ks h.kn aY) l.kb),u,h.bt.fr q (key _ (Bk.apart h.bt.st h.kn aY) l.bb) (key _ (Ne.symm h.a1) l.bg),h.ln.fr q (key _ (Bk.apart h.ln.1 h.kn aY) l.lb) (key _ (Ne.symm h.a2) l.lg),
  h.dn.fr q (key _ (Bk.apart h.dn.1 h.kn aY) l.db) (key _ (Ne.symm h.a3) l.dg),h.a1,h.a2,h.a3,h.a4,h.a5,h.a6⟩
theorem gj.setB {S T:Nat->Prop} {w:aq} {p:Pl} {m:Ms} (h:gj w p m) (l:Fr S w w') (y:∀k,S k->k=p.bb\/k=p.bg\/T k) (g:yj T p) (z:lJ w' p.bb p.bg ts.flatten c):gj w' p { m with bytes:=ts,last:=c } :=by
 have key:∀k,k≠p.bb->k≠p.bg->¬T k->¬S k:=λk h1 q t u=>by rcases y k u with h|h|h;exact h1 h;exact q h;exact t h
 exact⟨h.ks.fr l (key _ (Bk.apart h.ks h.bt.st aY) (Bk.apart h.ks h.bt.nd aY) g.kb),h.kn.fr l (key _ (Bk.apart h.kn h.bt.st aY) h.a1 g.kg),z,
  h.ln.fr l (key _ (Bk.apart h.ln.1 h.bt.st aY) (Bk.apart h.ln.1 h.bt.nd aY) g.lb) (key _ (Bk.apart h.ln.2 h.bt.st aY) (Ne.symm h.a4) g.lg),
  h.dn.fr l (key _ (Bk.apart h.dn.1 h.bt.st aY) (Bk.apart h.dn.1 h.bt.nd aY) g.db) (key _ (Bk.apart h.dn.2 h.bt.st aY) (Ne.symm h.a5) g.dg),h.a1,h.a2,h.a3,h.a4,h.a5,h.a6⟩
theorem gj.setL {S T:Nat->Prop} {w:aq} {p:Pl} {m:Ms} (h:gj w p m) (q:Fr S w w') (g:∀k,S k->k=p.lg\/T k) (l:yj T p) (u:fp w' p.lb p.lg t):gj w' p { m with len:=t } :=by
 have key:∀k,k≠p.lg->¬T k->¬S k:=λk h1 h2 a7=>Jg
 exact⟨h.ks.fr q (key _ (Bk.apart h.ks h.ln.2 aY) l.kb),h.kn.fr q (key _ h.a2 l.kg),h.bt.fr q (key _ (Bk.apart h.bt.st h.ln.2 aY) l.bb) (key _ h.a4 l.bg),u,
  h.dn.fr q (key _ (Bk.apart h.dn.1 h.ln.2 aY) l.db) (key _ (Ne.symm h.a6) l.dg),h.a1,h.a2,h.a3,h.a4,h.a5,h.a6⟩
theorem gj.setD {S T:Nat->Prop} {w:aq} {p:Pl} {m:Ms} (h:gj w p m) (q:Fr S w w') (g:∀k,S k->k=p.dg\/T k) (l:yj T p) (u:fp w' p.db p.dg t):gj w' p { m with dist:=t } :=by have key:∀k,k≠p.dg->¬T k->¬S k:=λk h1 h2 a7=>Jg;exact⟨h.ks.fr q (key _ (Bk.apart h.ks h.dn.2 aY) l.kb),h.kn.fr q (key _ h.a3 l.kg),h.bt.fr q (key _ (Bk.apart h.bt.st h.dn.2 aY) l.bb) (key _ h.a5 l.bg),h.ln.fr q (key _ (Bk.apart h.ln.1 h.dn.2 aY) l.lb) (key _ h.a6 l.lg),u,h.a1,h.a2,h.a3,h.a4,h.a5,h.a6⟩
structure BM (B:Nat) (p:Pl):Prop where
 kb:B<=p.kb
 kg:B<=p.kg
 bb:B<=p.bb
 bg:B<=p.bg
 lb:B<=p.lb
 lg:B<=p.lg
 db:B<=p.db
 dg:B<=p.dg
def setC (p:Pl):Array aI:= #[.pointer (some ⟨p.kb,0,none⟩),.pointer (some ⟨p.bb,0,none⟩),.pointer (some ⟨p.lb,0,none⟩),.pointer (some ⟨p.db,0,none⟩)]
theorem Tk (w:aq):
  Calls prog 112 #[] w λx w'=>∃p,x=.returned (.agg (setC p))/\gj w' p m0/\BM w p/\Below w w w':=by
 obtain⟨S,R,y,a4,a7⟩:=ii (λW=>Z8K W) (λW=>Z72 W) (λW=>K2 W) ((bf w w).alloc aU (.cells #[.pointer none,.pointer none,.pointer none,.pointer none] 193)) (Bk.new w 193 #[.pointer none,.pointer none,.pointer none,.pointer none]);go_in;go_wp21;refine aP (S.out _) λw1 ⟨k1,k2,b1⟩=>?_;go_wp21;refine(R.out _).mono ?_;rintro x w2 ⟨bb,rfl,b0,k3,q⟩;go_wp21;refine(y.out _).mono ?_;rintro x E ⟨lb,rfl,a1,B,b3⟩;go_wp21;refine(y.out _).mono ?_;rintro x l ⟨db,rfl,a9,a2,k⟩;have z:(w.alloc (.cells #[.pointer none,.pointer none,.pointer none,.pointer none] 193))=w.heap.size+1:=World.size_alloc _ _;have s1:=b1.size;have a6:=q.size;have s3:=b3.size;have b8:=k.size;rw[z] at s1;have D:=k1.lt;have l2:=k2.lt;have b7:=k3.nd.lt;have l4:=B.2.lt;rw[z] at k1 k2 D l2;have c1:Below w1.heap.size w1 l:=(q.trans (b3.mono a6)).trans (k.mono O);have c2:Below w2 w2 l:=b3.trans (k.mono s3);have g:=(((a7.out.below b1 O).below q O).below b3 O).below k O;have Q:Below w w l:=(a4.out.trans (b1.mono O)).trans (c1.mono O);have a5:=g.cell 0;have q1:=g.cell 1;have q2:=g.cell 2;have q3:=g.cell 3;have f0:=g.frozen 0;have f1:=g.frozen 1;have b5:=g.frozen 2;have b6:=g.frozen 3;simp at a5 q1 q2 q3;have hF:=(((g.put 0 (.pointer (some ⟨w+1+1,0,none⟩))).put 1 (.pointer (some ⟨bb,0,none⟩))).put 2 (.pointer (some ⟨lb,0,none⟩))).put 3 (.pointer (some ⟨db,0,none⟩));have F:=hF.cell 0;have G:=hF.cell 1;have I:=hF.cell 2;have M:=hF.cell 3;simp at F G I M;have t:=J ((((Q.setCell (p:=⟨w,0,none⟩) aU (.pointer (some ⟨w+1+1,0,none⟩))).setCell (p:=⟨w,1,none⟩) aU (.pointer (some ⟨bb,0,none⟩))).setCell (p:=⟨w,2,none⟩) aU (.pointer (some ⟨lb,0,none⟩))).setCell (p:=⟨w,3,none⟩) aU (.pointer (some ⟨db,0,none⟩)))
 have a3:gj l ⟨w+1+1,w.heap.size+1,bb,w1.heap.size,lb,w2.heap.size,db,E.heap.size⟩ m0:=
  ⟨k2.below c1 l2,k1.below c1 D,(show lJ w2 bb w1.heap.size m0.bytes.flatten 0 from by rw[show m0.bytes.flatten=List.replicate 2048 1024 from ZiA];exact k3).below c2,B.below k,a2,dz,dz,dz,dz,dz,dz⟩
 have a0:=a3.fr (((((Fr.refl (only w.heap.size) l).setCell (p:=⟨w,0,none⟩) (.inl rfl) (.pointer (some ⟨w+1+1,0,none⟩))).setCell (p:=⟨w,1,none⟩) (.inl rfl) (.pointer (some ⟨bb,0,none⟩))).setCell (p:=⟨w,2,none⟩) (.inl rfl) (.pointer (some ⟨lb,0,none⟩))).setCell (p:=⟨w,3,none⟩) (.inl rfl) (.pointer (some ⟨db,0,none⟩)))
  (by constructor<;>simp only[only]<;>omega);have a8:=J a0;have u:Hid (BM w ⟨w+1+1,w.heap.size+1,bb,w1.heap.size,lb,w2.heap.size,db,E.heap.size⟩):=J (by constructor<;>simp only<;>omega);go_wp21;refine bodyPost_ret (v:=.agg #[.pointer (some ⟨w+1+1,0,none⟩),.pointer (some ⟨bb,0,none⟩),.pointer (some ⟨lb,0,none⟩),.pointer (some ⟨db,0,none⟩)]) (by simp[results,results112,go_sem,F,G,I,M];try rfl) rfl ?_;exact⟨_,rfl,a8.out,u.out,t.out⟩
def qY (t:Pc):Array aI:= #[.int .i64 (t.len:Int),.int .i64 (t.dist:Int),.int .u8 (t.byte.toNat:Int)]
structure kJ (w:World) (p:Pl) (mb cb eb:Nat) (dv:Value) (x:Ms×En):Prop where
 ms:gj w p x.1
 en:dY w eb dv x.2
 mc:Bk w mb 193 (setC p)
 cc:Bk w cb 195 #[.pointer (some ⟨eb,0,none⟩)]
def QA (p:Pl) (eb:Nat) (dv:aI):Nat->Prop:=λk=>k=p.kg\/k=p.bb\/k=p.bg\/k=p.lg\/k=p.dg\/foot eb dv k
theorem Ln {p:Pl} {eb:Nat} {dv:aI} (R:g=p.kg\/g=p.lg\/g=p.dg):∀k,tc g eb dv k->QA p eb dv k:=λk h=>ND
theorem Zlt {p:Pl} {eb:Nat} {dv:aI} :∀k,MB p.bb p.bg eb dv k->QA p eb dv k:=λk h=>by rcases h with h|h|h;exact .inr (.inl h);exact .inr (.inr (.inl h));exact .inr (.inr (.inr (.inr (.inr h))))
theorem Kf {p:Pl} {eb:Nat} {dv q:aI} {w w1 w2:aq} (h:Fr (QA p eb dv) w w1) (k:Fr (QA p eb q) w1 w2) (l:Zu w dv q):Fr (QA p eb dv) w w2:=
 h.trans' k (λi hi g=>by rcases g with g|g|g|g|g|g|g;exact .inl g;exact .inr (.inl g);exact .inr (.inr (.inl g));exact .inr (.inr (.inr (.inl g)));exact .inr (.inr (.inr (.inr (.inl g))));exact .inr (.inr (.inr (.inr (.inr (.inl g)))));rcases l with l|l;exact .inr (.inr (.inr (.inr (.inr (.inr (l▸g))))));have:=l i g;omega)
theorem Ke {w:aq} {p:Pl} {m:Ms} (h:gj w p m) {eb:Nat} {dv:aI} {e:En} (y:dY w eb dv e) {t:TypeId} {l:Array aI} (hb:Bk w b t l) (h1:t≠237) (q:5≠t) (k:t≠3) (u:t≠244):¬QA p eb dv b:=λg=>by rcases g with g|g|g|g|g|g;exact Bk.apart hb h.kn k g;exact Bk.apart hb h.bt.st u g;exact Bk.apart hb h.bt.nd k g;exact Bk.apart hb h.ln.2 k g;exact Bk.apart hb h.dn.2 k g;exact Vi y hb h1 q g
theorem kJ.mk_next {w:aq} {p:Pl} {mb cb eb:Nat} {dv g:aI} {x y:Ms×En} (h:kJ w p mb cb eb dv x) (k:Fr (QA p eb dv) w w') (q:gj w' p y.1) (l:dY w' eb g y.2):kJ w' p mb cb eb g y:=
 ⟨q,l,h.mc.fr k (Ke h.ms h.en h.mc aY aY aY aY),h.cc.fr k (Ke h.ms h.en h.cc aY aY aY aY)⟩
theorem kJ.below {w:aq} {p:Pl} {mb cb eb:Nat} {dv:aI} {x:Ms×En} (h:kJ w p mb cb eb dv x) (hb:Below w w w'):kJ w' p mb cb eb dv x:=
 ⟨h.ms.below hb,h.en.below hb,h.mc.below hb h.mc.lt,h.cc.below hb h.cc.lt⟩
section
variable {w:aq} {p:Pl} {mb cb eb:Nat} {dv:aI} {x:Ms×En}
theorem Zq7 (n v:Nat) (t:List Nat) (e:En) (h:t.length=2 ^ n):Z42 n 0 v 1 t e=fM n v 1 t e:=by obtain⟨a,b⟩:=VH n 0 v 1 (2 ^ n) (t:=t) (e:=e) O O;exact O2
theorem Uq (h:kJ w p mb cb eb dv x) (F:fo x.1) (D:dE 0 x.2) (b:Nat) (hb:b<2) (B:x.2.out.length<=800000):
  cK 115 #[(p.kb,0),(eb,0),b] w λr w'=>r=.returned (.tuple #[])/\∃q,kJ w' p mb cb eb q (gx b x)/\Fr (QA p eb dv) w w'/\Zu w dv q:=by have u:=h.ms.offE h.en;refine(TM h.ms.kind O Fw Fw F.k.1 h.en u.kb D b O B).mono ?_;rintro r w1 ⟨rfl,y,G,t,g,E⟩;rw[Zq7 1 b _ _ F.k.2] at y t;have l:=g.mono (Ln (p:=p) (.inl rfl));exact⟨rfl,G,h.mk_next l (h.ms.setK g (λk z=>z) u y.nd) t,l,E⟩
theorem Zh4 (h:kJ w p mb cb eb dv x) (t:fo x.1) (E:dE 0 x.2) (c:cj) (z:x.2.out.length<=800000):
  cK 116 #[(p.bb,0),(eb,0),.int .u8 (c.toNat:Int)] w λr w'=>r=.returned (.tuple #[])/\∃q,kJ w' p mb cb eb q (rB c x)/\Fr (QA p eb dv) w w'/\Zu w dv q:=by have B:=h.ms.offE h.en;refine(Zed h.ms.bt t.b t.bl h.en E c z).mono ?_;rintro r w1 ⟨rfl,D,G,u,g,F⟩;have l:=g.mono (Zlt (p:=p));exact⟨rfl,G,h.mk_next l (h.ms.setB g (λk y=>y) B D) u,l,F⟩
theorem Zkm (h:kJ w p mb cb eb dv x) (B:fo x.1) (F:dE 0 x.2) (v:Nat) (I:v<4611686018427387904) (z:x.2.out.length<=800000):
  cK 117 #[(p.lb,0),(eb,0),v] w λr w'=>r=.returned (.tuple #[])/\∃t,kJ w' p mb cb eb t (nQ v x)/\Fr (QA p eb dv) w w'/\Zu w dv t:=by have D:=h.ms.offE h.en;refine(K0 h.ms.ln B.l h.en F v I z).mono ?_;rintro r w1 ⟨rfl,E,M,u,g,G⟩;have q:=g.mono (Ln (p:=p) (.inr (.inl rfl)));exact⟨rfl,M,h.mk_next q (h.ms.setL g (λk y=>y) D E) u,q,G⟩
theorem Zh5 (h:kJ w p mb cb eb dv x) (z:fo x.1) (E:dE 0 x.2) (v:Nat) (G:v<4611686018427387904) (y:x.2.out.length<=800000):
  cK 117 #[(p.db,0),(eb,0),v] w λr w'=>r=.returned (.tuple #[])/\∃q,kJ w' p mb cb eb q (tu v x)/\Fr (QA p eb dv) w w'/\Zu w dv q:=by have B:=h.ms.offE h.en;refine(K0 h.ms.dn z.d h.en E v G y).mono ?_;rintro r w1 ⟨rfl,D,I,t,g,F⟩;have l:=g.mono (Ln (p:=p) (.inr (.inr rfl)));exact⟨rfl,I,h.mk_next l (h.ms.setD g (λk u=>u) B D) t,l,F⟩
end
theorem Gv (b:Nat) (x:Ms×En):(gx b x).2.out<=x.2.out.length+2:=KR b 1 1 x.1.kind x.2
theorem Zhp (c:cj) (x:Ms×En):(rB c x).2.out<=x.2.out.length+16:=KR c.toNat 8 1 (Z1p x.1) x.2
theorem Vv (g:v<4611686018427387904) (x:Ms×En):(nQ v x).2.out<=x.2.out.length+134:=K1 v g (x.1.len,x.2)
theorem Zif (g:v<4611686018427387904) (x:Ms×En):(tu v x).2.out<=x.2.out.length+134:=K1 v g (x.1.dist,x.2)
theorem V1 {t:Pc} (h1:t.len<=1000000) (g:t.dist<=1000000) (k:t.dist=0/\1<=t.len\/2<=t.len) (x:Ms×En):(lB t x).2.out<=x.2.out.length+135*t.len:=by unfold lB;split;have a:=Gv 0 x;have b:=Zhp t.byte (gx 0 x);omega;have a:=Gv 1 x;have b:=Vv (v:=t.len-2) O (gx 1 x);have c:=Zif (v:=t.dist-1) O (nQ (t.len-2) (gx 1 x));omega
theorem Z8G {w:aq} {p:Pl} {mb cb eb:Nat} {dv:aI} {x:Ms×En} (h:kJ w p mb cb eb dv x) (Q:fo x.1) (R:dE 0 x.2) (t:Pc) (h1:t.len<=1000000) (e6:t.dist<=1000000) (e7:t.dist=0/\1<=t.len\/1<=t.dist/\2<=t.len) (h7:x.2.out.length<=700000):
  Calls prog 114 #[.agg (qY t),(mb,0),(cb,0)] w λr w'=>r=.returned (.tuple #[])/\∃b5,kJ w' p mb cb eb b5 (lB t x)/\Fr (QA p eb dv) w w'/\Zu w dv b5:=by
 have I:=J (λ(o:Obj)=>h.below ((bf w w).alloc aU o));obtain⟨tl,td,tb⟩:=t;simp only at h1 e6 e7;unfold qY;simp only
 have M:Hid (∀(W:aq) (d:aI) (y:Ms×En),kJ W p mb cb eb d y->W.cell? (mb,0)=(p.kb,0)/\W.cell? (mb,1)=(p.bb,0)/\W.cell? (mb,2)=(p.lb,0)/\W.cell? (mb,3)=(p.db,0)/\W.cell? (cb,0)=(eb,0)):=
  J (λW d y k=>⟨k.mc.cell 0,k.mc.cell 1,k.mc.cell 2,k.mc.cell 3,k.cc.cell 0⟩)
 have a4:Hid (∀(W W':aq) (d:aI) (y:Ms×En) (a b c:aI),kJ W p mb cb eb d y->Fr (QA p eb d) W W'->Bk W w 198 #[a,b,c]->Bk W' w 198 #[a,b,c]):=
  J (λW W' d y a b c k a5 hb=>hb.fr a5 (Ke k.ms k.en hb aY aY aY aY));have b6:=J (λ(W':aq) (o:Obj) (d:aI) (a5:Fr (QA p eb dv) (w.alloc o) W') (e9:Zu (w.alloc o) dv d)=>(⟨((Fr.refl (QA p eb dv) w).alloc o).trans a5,(Zu.refl w dv).trans e9 (by simp)⟩:Fr (QA p eb dv) w W'/\Zu w dv d));have b7:=Gv 0 x;have b8:=Gv 1 x;obtain⟨oP,c6⟩:=XA (b:=0) Q R;obtain⟨us,b2⟩:=XA (b:=1) Q R;obtain⟨c0,c1,c2,g6,g7⟩:=M.out _ _ _ h;have e8:=h.mc.lt;have g5:=h.cc.lt;by_cases hd:td=0
 .subst hd;have a6:lB ⟨tl,0,tb⟩ x=rB tb (gx 0 x):=rfl;rw[a6];have a0:=J (λ(W:aq) (g:kJ W p mb cb eb dv x)=>Uq g Q R 0 O O);have b0:=J (λ(W:aq) (d:aI) (g:kJ W p mb cb eb d (gx 0 x))=>Zh4 g oP c6 tb O);generalize gx 0 x=y at*;generalize rB tb y=z at*;obtain⟨B,a3⟩:=ay tb.toNat;rw[a3] at b0⊢;have a7:=J (Bk.new w 198 #[tl,((0:Nat):Int),.int .u8 (B:Int)]);go_in;go_wp21;refine aP (a0.out _ (I.out _)) λw1 ⟨d4,q,D,a8⟩=>?_;have l:=a4.out _ _ _ _ _ _ _ (I.out _) D a7.out;obtain⟨e0,d7,d8,d9,e5⟩:=M.out _ _ _ q;have t0:=l.cell 0;have t1:=l.cell 1;have f5:=l.cell 2;simp at t0 t1 f5;obtain⟨E,F⟩:=b6.out _ _ _ D a8;have a1:=E.size;go_wp21;refine aP (b0.out _ _ q) λw2 ⟨b4,S,G,a2⟩=>?_;go_wp2;first|go_end0|go_returns
  exact⟨rfl,b4,S,Kf E G F,F.trans a2 a1⟩
 have a6:lB ⟨tl,td,tb⟩ x=tu (td-1) (nQ (tl-2) (gx 1 x)):=(by unfold lB;rw[Vae hd]);rw[a6];have g8:=Vv (v:=tl-2) O (gx 1 x);obtain⟨lv,a9⟩:=Gw (v:=tl-2) us b2;obtain⟨a0,b1,Hd⟩:=bD (λ(W:aq) (g:kJ W p mb cb eb dv x)=>Uq g Q R 1 O O) (λ(W:aq) (d:aI) (g:kJ W p mb cb eb d (gx 1 x))=>Zkm g us b2 (tl-2) O O) (λ(W:aq) (d:aI) (g:kJ W p mb cb eb d (nQ (tl-2) (gx 1 x)))=>Zh5 g lv a9 (td-1) O O);generalize gx 1 x=y at*;generalize nQ (tl-2) y=u at*;generalize tu (td-1) u=z at*;obtain⟨B,a3⟩:=ay tb.toNat;rw[a3];have a7:=J (Bk.new w 198 #[tl,td,.int .u8 (B:Int)]);have i1:(tl:Int)-2=((tl-2:Nat):Int):=O;have f2:(td:Int)-1=((td-1:Nat):Int):=O;have h8:((td:Int)==0)=false:=W4P;obtain⟨f7,c9⟩:=ay (tl-2);obtain⟨f6,f3⟩:=ay (td-1);rw[c9] at b1 i1;rw[f3] at Hd f2;go_in;go_wp21;refine aP (a0.out _ (I.out _)) λw1 ⟨d4,q,D,a8⟩=>?_;have l:=a4.out _ _ _ _ _ _ _ (I.out _) D a7.out;obtain⟨e0,d7,d8,d9,e5⟩:=M.out _ _ _ q;have t0:=l.cell 0;have t1:=l.cell 1;simp at t0 t1;obtain⟨E,F⟩:=b6.out _ _ _ D a8;have a1:=E.size;have c8:=J l;go_wp21;refine aP (b1.out _ _ q) λw2 ⟨b4,S,G,a2⟩=>?_;have aa:=a4.out _ _ _ _ _ _ _ q G c8.out;obtain⟨g9,h0,h4,h5,h6⟩:=M.out _ _ _ S;have f8:=aa.cell 0;have f9:=aa.cell 1;simp at f8 f9;have b9:=Kf E G F;have b3:=F.trans a2 a1;have d6:=b9.size;go_wp21;refine aP (Hd.out _ _ S) λh9 ⟨d5,c5,c7,f4⟩=>?_;go_wp2;first|go_end0|go_returns
 exact⟨rfl,d5,c5,Kf b9 c7 b3,b3.trans f4 d6⟩
end
variable{B1 B2 B3 T bb cb g i ib ie k nc np sb td tl:Nat}{W W' W0 w w2 wr:aq}{p:Addr}{seen:Bool}{v:aI}
def ua:aI:=.agg #[(9:Int),(12:Int),(1:Int),(1:Int)]
theorem Zbr (t:Pc) (h1:t.len<=4096) (k:t.dist<=4096) (w:aq):
  Calls prog 194 #[ua,.agg (qY t)] w (bM w ((price t:Nat):Int)):=by
 obtain⟨tl,td,tb⟩:=t;simp only at h1 k;have p:price ⟨tl,td,tb⟩=if td=0 then 9 else 12+eO td+eO tl:=rfl;rw[p];unfold qY ua;simp only;have l:=J (((bf w w).alloc aU (.cells #[(9:Int),(12:Int),(1:Int),(1:Int)] 231)).alloc (by simp) (.cells #[tl,td,.int .u8 (tb.toNat:Int)] 198));generalize (tb.toNat:Int)=B at*;clear p;by_cases hd:td=0;.rw[Vag hd];subst hd;go_in;go_wp2;go_returns;exact⟨rfl,l.out⟩
 rw[Vae hd];have D:((td:Int)==0)=false:=W4P;have Hd:=λW=>KA td O W;have g:=λW=>KA tl O W;have wd:(td:Int)=IntKind.u64.wrap (td:Int):=(by rw[IntKind.wrap_u64];omega);have q:(tl:Int)=IntKind.u64.wrap (tl:Int):=(by rw[IntKind.wrap_u64];omega);rw[wd] at Hd;rw[q] at g;have u:Hid (IntKind.i64.wrap (IntKind.i64.wrap (12+IntKind.i64.wrap (eO td:Nat))+IntKind.i64.wrap (eO tl:Nat))=((12+eO td+eO tl:Nat):Int)):=J (by have b1:=Bh h1;have z:=Bh k;simp only[IntKind.wrap_i64];omega);have b1:=Bh h1;have z:=Bh k;have Hd:=J Hd;have g:=J g;generalize eO td=x at*;generalize eO tl=y at*;clear wd q hd;go_in;go_wp2;go_quiet ((go_at_call 154;first|(with_reducible exact dq1 (Hd.out _))|(with_reducible exact dq1 (g.out _))));go_wp2;go_returns;exact⟨ZZ u.out,mN l.out _⟩
def BD (x:St):List aI:=[.int .i64 (x.cost:Int),.int .i64 (x.pcs:Int),.int .i64 (x.first.len:Int),.int .i64 (x.first.dist:Int),.int .u8 (x.first.byte.toNat:Int)]
def ou (L:List St):Array aI:=(L.flatMap BD).toArray
theorem Z92 (L:List St) (k:Nat) (h:k<L):(ou L)[k*5]? =((L.getD k dU).cost:Int)/\(ou L)[k*5+1]? =((L.getD k dU).pcs:Int)/\(ou L)[k*5+2]? =((L.getD k dU).first.len:Int)/\(ou L)[k*5+3]? =((L.getD k dU).first.dist:Int)/\(ou L)[k*5+4]? =some (.int .u8 ((L.getD k dU).first.byte.toNat:Int)):=by
 unfold ou;simp only[mF];induction L generalizing k with
 |nil=>simp at h
 |cons x r ih=>
  cases k with
  |zero=>exact⟨rfl,rfl,rfl,rfl,rfl⟩
  |succ k=>
   obtain⟨a,b,c,d,e⟩:=ih k Ct;have key:∀j,((x::r).flatMap BD)[(k+1)*5+j]? =(r.flatMap BD)[k*5+j]? :=λj=>by rw[sW,pO (by show 5<=_;omega)];congr 1;show(k+1)*5+j-5=_;omega
   have g:=key 0;rw[tS,tS] at g;rw[IB,g,key,key,key,key];exact⟨a,b,c,d,e⟩
theorem ZnC (L:List St) (k:Nat) (x:St) (h:k<L):(((((ou L).setIfInBounds (k*5) x.cost).setIfInBounds (k*5+1) x.pcs).setIfInBounds (k*5+2) x.first.len).setIfInBounds (k*5+3) x.first.dist).setIfInBounds (k*5+4) (.int .u8 (x.first.byte.toNat:Int))=ou (L.set k x):=by
 apply pS.1;unfold ou;simp only[Array.toList_setIfInBounds];induction L generalizing k with
 |nil=>simp at h
 |cons y r ih=>
  cases k with
  |zero=>rfl
  |succ k=>
   have e:=ih k Ct;rw[List.set_cons_succ,sW,sW,<-e];have key:∀(l:List aI) (j:Nat) (v:aI),(BD y++l).set ((k+1)*5+j) v=BD y++l.set (k*5+j) v:=λl j v=>by rw[nj _ _ (by show 5<=_;omega)];congr 2;show(k+1)*5+j-5=_;omega
   have g:=λl v=>key l 0 v;simp only[tS] at g;rw[g,key,key,key,key]
structure mg (w:World) (T bb ib cb sb:Nat) (L:List St) (i:Nat) (seen:Bool):Prop where
 tb:Bk w T 277 (ou L)
 best:Bk w bb 275 #[.slice (some ⟨T,0,none⟩) L.length L.length]
 i:Bk w ib 3 #[i]
 c:Bk w cb 231 #[(9:Int),(12:Int),(1:Int),(1:Int)]
 sn:Bk w sb 4 #[seen]
theorem mg.below {w':aq} {L:List St} (h:mg w T bb ib cb sb L i seen) (hb:Below w w w'):mg w' T bb ib cb sb L i seen:=
 ⟨h.tb.below hb h.tb.lt,h.best.below hb h.best.lt,h.i.below hb h.i.lt,h.c.below hb h.c.lt,h.sn.below hb h.sn.lt⟩
theorem mg.drewN {L:List St} (h:mg w T bb ib cb sb L i seen) (n:Nat):mg (w.drewN n) T bb ib cb sb L i seen:=⟨h.tb,h.best,h.i,h.c,h.sn⟩
theorem mg.set {L:List St} (h:mg w T bb ib cb sb L i seen) (u:k<L) (x:St):
  mg ((((((w.setCell ⟨T,k*5,none⟩ x.cost).setCell ⟨T,k*5+1,none⟩ x.pcs).setCell ⟨T,k*5+2,none⟩ x.first.len).setCell ⟨T,k*5+3,none⟩ x.first.dist).setCell ⟨T,k*5+4,none⟩ (.int .u8 (x.first.byte.toNat:Int))).setCell ⟨sb,0,none⟩ (.bool true)) T bb ib cb sb (L.set k x) i true:=by
 have l:Fr (only T) w (((((w.setCell ⟨T,k*5,none⟩ x.cost).setCell ⟨T,k*5+1,none⟩ x.pcs).setCell ⟨T,k*5+2,none⟩ x.first.len).setCell ⟨T,k*5+3,none⟩ x.first.dist).setCell ⟨T,k*5+4,none⟩ (.int .u8 (x.first.byte.toNat:Int))):=
  (((((Fr.refl (only T) w).setCell (p:=⟨T,k*5,none⟩) (.inl rfl) _).setCell (p:=⟨T,k*5+1,none⟩) (.inl rfl) _).setCell (p:=⟨T,k*5+2,none⟩) (.inl rfl) _).setCell (p:=⟨T,k*5+3,none⟩) (.inl rfl) _).setCell (p:=⟨T,k*5+4,none⟩) (.inl rfl) _;have q:=((((h.tb.put (k*5) x.cost).put (k*5+1) x.pcs).put (k*5+2) x.first.len).put (k*5+3) x.first.dist).put (k*5+4) (.int .u8 (x.first.byte.toNat:Int));rw[ZnC L k x u] at q;have g:=h.sn.fr l (Bk.apart h.sn h.tb aY);have hb:=h.best.fr l (Bk.apart h.best h.tb aY);have hi:=h.i.fr l (Bk.apart h.i h.tb aY);have t:=h.c.fr l (Bk.apart h.c h.tb aY);refine⟨q.off (p:=⟨sb,0,none⟩) (Bk.apart q g aY) _,?_,hi.off (p:=⟨sb,0,none⟩) (Bk.apart hi g aY) _,t.off (p:=⟨sb,0,none⟩) (Bk.apart t g aY) _,g.put 0 _⟩;rw[od];exact hb.off (p:=⟨sb,0,none⟩) (Bk.apart hb g aY) _
def zN (L:List St) (i:Nat) (t:Pc):St:=⟨(L.getD (i+t.len) dU).cost+price t,(L.getD (i+t.len) dU).pcs+1,t⟩
theorem mg.cells {L:List St} (h:mg w T bb ib cb sb L i seen):w.cell? (bb,0)=some (.slice (some (T,0)) L L)/\w.cell? (ib,0)=i/\w.cell? (cb,0)=(9:Int)/\w.cell? (cb,1)=(12:Int)/\w.cell? (cb,2)=(1:Int)/\w.cell? (cb,3)=(1:Int)/\w.cell? (sb,0)=seen:=
 ⟨h.best.cell 0,h.i.cell 0,h.c.cell 0,h.c.cell 1,h.c.cell 2,h.c.cell 3,h.sn.cell 0⟩
theorem mg.at {L:List St} (h:mg w T bb ib cb sb L i seen) (g:k<L):w.cell? ⟨T,k*5,none⟩=((L.getD k dU).cost:Int)/\w.cell? ⟨T,k*5+1,none⟩=((L.getD k dU).pcs:Int)/\w.cell? ⟨T,k*5+2,none⟩=((L.getD k dU).first.len:Int)/\w.cell? ⟨T,k*5+3,none⟩=((L.getD k dU).first.dist:Int)/\w.cell? ⟨T,k*5+4,none⟩=some (.int .u8 ((L.getD k dU).first.byte.toNat:Int)):=by obtain⟨a,b,c,d,e⟩:=Z92 L k g;exact⟨(h.tb.cell _).trans a,(h.tb.cell _).trans b,(h.tb.cell _).trans c,(h.tb.cell _).trans d,(h.tb.cell _).trans e⟩
theorem wl (h:W.cell? p=some v) (hb:Below W W W'):W'.cell? p=some v:=by have g:p.block<W:=O5;rw[hb.cell g];exact h
theorem wo {q:Addr} {u:aI} (h:W.cell? p=some v) (g:q.block≠p.block):(W.setCell q u).cell? p=some v:=by have k:Fr (only q.block) W (W.setCell q u):=(Fr.refl (only q.block) W).setCell (p:=q) (.inl rfl) u;have l:p.block<W:=O5;rw[k.cell l (λe=>g e.symm)];exact h
abbrev kp (W0:aq) (B1 B2 B3:Nat) (nc np tl td ie:Nat) (W:aq):Prop:=
 W.cell? ⟨B1,0,none⟩=nc/\W.cell? ⟨B1,1,none⟩=np/\W.cell? ⟨B2,0,none⟩=tl/\W.cell? ⟨B2,1,none⟩=td/\W.cell? ⟨B2,2,none⟩=some (.int .u8 (ie:Int))/\W.cell? ⟨B3,0,none⟩=(9:Int)/\W.cell? ⟨B3,1,none⟩=(12:Int)/\W.cell? ⟨B3,2,none⟩=(1:Int)/\W.cell? ⟨B3,3,none⟩=(1:Int)/\Below W0 W0 W
theorem kp.below (h:kp W0 B1 B2 B3 nc np tl td ie W) (hb:Below W W W'):kp W0 B1 B2 B3 nc np tl td ie W':=
 ⟨wl h.1 hb,wl h.2.1 hb,wl h.2.2.1 hb,wl h.2.2.2.1 hb,wl h.2.2.2.2.1 hb,wl h.2.2.2.2.2.1 hb,wl h.2.2.2.2.2.2.1 hb,wl h.2.2.2.2.2.2.2.1 hb,wl h.2.2.2.2.2.2.2.2.1 hb,h.2.2.2.2.2.2.2.2.2.trans (hb.mono h.2.2.2.2.2.2.2.2.2.size)⟩
theorem kp.belowb (hb:Below W W W') (h:kp W0 B1 B2 B3 nc np tl td ie W):kp W0 B1 B2 B3 nc np tl td ie W':=h.below hb
theorem kp.dralloc (h:kp W0 B1 B2 B3 nc np tl td ie W.drew) (o:Obj):kp W0 B1 B2 B3 nc np tl td ie (W.alloc o).drew:=h.below ((bf W.drew W.drew).alloc aU o)
theorem kp.alloc (h:kp W0 B1 B2 B3 nc np tl td ie W) (o:Obj):kp W0 B1 B2 B3 nc np tl td ie (W.alloc o):=h.below ((bf _ _).alloc aU o)
theorem kp.put (h:kp W0 B1 B2 B3 nc np tl td ie W) {r:Nat} (g:W0<=r) (h1:B1<W0) (k:B2<W0) (l:B3<W0) (a b c d e:aI):kp W0 B1 B2 B3 nc np tl td ie (((((W.setCell ⟨r,0,none⟩ a).setCell ⟨r,1,none⟩ b).setCell ⟨r,2,none⟩ c).setCell ⟨r,3,none⟩ d).setCell ⟨r,4,none⟩ e):=by
 have go:∀ {W:aq} (i:Nat) (u:aI),kp W0 B1 B2 B3 nc np tl td ie W->kp W0 B1 B2 B3 nc np tl td ie (W.setCell (r,i) u):=λi u h=>
  ⟨wo h.1 (by show r≠B1;omega),wo h.2.1 (by show r≠B1;omega),wo h.2.2.1 (by show r≠B2;omega),wo h.2.2.2.1 (by show r≠B2;omega),wo h.2.2.2.2.1 (by show r≠B2;omega),wo h.2.2.2.2.2.1 Fj,wo h.2.2.2.2.2.2.1 Fj,wo h.2.2.2.2.2.2.2.1 Fj,wo h.2.2.2.2.2.2.2.2.1 Fj,h.2.2.2.2.2.2.2.2.2.setCell (p:=⟨r,i,none⟩) g u⟩;exact go 4 e (go 3 d (go 2 c (go 1 b (go 0 a h))))
theorem lvA (aa:Below (wr.alloc (.cells #[(0:Int),(0:Int),(0:Int),(0:Int),.int .u8 0] 277)).drew (wr.alloc (.cells #[(0:Int),(0:Int),(0:Int),(0:Int),.int .u8 0] 277)).drew w2):Bk w2 wr 277 #[(0:Int),(0:Int),(0:Int),(0:Int),.int .u8 0]/\Below wr wr w2:=
  ⟨Bk.below (show Bk (wr.alloc (.cells #[(0:Int),(0:Int),(0:Int),(0:Int),.int .u8 0] 277)).drew wr 277 #[(0:Int),(0:Int),(0:Int),(0:Int),.int .u8 0] from Bk.new _ _ _) aa (by show wr.heap.size<(wr.alloc _);simp),
   ((bf wr wr).alloc aU (.cells #[(0:Int),(0:Int),(0:Int),(0:Int),.int .u8 0] 277)).drew.trans (aa.mono (by show wr.heap.size<=(wr.alloc _);rw[World.size_alloc];omega))⟩
theorem lvB (aa:Below wr.drew wr.drew w2):Below wr wr w2:=((bf wr wr).drew).trans (aa.mono aU)
theorem Ziy {t:TypeId} (h:Bk w g t #[(0:Int),(0:Int),(0:Int),(0:Int),.int .u8 0]) (a b c d e:aI):Bk (((((w.setCell ⟨g,0,none⟩ a).setCell ⟨g,1,none⟩ b).setCell ⟨g,2,none⟩ c).setCell ⟨g,3,none⟩ d).setCell ⟨g,4,none⟩ e) g t #[a,b,c,d,e]:=((((h.put 0 a).put 1 b).put 2 c).put 3 d).put 4 e
theorem Zbh {wb:aq} {B:Nat} (h:Below B wb w) (k:B<=g) (a b c d e:aI):Below B wb (((((w.setCell ⟨g,0,none⟩ a).setCell ⟨g,1,none⟩ b).setCell ⟨g,2,none⟩ c).setCell ⟨g,3,none⟩ d).setCell ⟨g,4,none⟩ e):=
 ((((h.setCell (p:=⟨g,0,none⟩) k a).setCell (p:=⟨g,1,none⟩) k b).setCell (p:=⟨g,2,none⟩) k c).setCell (p:=⟨g,3,none⟩) k d).setCell (p:=⟨g,4,none⟩) k e
theorem ZiW {w : aq} {T bb ib cb sb : Nat} {L : List St} {i : Nat} {seen : Bool} (h : mg w T bb ib cb sb L i seen) (h9 : L.length <= 5000) (c6 : ∀ x ∈ L, x.cost <= 1000000 /\ x.pcs <= 1000000) (t : Pc) (h1 : t.len <= 4096) (D : t.dist <= 4096) (h0 : 1 <= t.len) (hi : i + t.len < L.length) :
    Calls prog 193 #[.agg (qY t),(bb,0),(ib,0),(cb,0),(sb,0)] w λx w'=>x=.returned (.tuple #[])/\mg w' T bb ib cb sb (if(!seen||DS (zN L i t) (L.getD i dU))=true then L.set i (zN L i t) else L) i true/\Fr (λk=>k=T\/k=sb) w w':=by
  have d5:=GC D h1;have S:=J (λW=>Zbr t h1 D W);unfold ua at S;obtain⟨b0,b8⟩:(L.getD (i+t.len) dU).cost<=1000000/\(L.getD (i+t.len) dU).pcs<=1000000:=c6 _ (by rw[pf,fb hi];exact dt _);obtain⟨b1,g6,b3,g7,g8,g9,h4⟩:=h.cells;obtain⟨a1,a2,a3,a4,a5⟩:=h.at hi;have f3:=h.tb.lt;have j9:=h.best.lt;have n1:=h.i.lt;have m5:=h.c.lt;have j7:=h.sn.lt;have H:=J h;have I:zN L i t=⟨(L.getD (i+t.len) dU).cost+price t,(L.getD (i+t.len) dU).pcs+1,t⟩:=rfl;obtain⟨tl,td,tb⟩:=t;unfold qY at*;simp only at h1 D h0 hi b0 b8 a1 a2 a3 a4 a5 I S⊢;obtain⟨nx,i9⟩:=ay (L.getD (i+tl) dU);rw[i9] at b0 b8 a1 a2 a3 a4 a5 I;obtain⟨nc,np,⟨c7,nd,nb⟩⟩:=nx;simp only at b0 b8 a1 a2 a3 a4 a5 I;obtain⟨j3,h8⟩:=ay (price ⟨tl,td,tb⟩);rw[h8] at d5 I S;rw[I];obtain⟨y,a9⟩:=ay (nc+j3);obtain⟨B,i0⟩:=ay (np+1);rw[a9,i0] at I⊢;have l3:(nc:Int)+j3=(y:Int):=O;have l5:(np:Int)+1=(B:Int):=O;have l6:IntKind.i64.wrap (y:Int)=(y:Int):=(by rw[IntKind.wrap_i64];omega);have l7:IntKind.i64.wrap (B:Int)=(B:Int):=(by rw[IntKind.wrap_i64];omega);have m3:y<=2000000/\B<=2000000:=O;have d8:i<L:=O;clear a9 i0;have j4:(i:Int)+tl<(L.length:Int):=O;have h6:(0:Int)<=i+(tl:Int):=O;obtain⟨ie,d6⟩:=ay tb.toNat;obtain⟨c5,f7⟩:=ay nb.toNat;rw[d6] at S⊢;rw[f7] at a5;have d9:=J d6;have f5:=J I;obtain⟨f8,e7⟩:=ay ((if(!seen||DS ⟨y,B,⟨tl,td,tb⟩⟩ (L.getD i dU))=true then L.set i ⟨y,B,⟨tl,td,tb⟩⟩ else L));rw[e7];have f9:=J e7;clear I i9 h8 d6 f7 h e7;go_in;go_upto_region 2 with fail;obtain⟨b9,c3,c4⟩:=bD (((bf w w).alloc aU (.cells #[tl,td,.int .u8 (ie:Int)] 198)).alloc (by simp) (.cells #[nc,np,c7,nd,.int .u8 (c5:Int)] 277)) ((Bk.new w 198 #[tl,td,.int .u8 (ie:Int)]).alloc (.cells #[nc,np,c7,nd,.int .u8 (c5:Int)] 277)) (Bk.newN (w.alloc (.cells #[tl,td,.int .u8 (ie:Int)] 198)) 277 #[nc,np,c7,nd,.int .u8 (c5:Int)] (n:=w.heap.size+1) (by simp));generalize (w.alloc (.cells #[tl,td,.int .u8 (ie:Int)] 198)).alloc (.cells #[nc,np,c7,nd,.int .u8 (c5:Int)] 277)=W0 at*;have a6:=J (H.out.below b9.out)
  have f2:Hid (∀W',Below W0 W0 W'->(W'.cell? (w.heap.size+1,0)=some (.int .i64 (nc:Int))/\W'.cell? (w.heap.size+1,1)=some (.int .i64 (np:Int))/\W'.cell? (w,0)=some (.int .i64 (tl:Int))/\W'.cell? (w,1)=some (.int .i64 (td:Int))/\W'.cell? (w,2)=some (.int .u8 (ie:Int))/\W'.cell? (cb,0)=some (.int .i64 9)/\W'.cell? (cb,1)=some (.int .i64 12)/\W'.cell? (cb,2)=some (.int .i64 1)/\W'.cell? (cb,3)=some (.int .i64 1))):=
    J (λW' hb=>by have j1:=c4.out.below hb c4.out.lt;have t0:=c3.out.below hb c3.out.lt;obtain⟨_,_,k0,l0,l1,l2,_⟩:=(a6.out.below hb).cells;exact⟨j1.cell 0,j1.cell 1,t0.cell 0,t0.cell 1,t0.cell 2,k0,l0,l1,l2⟩);obtain⟨k1,k2,k3,i3,i4,i5,i6,i7,i8⟩:=f2.out W0 (bf _ _);have e8:=c4.out.lt;have c8:=c3.out.lt;have c9:=a6.out.c.lt;clear b1 g6 b3 g7 g8 g9 h4 a1 a2 a3 a4 a5 j4 h6;go_cut [7] (λm9 wx=>∃b,m9=.pointer (some ⟨b,0,none⟩)/\Hid (Bk wx b 277 #[y,B,tl,td,.int .u8 (ie:Int)])/\Hid (Below W0 W0 wx)/\W0.heap.size<=b)
  case first=>
    clear b9 c3 c4 a6 H d9 f5 c6 b0 b8 d5 h9 h1 D h0 hi;have f6:kp W0 (w.heap.size+1) w cb nc np tl td ie W0.drew:=⟨k1,k2,k3,i3,i4,i5,i6,i7,i8,(bf _ _).drew⟩;unfold kp at f6;obtain⟨j6,m8,j8⟩:=bD e8 c8 c9;clear e8 c8 c9 f2
    go_region_held3 (λW=>W.cell? (w.heap.size+1,0)=nc/\W.cell? (w.heap.size+1,1)=np/\W.cell? (w,0)=tl/\W.cell? (w,1)=td/\W.cell? (w,2)=some (.int .u8 (ie:Int))/\W.cell? (cb,0)=(9:Int)/\W.cell? (cb,1)=(12:Int)/\W.cell? (cb,2)=(1:Int)/\W.cell? (cb,3)=(1:Int)/\Below W0 W0 W) (first|with_reducible assumption|with_reducible exact f6|with_reducible exact kp.alloc mi _|with_reducible exact kp.alloc R.out _|with_reducible exact kp.dralloc mi _|with_reducible exact kp.belowb mi mi|with_reducible exact kp.put mi (by first|exact aU|exact R.out.2.2.2.2.2.2.2.2.2.size) j6.out m8.out j8.out _ _ _ _ _)
      (first|(go_at_call 194;with_reducible refine(S.out _).mono ?_;rintro r n2 ⟨rfl,j0⟩;have R:Hid (kp W0 (w.heap.size+1) w cb nc np tl td ie n2):=J (kp.belowb j0 qB);first|((with_reducible (have F:=lvA j0));have m7:=F.1.cell 0;have q1:=F.1.cell 1;have q2:=F.1.cell 2;have q3:=F.1.cell 3;have q4:=F.1.cell 4;have o7:=F.1.frozen 0;have o8:=F.1.frozen 1;have o9:=F.1.frozen 2;have p5:=F.1.frozen 3;have p6:=F.1.frozen 4;simp at m7 q1 q2 q3 q4)|skip));. go_wp2;go_meet;case rel=>exact⟨_,rfl,J (Bk.new _ _ _),J (R.out.2.2.2.2.2.2.2.2.2.alloc R.out.2.2.2.2.2.2.2.2.2.size _),R.out.2.2.2.2.2.2.2.2.2.size⟩
    go_wp2;go_meet;case rel=>exact⟨_,rfl,J (Ziy F.1 _ _ _ _ _),J (Zbh R.out.2.2.2.2.2.2.2.2.2 aU _ _ _ _ _),aU⟩
  obtain⟨b,rfl,a0,d7,n9⟩:=hcut;have E:=a6.out.below d7.out;have e5:Fr (λk=>k=T\/k=sb) w wc:=Fr.of_below (b9.out.trans (d7.out.mono b9.out.size));clear k1 k2 k3 i3 i4 i5 i6 i7 i8 e8 c8 c9 b9 c3 c4 a6 H f2 S l3 l5 l6 l7 b0 b8 d5 d7 h1 D h0 hi;obtain⟨b1,g6,b3,g7,g8,g9,h4⟩:=E.cells;obtain⟨a1,a2,a3,a4,a5⟩:=E.at d8;have n3:=a0.out.cell 0;have n4:=a0.out.cell 1;have n5:=a0.out.cell 2;have n6:=a0.out.cell 3;have n7:=a0.out.cell 4;simp at n3 n4 n5 n6 n7;have j2:(L.getD i dU).cost<=1000000/\(L.getD i dU).pcs<=1000000:=c6 _ (by rw[pf,fb d8];exact dt _);have i2:DS ⟨y,B,⟨tl,td,tb⟩⟩ (L.getD i dU)=(decide (y<(L.getD i dU).cost)||(decide (y=(L.getD i dU).cost)&&decide (B<(L.getD i dU).pcs))):=rfl;have M:=f9.out;rw[i2] at M;obtain⟨cc,i1⟩:=ay ((L.getD i dU).cost);obtain⟨G,j5⟩:=ay ((L.getD i dU).pcs);rw[i1] at a1 j2 M;rw[j5] at a2 j2 M;have g:=J (λn=>(E.drewN n).set d8 ⟨y,B,⟨tl,td,tb⟩⟩);simp only at g;rw[d9.out] at g;have l:=J (λn (a b c d e f:aI)=>((((((e5.drewN n).setCell (p:=⟨T,i*5,none⟩) (.inl (.inl rfl)) a).setCell (p:=⟨T,i*5+1,none⟩) (.inl (.inl rfl)) b).setCell (p:=⟨T,i*5+2,none⟩) (.inl (.inl rfl)) c).setCell (p:=⟨T,i*5+3,none⟩) (.inl (.inl rfl)) d).setCell (p:=⟨T,i*5+4,none⟩) (.inl (.inl rfl)) e).setCell (p:=⟨sb,0,none⟩) (.inl (.inr rfl)) f);have o1:=E.tb.frozen (i*5);have o2:=E.tb.frozen (i*5+1);have o3:=E.tb.frozen (i*5+2);have o4:=E.tb.frozen (i*5+3);have o5:=E.tb.frozen (i*5+4);have o6:=E.sn.frozen 0;have j4:(i:Int)<L:=O;have h6:(0:Int)<=i:=O;have n8:sb≠T:=Bk.apart E.sn E.tb aY;have l8:T≠sb:=Ne.symm n8;have u:=J E;have q:=J e5;clear i1 j5 i2 a0 E e5 c6 h9 d9 f3 j9 n1 m5 j7 f5;clear f9
  have m6:(seen=false\/(seen=true/\(y<cc\/(y=cc/\B<G))))\/(seen=true/\(cc<y\/(y=cc/\¬B<G))):=by
    cases seen with
    |false=>exact .inl (.inl rfl)
    | true => rcases Nat.lt_trichotomy y cc with h | h | h;exact .inl (.inr ⟨rfl,.inl h⟩);by_cases D:B<G;exact .inl (.inr ⟨rfl,.inr ⟨h,D⟩⟩);exact .inr ⟨rfl,.inr ⟨h,D⟩⟩;. exact .inr ⟨rfl,.inl h⟩
  rcases m6 with h7|h5
  . have a8 : L.set i ⟨y, B, ⟨tl, td, tb⟩⟩ = f8 := by rw[<-M];rcases h7 with h|⟨h,D|⟨D,e9⟩⟩;rw[h];rfl;rw[h,dd D];rfl;rw[dd D,dd e9,h];simp
    have z:=J a8;clear M a8;rcases h7 with rfl|⟨rfl,ab|⟨Q,ab⟩⟩;exact NU;have a7:(y:Int)<cc:=O;have hd:decide ((y:Int)<cc)=true:=dd a7;have e6:decide (y<cc)=true:=dd ab;exact NU;subst Q;have m4:¬(y:Int)<y:=O;have a7:(B:Int)<G:=O;have hd:decide ((B:Int)<G)=true:=dd a7;have e6:decide (B<G)=true:=dd ab;have f4:decide (y<y)=false:=Vai (Nat.lt_irrefl _);exact NU
  have a8 : L = f8 := by rw[<-M];rcases h5 with ⟨h,D|⟨D,e9⟩⟩;rw[h,Vai (show ¬y<cc by omega),Vai (show ¬y=cc by omega)];rfl;rw[h,Vai (show ¬y<cc by omega),dd D,Vai e9];rfl
  have z:=J a8;clear M a8 g l;rcases h5 with ⟨rfl,ab|⟨Q,ab⟩⟩;have a7:¬(y:Int)<cc:=O;have e6:decide (y<cc)=false:=Vai O;have l9:decide (y=cc)=false:=Vai O;have o0:((y:Int)==cc)=false:=W4P;exact FJ;subst Q;have m4:¬(y:Int)<y:=O;have a7:¬(B:Int)<G:=O;have e6:decide (B<G)=false:=Vai ab;have f4:decide (y<y)=false:=Vai (Nat.lt_irrefl _);exact FJ
