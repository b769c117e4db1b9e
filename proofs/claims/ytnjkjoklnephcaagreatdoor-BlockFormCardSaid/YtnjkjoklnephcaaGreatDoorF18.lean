import Derived.Test.YtnjkjoklnephcaaGreatDoorF14
import Derived.Lib.EndianBits
import Derived.Test.YtnjkjoklnephcaaGreatDoorF15
set_option linter.all false
set_option maxRecDepth 100000
set_option maxHeartbeats 0
open Go.Proofs.Tryz (prog results115 underlying284 underlying5 underlying88 underlying9)
section
variable{P Q:Prop}
theorem yH(h:P:=by rw[b6];omega):P:=h
theorem Ct(h:P:=by simpa using h):P:=h
theorem Fj(h:P:=by show r≠B3;omega):P:=h
theorem yG(h:P:=by rw[b5.out];omega):P:=h
theorem Fw(h:P:=by rw[F.k.2];decide):P:=h
theorem Ft(h:P:=by with_reducible rfl):P:=h
theorem yA(h:P:=by rw[IntKind.wrap_u8];omega):P:=h
theorem qB(h:P:=by with_reducible assumption):P:=h
theorem EZ(h:P:=by rw[World.size_alloc];omega):P:=h
theorem xf(h:P:=by go_in;go_wp2;go_returns;exact⟨rfl,rfl⟩):P:=h
theorem Jg(h:P:=by rcases g k a7 with h|h;exact h1 h;exact L h):P:=h
theorem PU(h:P:=by go_in;go_wp21;refine cp M.out ?_;go_wp2;go_returns;exact⟨⟨_,rfl⟩,rfl⟩):P:=h
theorem OB(h:P:=by have hb:=(Bk.new w e ys.toArray).cell j;rw[Go.WideShapes.add_plain,jK,hb];simpa using hu):P:=h
theorem Oo(h:P:=by go_wp2;refine⟨⟨k+1,z,ab,by go_num,by congr 1,g,l,by first|rfl|trivial⟩,?_⟩;simp[intOf]<;>omega):P:=h
theorem O7(h:P:=by
 go_wp2;go_quiet (fail);go_wp2;first|go_end0|go_returns
 rw[<-a7.out];exact⟨rfl,u.out.drewN _,q.out.drewN _⟩):P:=h
theorem IX(h:P:=by
 go_wp2;go_quiet (fail);go_wp2;first|go_end0|go_returns
 rw[<-a7.out];exact⟨rfl,g.out _,l.out _ _ _ _ _ _ _⟩):P:=h
theorem O5(h:P:=by rcases Nat.lt_or_ge p.block W.heap.size with h1|h1;exact h1;simp[World.cell?,Array.getElem?_eq_none h1] at h):P:=h
theorem O2(h:P:=by have e1:lZ 0 (2 ^ n) t=t:=(by unfold lZ;rw[Ch,<-h,Vbq]);rw[e1] at a b;rw[a];unfold sF;rw[Vbv,pU,jK,b,<-h,wY,fg]):P:=h
theorem ND(h:P:=by rcases h with h|h;rcases R with e|e|e;exact .inl (h.trans e);exact .inr (.inr (.inr (.inl (h.trans e))));exact .inr (.inr (.inr (.inr (.inl (h.trans e)))));exact .inr (.inr (.inr (.inr (.inr h))))):P:=h
end
namespace Go.Proofs.Y
open Wv Go.RowKit
theorem KD {y:Nat} (h:y % 2=0):xJ y=y/2:=by unfold xJ;rw[aD O,Nat.xor_zero]
theorem ZlW {y:Nat} (h:y % 2=1):xJ y=(y/2) ^^^ 3988292384:=by unfold xJ;rw[Vag h]
theorem K6 (l:ax) (i:Nat) (h:i<l) (d:i<(bs l).size):(bs l)[i]'d=l[i]'h:=by simp[bs];rfl
theorem Zcw (b:Nat) (hb:b<2 ^ 32):(2 ^ 32-1) ^^^ b=2 ^ 32-1-b:=by apply Nat.eq_of_testBit_eq;intro i;rw[Nat.testBit_xor,Nat.testBit_two_pow_sub_one,show 2 ^ 32-1-b=2 ^ 32-(b+1) by omega,Nat.testBit_two_pow_sub_succ hb];by_cases hi:i<32;simp[hi];have:b.testBit i=false:=Nat.testBit_lt_two_pow (eg hb (pQ aY O));simp[hi,this]
theorem ZlU (y:Nat) (h:y<4294967296):bits .xor .u32 IntKind.u32.max (y:Int)=4294967295-(y:Int):=by have h1:=u32_xor_nat 4294967295 y O h;have d:=Zcw y O;have e:(2:Nat) ^ 32-1=4294967295:=aY;rw[e] at d;rw[d] at h1;have g:((4294967295-y:Nat):Int)=4294967295-(y:Int):=O;rw[g] at h1;exact h1
theorem Z6k (r:Nat) (F:r<4294967296) (w:aq):
  Calls prog 213 #[.int .u32 (r:Int)] w λx w'=>x=.returned (.int .u32 (wu 8 r:Nat))/\w=w':=by
 have M:bits .and .u32 0 3988292384=0:=aY;have a1:bits .and .u32 4294967295 3988292384=3988292384:=aY;have n1:IntKind.u32.wrap (-1)=4294967295:=aY;go_in;go_wp2;go_loopw [0,3] (λL t wr=>∃(k y:Nat),k<=8/\t=k/\L=.int .u32 (y:Int)/\Hid (wu k r=y)/\y<4294967296/\wr=w) (λ_ t _=>(8-intOf t).toNat);exact⟨0,r,O,rfl,rfl,J rfl,F,rfl⟩;obtain⟨k,y,R,rfl,rfl,p,I,rfl⟩:=hrel;by_cases ab:k<8
 .have Q:(k:Int)<8:=O;have h1:bits .and .u32 (y:Int) 1=((y % 2:Nat):Int):=by have:=u32_and_nat y 1 I O;rw[Nat.and_one_is_mod] at this;exact this
  obtain⟨z,j⟩:=ay (xJ y);have l:z<4294967296:=by have:=Y_ (r:=y) O;omega
  have g:Hid (wu (k+1) r=z):=J (by show xJ (wu k r)=z;rw[p.out,j]);have hd:(y:Int)/2=((y/2:Nat):Int):=O;have d:y % 2=0\/y % 2=1:=O;rcases d with d|d
  .rw[d] at h1;have h1:bits .and .u32 (y:Int) 1=0:=h1;have u:bits .xor .u32 ((y/2:Nat):Int) 0=(z:Int):=by have:=u32_xor_nat (y/2) 0 O O;rw[Nat.xor_zero,<-KD d,j] at this;rw[<-KD d,j] at*;exact this
   have B:(y:Int)/2=(z:Int):=by rw[hd,<-KD d,j]
   have D:bits .xor .u32 (z:Int) 0=(z:Int):=by have:=u32_xor_nat z 0 O O;rw[Nat.xor_zero] at this;exact this
   clear j hd u d p;exact Oo
  rw[d] at h1;have h1:bits .and .u32 (y:Int) 1=1:=h1;obtain⟨q,E⟩:=ay (y/2);have B:(y:Int)/2=(q:Int):=O;have D:bits .xor .u32 (q:Int) 3988292384=(z:Int):=by have:=u32_xor_nat q 3988292384 O O;rw[<-j,ZlW d,E];exact this
  exact Oo
 have G:k=8:=O;subst G;rw[<-p.out];exact Ai
theorem Zb9 (s:ax) (a3:s.length<=1099511627776) (w:aq):
  Calls prog 166 #[.int .u32 0,bs s] w λx w'=>x=.returned (.int .u32 (qU s:Nat))/\w=w':=by
 have d:(bs s).size=s:=Z0 s;have u:Hid (∀(i:Nat) (h:i<s.length) (g:i<(bs s).size),(bs s)[i]'g=s[i]'h):=J (λi h g=>K6 s i h g);obtain⟨n,D⟩:=ay s.length;obtain⟨S,a1⟩:=ay (bs s);rw[a1] at d u⊢;rw[D] at d a3;obtain⟨k,b5,L⟩:=bD D d (λr (h:r<4294967296) W=>Z6k r h W);have n1:bits .xor .u32 IntKind.u32.max 0=4294967295:=aY;go_in;go_wp2;go_loopw [5,11] (λa8 j wr=>∃(i y:Nat),i<=n/\j=(i:Int)/\a8=.int .u32 (y:Int)/\Hid (Bu 4294967295 (s.take i)=y)/\y<4294967296/\wr=w) (λ_ j _=>(n-intOf j).toNat);exact⟨0,4294967295,cf _,rfl,by first|rfl|(simp;done),J rfl,O,rfl⟩;obtain⟨i,y,hi,rfl,rfl,F,I,rfl⟩:=hrel;by_cases ab:i<n
 .have p:i<s.length:=(by rw[k.out];exact ab);have b2:i<S.size:=(by rw[b5.out];exact ab);have t:=u.out i p;have l:s.take (i+1)=s.take i++[s[i]]:=dK p;obtain⟨c,a2⟩:=ay s[i];rw[a2] at t l;have a0:∀h:i<S.size,(S[i]'h).toNat=c.toNat:=λh=>(by rw[t h]);have b0:(i:Int)<S.size:=O;have b1:(0:Int)<=i:=O;have M:=c.toNat_lt;obtain⟨a,B⟩:=ay c.toNat;rw[B] at a0 M;have a4:=u32_xor_nat y a I O;have q:y ^^^ a<2 ^ 32:=Nat.xor_lt_two_pow O O;obtain⟨b,hb⟩:=ay (y ^^^ a);rw[hb] at a4 q;have K:=J (L.out b O wr);obtain⟨z,G⟩:=ay (wu 8 b);have a7:z<4294967296:=by have:=ZlV q 8;omega
  have a5:Hid (Bu 4294967295 (s.take (i+1))=z):=J (by rw[l,Zi6,F.out,B,hb,G]);rw[G] at K;have E:b<4294967296:=O;go_wp21;refine cp K.out ?_;go_wp2;refine⟨⟨i+1,z,ab,ci,by congr 1,a5,a7,mG⟩,?_⟩;simp[intOf]<;>omega
 have Q:i=n:=O;subst Q;have a9:¬(i:Int)<S.size:=yG;have R:Hid (((qU s:Nat):Int)=4294967295-(y:Int)):=J (by have h1:=F.out;rw[d' (by rw[k.out];exact aU)] at h1;unfold qU;rw[h1];omega);have a6:=ZlU y I;go_wp2;go_ret;exact⟨DJ (by rw[R.out,<-a6];try rfl),rfl⟩
theorem S9 (s:ax) (g:s.length<=1099511627776) (w:aq):
  Calls prog 122 #[bs s] w λx w'=>x=.returned (.int .u32 (qU s:Nat))/\w=w':=by have d:=J (Zb9 s g w);generalize bs s=S at*;go_in;go_wp21;refine cp d.out ?_;exact Ai
theorem yY (s:ax) (i:Nat) (h:i<s) (d:i<(bs s).size):((bs s)[i]'d).toNat=(s.getD i 0).toNat:=by rw[K6 s i h d];simp[List.getD,h]
theorem Z8I (s : ax) (a2 : s.length <= 1000000) (i j m : Nat) (hi : i + m <= s.length) (Q : j + m <= s.length) (w : aq) :
    Calls prog 277 #[bs s,i,j,m] w (bM w ((oM s i j m:Nat):Int)):=by
  have l:(bs s).size=s:=Z0 s;have g:=J (yY s);obtain⟨n,D⟩:=ay s.length;obtain⟨S,z⟩:=ay (bs s);obtain⟨R,p⟩:=ay (oM s i j m);have h0:Hid (so s i j 0 (m-0)=R):=J (by rw[Nat.sub_zero];exact p);have L:R<=m:=(by rw[<-p];exact L' s i j m);have E:=J (λk (h:k<m)=>(by(obtain⟨q,a1⟩:∃q,m-k=q+1:=⟨m-k-1,O⟩);rw[a1,Zdb,show q=m-(k+1) by omega]:so s i j k (m-k)=if s.getD (i+k) 0=s.getD (j+k) 0 then so s i j (k+1) (m-(k+1)) else k));rw[z] at l g⊢;rw[D] at l a2 hi Q g;rw[p];have b5:=J l;clear D z l p;go_in;go_wp2;go_loopw [11] (λu wr=>∃k:Nat,k<=m/\u=(k:Int)/\Hid (so s i j k (m-k)=R)/\Hid (Below w w wr)) (λu _=>(m-intOf u).toNat);exact⟨0,cf _,rfl,h0,J (bf _ _)⟩;obtain⟨k,b0,rfl,B,hb⟩:=hrel;by_cases ab:k<m
  . have b1:i+k<S.size:=yG;have a0:j+k<S.size:=yG;have a4:=g.out (i+k) O;have G:=g.out (j+k) O;have t:=E.out k ab;obtain⟨a,M⟩:=ay (s.getD (i+k) 0);obtain⟨b,a3⟩:=ay (s.getD (j+k) 0);rw[M] at a4 t;rw[a3] at G t;have b2:(i:Int)+k<(S.size:Int):=O;have a6:(j:Int)+k<(S.size:Int):=O;have a8:(0:Int)<=i+(k:Int):=O;have a9:(0:Int)<=j+(k:Int):=O;have a7:(k:Int)<m:=O;have d:=J (B.out);rw[t] at d;by_cases e:a=b;. rw[Vag e] at d;subst e;have I:((a.toNat:Int) !=a.toNat)=false:=(by simp);go_wp2;go_quiet (fail);go_wp2;refine⟨⟨k+1,ab,ci,d,J (mN hb.out _)⟩,?_⟩;simp[intOf]<;>omega
    rw[aD e] at d;have I:((a.toNat:Int) !=b.toNat)=true:=by rw[kx];intro h;exact e (UInt8.toNat_inj.1 O)
    go_wp2;go_quiet (fail);go_wp2;go_returns;rw[<-d.out];exact⟨rfl,mN hb.out _⟩
  have a5:k=m:=O;subst a5;have y:=B.out;rw[fh,Zdc] at y;have F:=J y;go_wp2;go_returns;rw[<-F.out];exact⟨by first|rfl|(congr 2;omega),hb.out⟩
def lq (o:List (Nat×Nat)):List aI:=o.flatMap (λc=>[.int .i64 (c.1:Int),.int .i64 (c.2:Int)])
structure mf (w:World) (B ib wb bb mb db ob:Nat) (s:List UInt8) (i most b:Nat) (ov:Value) (o:List (Nat×Nat)):Prop where
 i:Bk w ib 3 #[i]
 win:Bk w wb 3 #[(4096:Int)]
 best:Bk w bb 3 #[b]
 most:Bk w mb 3 #[most]
 data:Bk w db 9 #[bs s]
 out:Bk w ob 284 #[ov]
 row:w.ownsRow B 287 2 ov o.length (lq o)
 n1:ib≠bb
 n2:wb≠bb
 n3:mb≠bb
 nb:B<=bb
 no:B<=ob
theorem ZqA:(prog.info? 287).map (λi=>(i.zero,i.size,i.bytes))=some (some (.agg #[(0:Int),(0:Int)]),2,16):=dw
theorem Zi5 (o:List (Nat×Nat)) (c:Nat×Nat):lq (o++[c])=lq o++[.int .i64 (c.1:Int),.int .i64 (c.2:Int)]:=by simp[lq]
end Go.Proofs.Y
namespace Wv
open Go Go.RowKit
theorem Vn {P : Program} (t e : TypeId) (z : aI) (bytes size : Nat) (a1 : P.underlying t = some (.slice e)) (E : (P.info? e).map (λi => (i.zero, i.size, i.bytes)) = some (some z, size, bytes)) (G : z.cells.size = size) (a3 : 0 < size) {w wb : aq} {B : Nat} {v : aI} {n : Nat} {xs : List aI} (h : w.ownsRow B e size v n xs) (R : Below B wb w) (q : B <= w.heap.size) (ys : List aI) (a4 : ys.length = size) (h1 : ∀ y ∈ ys, y.oneCell' = true) (L : n + 1 <= maxLen) (F : (n + 1) * bytes <= 140737488355328) :
    ∃g w',(Builtin.append_ #[t,t] t #[v,.slice (some (w,0)) 1 1]).run P (w.alloc (.cells ys.toArray e))=.ok g w'/\w'.ownsRow B e size g (n+1) (xs++ys)/\Below B wb w'/\(∀D T l,Bk w D T l->e≠T->Bk w' D T l)/\w.heap.size<=w'.heap.size:=by obtain⟨i,hi,a2,a0,I⟩:=info_parts E;obtain ⟨g, w', S, M, p, _, a5⟩ := run_append_own_at (P := P) (w.alloc (.cells ys.toArray e)) B t t e i z size bytes a1 hi a2 a0 I G a3 v n xs (h.alloc _) ⟨w, 0, none⟩ 1 1 ys O (λj u hu => OB) h1 L F (co q (by simp));refine⟨g,w',S,M,(R.alloc q _).grown p (co q (by simp)) (λk d=>(h.lt k d).1),λD T l d Q=>(d.alloc _).grown p (λe=>Z1 h d Q e.symm),?_⟩;have:=p.size;simp at this;omega
end Wv
namespace Go.Proofs.Y
open Wv Go.RowKit
section
variable{cb p:Nat}{w':aq}
section
variable {w:aq} {B ib wb bb mb db ob:Nat} {s:ax} {i most b:Nat} {ov:aI} {o:List (Nat×Nat)}
theorem mf.below (h:mf w B ib wb bb mb db ob s i most b ov o) (hb:Below w w w'):mf w' B ib wb bb mb db ob s i most b ov o:=
 ⟨h.i.below hb h.i.lt,h.win.below hb h.win.lt,h.best.below hb h.best.lt,h.most.below hb h.most.lt,h.data.below hb h.data.lt,h.out.below hb h.out.lt,Z6 h.row (Fr.of_below (S:=nob) hb) (λ_ _ f=>f),h.n1,h.n2,h.n3,h.nb,h.no⟩
theorem mf.setBest (h:mf w B ib wb bb mb db ob s i most b ov o) (n:Nat):mf (w.setCell (bb,0) n) B ib wb bb mb db ob s i most n ov o:=
 ⟨h.i.off (p:=⟨bb,0,none⟩) h.n1 _,h.win.off (p:=⟨bb,0,none⟩) h.n2 _,h.best.put 0 _,h.most.off (p:=⟨bb,0,none⟩) h.n3 _,h.data.off (p:=⟨bb,0,none⟩) (Bk.apart h.data h.best aY) _,h.out.off (p:=⟨bb,0,none⟩) (Bk.apart h.out h.best aY) _,
  Zq h.row (p:=⟨bb,0,none⟩) (Z1 h.row h.best aY) _,h.n1,h.n2,h.n3,h.nb,h.no⟩
theorem mf.grow {k:aI} {j:List (Nat×Nat)} (h:mf w B ib wb bb mb db ob s i most b ov o) (g:∀y T l,Bk w y T l->287≠T->Bk w' y T l) (t:w'.ownsRow B 287 2 k j (lq j)):mf (w'.setCell (ob,0) k) B ib wb bb mb db ob s i most b k j:=by
 have d:=g _ _ _ h.out aY;have hi:=g _ _ _ h.i aY;have u:=g _ _ _ h.win aY;have hb:=g _ _ _ h.best aY;have q:=g _ _ _ h.most aY;have hd:=g _ _ _ h.data aY
 exact⟨hi.off (p:=⟨ob,0,none⟩) (Bk.apart hi d aY) _,u.off (p:=⟨ob,0,none⟩) (Bk.apart u d aY) _,hb.off (p:=⟨ob,0,none⟩) (Bk.apart hb d aY) _,q.off (p:=⟨ob,0,none⟩) (Bk.apart q d aY) _,hd.off (p:=⟨ob,0,none⟩) (Bk.apart hd d aY) _,d.put 0 _,
  Zq t (p:=⟨ob,0,none⟩) (Z1 t d aY) _,h.n1,h.n2,h.n3,h.nb,h.no⟩
theorem mf.cells (h:mf w B ib wb bb mb db ob s i most b ov o):w.cell? (ib,0)=i/\w.cell? (wb,0)=(4096:Int)/\w.cell? (bb,0)=b/\w.cell? (mb,0)=most/\w.cell? (db,0)=(bs s)/\w.cell? (ob,0)=some ov/\w.frozen? (bb,0)=false/\w.frozen? (ob,0)=false:=
 ⟨h.i.cell 0,h.win.cell 0,h.best.cell 0,h.most.cell 0,h.data.cell 0,h.out.cell 0,h.best.frozen 0,h.out.frozen 0⟩
def zR (w:aq) (B ib wb bb mb db ob:Nat) (s:ax) (i most p b:Nat) (ov:aI) (o:List (Nat×Nat)) (x:Ending) (w':aq):Prop:=
 ∃d j g,mf w' B ib wb bb mb db ob s i most d j g/\Below B w w'/\((rA s i most p b o=none/\x=.returned false/\d=b/\g=o)\/(rA s i most p b o=some (d,g)/\x=.returned true))
theorem Z6W (h:mf w B ib wb bb mb db ob s i most b ov o) (k:B<=w) (i5:s.length<=4096) (i4:p<i) (hi:i+most<=s) (a9:o.length<=4096):
  Calls prog 276 #[p,(ib,0),(wb,0),(bb,0),(mb,0),(db,0),(ob,0)] w λx w'=>zR w B ib wb bb mb db ob s i most p b ov o x w':=by
 have l:=bf B w;obtain⟨c1,c2,f7,f8,f9,g0,g9,h0⟩:=h.cells;have d:=J h;by_cases h1:4096<i-p;.have g:rA s i most p b o=none:=(by unfold rA;rw[Vag (.inl h1)]);have j:Hid (∀w',Below w w w'->zR w B ib wb bb mb db ob s i most p b ov o (.returned false) w'):=J (λw' hb=>⟨b,ov,o,d.out.below hb,l.trans (hb.mono k),.inl ⟨g,rfl,rfl,rfl⟩⟩);have a4:(4096:Int)<i-(p:Int):=O;go_in;go_wp2;go_returns;exact j.out _ (bf _ _)
 by_cases a8:most<=b;.have g:rA s i most p b o=none:=(by unfold rA;rw[Vag (.inr a8)]);have j:Hid (∀w',Below w w w'->zR w B ib wb bb mb db ob s i most p b ov o (.returned false) w'):=J (λw' hb=>⟨b,ov,o,d.out.below hb,l.trans (hb.mono k),.inl ⟨g,rfl,rfl,rfl⟩⟩);have a4:¬(4096:Int)<i-(p:Int):=O;have f3:(most:Int)<=b:=O;go_in;go_wp2;go_returns;exact j.out _ (bf _ _)
 have a4:¬(4096:Int)<i-(p:Int):=O;have f3:¬(most:Int)<=b:=O;have G:(bs s).size=s:=Z0 s;have Q:p+b<(bs s).size:=O;have f2:i+b<(bs s).size:=O;have a0:=yY s (p+b) O Q;have L:=yY s (i+b) O f2;have d7:(p:Int)+b<((bs s).size:Int):=O;have j2:(i:Int)+b<((bs s).size:Int):=O;have j0:(0:Int)<=p+(b:Int):=O;have h5:(0:Int)<=i+(b:Int):=O;have E:=J (λW=>Z8I s O p i most O hi W);have R:¬(4096<i-p\/most<=b):=O;have e9:=L' s p i most;by_cases t:s.getD (p+b) 0=s.getD (i+b) 0
 .have g:rA s i most p b o=if b<oM s p i most then some (oM s p i most,o++[(oM s p i most,i-p)]) else some (b,o):=by unfold rA;rw[aD R,aD (by simpa using t)]
  have d4:(bs s)[p+b]=(bs s)[i+b]:=UInt8.toNat_inj.1 (by rw[a0,L,t]);obtain⟨n,d6⟩:=ay (oM s p i most);rw[d6] at g E e9;by_cases D:b<n
  .rw[Vag D] at g;have b0:(b:Int)<n:=O;have M:Hid (∀n w',Below w (w.drewN n) w'->mf w' B ib wb bb mb db ob s i most b ov o):=J (λn w' hb=>d.out.below ((mN (bf _ _) n).trans hb));have j:Hid (∀w' a1,mf w' B ib wb bb mb db ob s i most n a1 (o++[(n,i-p)])->Below B w w'->zR w B ib wb bb mb db ob s i most p b ov o (.returned true) w'):=J (λw' a1 d5 hb=>⟨n,a1,_,d5,hb,.inr ⟨g,rfl⟩⟩);have a7:o+1=(o++[(n,i-p)]).length:=(by simp);have u:lq (o++[(n,i-p)])=lq o++[.int .i64 (n:Int),.int .i64 ((i:Int)-p)]:=by rw[Zi5];simp only;rw[show((i-p:Nat):Int)=(i:Int)-p by omega]
   obtain⟨d9,F,a3⟩:=bD a7 u k;generalize bs s=S at*;clear g h l D G a7 u;go_in;go_wp2;go_quiet (fail);go_wp21;refine aP (E.out _) λw1 q=>?_;have aa:Below w w w1:=(mN (bf w w) nq).trans q;have y:=M.out _ _ q;obtain⟨b6,b7,b8,b9,c9,d1,d2,d3⟩:=y.cells;have z:=y.setBest n;have a2:Below B w (w1.setCell (bb,0) (n:Int)):=(aa.mono a3.out).setCell (p:=⟨bb,0,none⟩) y.nb _;have b2:B<=(w1.setCell (bb,0) (n:Int)).heap.size:=co a3.out a2.size;obtain⟨h6,h7,h8,h9,i0,i1,i2,i3⟩:=z.cells;obtain⟨j1,w2,d8,I,b4,a5,i8⟩:=Vn (P:=prog) 284 287 _ _ 2 underlying284 ZqA rfl O z.row a2 b2 [.int .i64 (n:Int),.int .i64 ((i:Int)-p)] rfl sX fU O;rw[d9.out,<-F.out] at I;obtain⟨f4,f5,f6,rfl⟩:=Z7 I;have b1:=z.grow a5 I;have a6:=a5 _ _ _ z.out aY;have i6:=a6.cell 0;have i7:=a6.frozen 0;have b5:=J (j.out _ _ b1 (b4.setCell (p:=⟨ob,0,none⟩) y.no _));have b3:=J d8;generalize i9:w1.setCell ⟨bb,0,none⟩ (n:Int)=W2 at*;go_wp2_with (at_builtin;refine Z5 Ft rfl _ _ _ rfl _ _ (by rfl) (by rfl) b3.out ?_);go_returns;exact b5.out
  rw[aD D] at g;have j:Hid (∀w',Below w w w'->zR w B ib wb bb mb db ob s i most p b ov o (.returned true) w'):=J (λw' hb=>⟨b,ov,o,d.out.below hb,l.trans (hb.mono k),.inr ⟨g,rfl⟩⟩);have b0:¬(b:Int)<n:=O;have M:Hid (∀n w',Below w (w.drewN n) w'->mf w' B ib wb bb mb db ob s i most b ov o):=J (λn w' hb=>d.out.below ((mN (bf _ _) n).trans hb));generalize bs s=S at*;clear g h l k a9 D G;go_in;go_wp2;go_quiet (fail);go_wp21;refine aP (E.out _) λw1 q=>?_;have aa:Below w w w1:=(mN (bf w w) nq).trans q;obtain⟨b6,b7,b8,b9,c9,d1,d2,d3⟩:=(M.out _ _ q).cells;go_wp2;go_returns;exact j.out _ aa
 have g:rA s i most p b o=some (b,o):=(by unfold rA;rw[aD R,Vag t]);have j:Hid (∀w',Below w w w'->zR w B ib wb bb mb db ob s i most p b ov o (.returned true) w'):=J (λw' hb=>⟨b,ov,o,d.out.below hb,l.trans (hb.mono k),.inr ⟨g,rfl⟩⟩);have d4:((((bs s)[p+b]).toNat:Int) !=(((bs s)[i+b]).toNat:Int))=true:=by rw[kx];intro e;exact t (UInt8.toNat_inj.1 (by rw[<-a0,<-L];omega))
 generalize bs s=S at*;clear a0 L t R h1 a8 g h d l k a9 G;go_in;go_wp2;go_quiet (fail);go_wp2;go_returns;exact j.out _ (mN (bf _ _) _)
end
def MX (ib wb bb mb db ob:Nat):aI:=.func (.func 276) #[] #[.pointer (some ⟨ib,0,none⟩),.pointer (some ⟨wb,0,none⟩),.pointer (some ⟨bb,0,none⟩),.pointer (some ⟨mb,0,none⟩),.pointer (some ⟨db,0,none⟩),.pointer (some ⟨ob,0,none⟩)]
theorem Zhe {s:ax} {i most b:Nat} {o:List (Nat×Nat)} {y:Nat×List (Nat×Nat)} (h:rA s i most p b o=some y):y.2<=o.length+1:=by unfold rA at h;split at h;exact po;split at h;injection h with h;rw[<-h];simp;split at h;injection h with h;rw[<-h];simp;injection h with h;rw[<-h];simp
section
variable {w:aq} {B ib wb bb mb db ob:Nat} {s:ax} {i most b:Nat} {ov:aI} {o:List (Nat×Nat)}
theorem Zbv (h:mf w B ib wb bb mb db ob s i most b ov o) (a8:B<=w) (a9:s.length<=4096) (hi:i+most<=s) (M:o.length=0) (b5:w.cell? (cb,0)=i):
  Calls prog 244 #[MX ib wb bb mb db ob,(cb,0)] w λx w'=>x=.returned (.tuple #[])/\∃u z,mf w' B ib wb bb mb db ob s i most u z (pB s i most i b o)/\Below B w w':=by
 obtain⟨R,j⟩:=ay (pB s i most i b o);have h0:=J j;rw[j];obtain⟨d,a3,a7,a5⟩:=dc h (λ(W:aq) (p b:Nat) (ov:aI) (o:List (Nat×Nat)) (k:mf W B ib wb bb mb db ob s i most b ov o) (a2:B<=W) (Q:p<i) (M:o.length<=4096)=>Z6W k a2 a9 Q hi M) (λp b o=>ZhD s i most p b o) (bf B w);have b4:i<=4096:=O;have a6:=J (show o.length+i<=i by omega);unfold MX;go_in;go_wp2;go_loopw [3] (λD wr=>∃(p b:Nat) (ov:aI) (o:List (Nat×Nat)),p<=i/\D=((p:Int)-1:Int)/\Hid (mf wr B ib wb bb mb db ob s i most b ov o)/\Hid (pB s i most p b o=R)/\Hid (Below B w wr)/\Hid (o.length+p<=i)) (λD _=>(intOf D+1).toNat);exact⟨i,b,ov,o,aU,rfl,d,h0,a5,a6⟩;obtain⟨p,b,ov,o,Q,rfl,k,j,hb,L⟩:=hrel;by_cases ab:0<p
 .obtain⟨q,rfl⟩:∃q,p=q+1:=⟨p-1,O⟩;have i1:((q+1:Nat):Int)-1=(q:Int):=O;rw[i1];have y:B<=wr:=co a8 hb.out.size;have a0:=J (a3.out wr q b ov o k.out y O (by have:=L.out;omega));have b6:(0:Int)<=q:=O;have I:=j.out;rw[a7.out] at I;have G:=J I;go_wp21;refine(a0.out).mono ?_;rintro x w1 ⟨u,z,S,b2,b0,a4⟩;have F:=J (hb.out.trans b0);have E:=J b2;rcases a4 with ⟨l,rfl,rfl,rfl⟩|⟨l,rfl⟩
  .have g:=G.out;rw[l] at g;have t:=J g;go_wp2;first|go_end0|go_returns
   rw[<-t.out];exact⟨rfl,_,_,E.out,F.out⟩
  have g:=G.out;rw[l] at g;have t:=J g;have b1:=Zhe l;have a1:=J (show S.length+q<=i by have:=L.out;simp only at b1;omega);go_wp2;refine⟨⟨q,u,z,S,O,rfl,E,t,F,a1⟩,?_⟩;simp[intOf]<;>omega
 have b3:p=0:=O;subst b3;have g:Hid (o=R):=j;go_wp2;first|go_end0|go_returns
 rw[<-g.out];exact⟨rfl,_,_,k.out,hb.out⟩
end
def Ea (w:aq) (s:ax) (i:Nat) (m:Int):aq:=((((((w.alloc (.cells #[bs s] 9)).alloc (.cells #[i] 3)).alloc (.cells #[(4096:Int)] 3)).alloc (.cells #[m] 3)).alloc (.cells #[.slice none 0 0] 284)).alloc (.cells #[(1:Int)] 3))
theorem Bk.newN (w:aq) (t:TypeId) (d:Array aI) {n:Nat} (h:w=n):Bk (w.alloc (.cells d t)) n t d:=h▸Bk.new w t d
theorem Zj3 (w:aq) (s:ax) (i m:Nat):mf (Ea w s i m) w (w.heap.size+1) (w.heap.size+1+1) (w.heap.size+1+1+1+1+1) (w.heap.size+1+1+1) w (w.heap.size+1+1+1+1) s i m 1 (.slice none 0 0) []/\Below w w (Ea w s i m):=by have hb:Below w w (Ea w s i m):=((((((bf w w).alloc aU _).alloc (by simp) _).alloc fj _).alloc fj _).alloc fj _).alloc fj _;refine⟨⟨?_,?_,?_,?_,?_,?_,Zl,O,O,O,O,O⟩,hb⟩;exact((((Bk.newN _ _ _ (by simp)).alloc _).alloc _).alloc _).alloc _;exact(((Bk.newN _ _ _ (by simp)).alloc _).alloc _).alloc _;exact Bk.newN _ _ _ (by simp);exact((Bk.newN _ _ _ (by simp)).alloc _).alloc _;exact(((((Bk.new _ _ _).alloc _).alloc _).alloc _).alloc _).alloc _;exact(Bk.newN _ _ _ (by simp)).alloc _
theorem Z8H (s:ax) (a2:s.length<=4096) (i:Nat) (hi:i<=s) {w:aq} (Q:w.cell? (cb,0)=i) (a7:cb<w):
  Calls prog 243 #[bs s,i,(4096:Int),(273:Int),.func (.func 244) #[] #[(cb,0)]] w λx w'=>∃ov,x=.returned ov/\w'.ownsRow w 287 2 ov (rD s i) (lq (rD s i))/\Below w w w':=by
 have b0:(bs s).size=s:=Z0 s;have a0:XV s i=min 273 (s.length-i):=rfl;have M:rD s i=pB s i (XV s i) i 1 []:=rfl;rw[M];obtain⟨m,S⟩:=ay (XV s i);rw[S] at a0⊢;have y:i+m<=s:=O;have D:=J (λ(W:aq) (B ib wb bb mb db ob:Nat) (ov:aI) (h:mf W B ib wb bb mb db ob s i m 1 ov []) (a8:B<=W) (Q:W.cell? ⟨cb,0,none⟩=i)=>Zbv h a8 a2 y rfl Q);obtain⟨L,j⟩:=Zj3 w s i m;have g:=J (D.out _ _ _ _ _ _ _ _ _ L j.size ((j.cell (p:=⟨cb,0,none⟩) a7).trans Q));unfold MX Ea at g;have t:=J j;generalize pB s i m i 1 []=R at*;have a4:=J a2;by_cases a1:273<=s.length-i;.have k:m=273:=O;have a5:min (273:Int) ((s.length:Int)-i)=273:=O;have a3:(273:Int)<=s.length-(i:Int):=O;subst k;clear a0 M S L j D y;go_in;go_wp21;refine aP g.out λw1 ⟨a6,a9,d,l⟩=>?_;have I:=d.out.cell 0;obtain⟨u,F,G,rfl⟩:=Z7 d.row;simp at I;have z:=J (⟨d.row,t.out.trans l⟩:w1.ownsRow w 287 2 (.slice u F G) R (lq R)/\Below w w w1);clear d l g t;go_wp2;go_returns;exact⟨_,rfl,z.out⟩
 have a3:¬(273:Int)<=s.length-(i:Int):=O;have a5:min (273:Int) ((s.length:Int)-i)=(s.length:Int)-i:=O;have k:((s.length:Int)-i)=(m:Int):=O;rw[<-k] at g;have E:=J k;clear a0 M S L j D y k;go_in;go_wp21;refine aP g.out λw1 ⟨a6,a9,d,l⟩=>?_;have I:=d.out.cell 0;obtain⟨u,F,G,rfl⟩:=Z7 d.row;simp at I;have q:=t.out;unfold Ea at q;rw[<-E.out] at q;have z:=J (⟨d.row,q.trans l⟩:w1.ownsRow w 287 2 (.slice u F G) R (lq R)/\Below w w w1);clear d l g t q;go_wp2;go_returns;exact⟨_,rfl,z.out⟩
theorem ZbC (w:aq):Calls prog 242 #[(4096:Int),(273:Int)] w λx w'=>x=.returned true/\w=w':=xf
theorem Zbw (s:ax) (p:s.length<=4096) (i:Nat) (hi:i<=s) (w:aq):
  Calls prog 206 #[bs s,i,(4096:Int),(273:Int)] w λx w'=>∃ov,x=.returned ov/\w'.ownsRow w 287 2 ov (rD s i) (lq (rD s i))/\Below w w w':=by
 have k:=J (λW=>ZbC W);have t:(bs s).size=s:=Z0 s;have y:¬(4096:Int)<((bs s).size:Int):=O;have D:¬((bs s).size:Int)<(i:Int):=O;have l:=(bf w w).alloc aU (.cells #[i] 3);have j:=J (Z8H s p i hi (w:=w.alloc (.cells #[i] 3)) (cb:=w.heap.size) ((Bk.new w 3 #[i]).cell 0) (by simp));generalize rD s i=R at*
 have g:Hid (∀(w':aq) ov,w'.ownsRow (w.alloc (.cells #[i] 3)) 287 2 ov R (lq R)->Below (w.alloc (.cells #[i] 3)) (w.alloc (.cells #[i] 3)) w'->w'.ownsRow w 287 2 ov R (lq R)/\Below w w w'):=
  J (λw' ov h1 d=>⟨K4 h1 (by simp),l.trans (d.mono (by simp))⟩);generalize bs s=S at*;clear l t p hi;go_in;go_wp21;refine cp (k.out _) ?_;go_wp21;refine(j.out).mono ?_;rintro x w1 ⟨ov,rfl,h1,d⟩;have q:=J (g.out _ _ h1 d);obtain⟨u,z,B,rfl⟩:=Z7 h1;clear h1 d g j k;go_wp2;go_returns;exact⟨_,rfl,q.out⟩
end
theorem Z85 (s:ax) (F:s.length<=1000000000) (w:aq):
  Calls prog 77 #[bs s] w (bM w (bs (pZ s))):=by
 have d:=J (S9 s O w);have ab:=La s;obtain⟨n,g⟩:=ay (qU s);rw[g] at d ab;obtain⟨a1,h1⟩:=ay (n % 256);obtain⟨a2,l⟩:=ay (n/256 % 256);obtain⟨a3,p⟩:=ay (n/65536 % 256);obtain⟨a4,t⟩:=ay (n/16777216);have i1:(n:Int) % 256=(a1:Int):=O;have D:(n:Int)/256 % 256=(a2:Int):=O;have E:(n:Int)/65536 % 256=(a3:Int):=O;have G:(n:Int)/16777216=(a4:Int):=O;have M:a1<256:=O;have l2:a2<256:=O;have Q:a3<256:=O;have l4:a4<256:=O;have I:(a4:Int) % 256=(a4:Int):=O;have B:(convert 88 9 (.slice (some (w,0)) 4 4)).run prog (w.alloc (.cells #[.int .u8 (a1:Int),.int .u8 (a2:Int),.int .u8 (a3:Int),.int .u8 (a4:Int)] 5))=.ok (.string (bs [UInt8.ofNat a1,UInt8.ofNat a2,UInt8.ofNat a3,UInt8.ofNat a4])) (w.alloc (.cells #[.int .u8 (a1:Int),.int .u8 (a2:Int),.int .u8 (a3:Int),.int .u8 (a4:Int)] 5)):=by refine run_convert_bytes_back _ 88 9 5 ⟨w,0,none⟩ 4 [UInt8.ofNat a1,UInt8.ofNat a2,UInt8.ofNat a3,UInt8.ofNat a4] underlying88 underlying5 underlying9 (λj u=> ?_);have y:j<4:=u;rw[Go.WideShapes.add_plain,jK,(Bk.new w _ _).cell];exact On
 have z:(bs s).size<=1000000000:=Cs;have L:(bs [UInt8.ofNat a1,UInt8.ofNat a2,UInt8.ofNat a3,UInt8.ofNat a4]).size=4:=rfl;have k:=J (show bs s++bs [UInt8.ofNat a1,UInt8.ofNat a2,UInt8.ofNat a3,UInt8.ofNat a4]=bs (pZ s) from by rw[Z9];unfold pZ zA;rw[g,<-h1,<-l,<-p,<-t];exact Om);have hb:=J ((bf w w).alloc aU (.cells #[.int .u8 (a1:Int),.int .u8 (a2:Int),.int .u8 (a3:Int),.int .u8 (a4:Int)] 5));generalize bs s=s1 at*;generalize bs [UInt8.ofNat a1,UInt8.ofNat a2,UInt8.ofNat a3,UInt8.ofNat a4]=s2 at*;go_in;go_wp21;refine cp d.out ?_;go_wp2;go_ret;exact⟨Bc k.out,hb.out⟩
def lst4 (d b1 g:Nat):Nat->Nat
 |0=>0
 |1=>d
 |2=>d+256*b1
 |_=>d+256*b1+65536*g
def zK (s:ax):Nat:=qU (s.take (s.length-4)) ^^^ wn s
theorem ZiT (s:ax):wn s<4294967296:=by unfold wn;have h0:=(s.getD (s.length-4) 0).toNat_lt;have h1:=(s.getD (s.length-3) 0).toNat_lt;have d:=(s.getD (s.length-2) 0).toNat_lt;have g:=(s.getD (s.length-1) 0).toNat_lt;omega
theorem Z7Q (a b:Nat):a ^^^ b=0↔a=b:=by constructor;intro h;apply Nat.eq_of_testBit_eq;intro i;have:=congrArg (λn=>n.testBit i) h;simp only[Nat.testBit_xor,Nat.zero_testBit] at this;revert this;cases a.testBit i<;>cases b.testBit i<;>simp;intro h;rw[h,Nat.xor_self]
theorem ZeS {s:ax} (h:4<=s.length):qO s=decide (zK s=0):=by unfold qO zK;rw[dd h,Bool.true_and,lN,fq,fq,Z7Q]
theorem Zb8 (s:ax) (b8:4<=s.length) (c5:s.length<=1000000000) (w:aq):
  Calls prog 167 #[bs s] w λx w'=>x=.returned (.int .u32 (zK s:Nat))/\w=w':=by
 obtain⟨k,L⟩:∃k,s.length=k+4:=⟨s.length-4,O⟩;have a1:(bs s).size=k+4:=(by rw[Z0,L]);have p:∀j (h:k+j<s.length) (g:k+j<(bs s).size),((bs s)[k+j]'g).toNat=(s.getD (k+j) 0).toNat:=λj h g=>by rw[K6 s (k+j) h g];simp[List.getD,h]
 have M:wn s=(s.getD (k+0) 0).toNat+256*(s.getD (k+1) 0).toNat+65536*(s.getD (k+2) 0).toNat+16777216*(s.getD (k+3) 0).toNat:=by unfold wn;rw[L,show k+4-4=k+0 by omega,show k+4-3=k+1 by omega,show k+4-2=k+2 by omega,show k+4-1=k+3 by omega]
 obtain⟨d,G⟩:=ay ((s.getD (k+0) 0).toNat);obtain⟨b1,I⟩:=ay ((s.getD (k+1) 0).toNat);obtain⟨q,aa⟩:=ay ((s.getD (k+2) 0).toNat);obtain⟨b3,F⟩:=ay ((s.getD (k+3) 0).toNat);have d5:d<256:=(by rw[<-G];exact iq _);have d6:b1<256:=(by rw[<-I];exact iq _);have l2:q<256:=(by rw[<-aa];exact iq _);have d7:b3<256:=(by rw[<-F];exact iq _);rw[G,I,aa,F] at M;obtain⟨Q,c6,R,a0⟩:=dc (λ(g:k<(bs s).size)=>(p 0 O g).trans G) (λ(g:k+1<(bs s).size)=>(p 1 O g).trans I) (λ(g:k+2<(bs s).size)=>(p 2 O g).trans aa) (λ(g:k+3<(bs s).size)=>(p 3 O g).trans F);have c3:(bs s).extract 0 k=bs (s.take k):=Gr (bs s) k;have a5:=J (λW=>S9 (s.take k) vO W);have t:zK s=qU (s.take k) ^^^ wn s:=(by unfold zK;rw[L,vI]);have a6:=La (s.take k);have a7:=ZiT s;obtain⟨c,a8⟩:=ay (qU (s.take k));obtain⟨l,a9⟩:=ay (wn s);obtain⟨z,b6⟩:=ay (zK s);rw[a8] at a5 t a6;rw[a9] at t a7 M;rw[b6] at t⊢;have d3:bits .xor .u32 (c:Int) (l:Int)=(z:Int):=(by rw[u32_xor_nat c l a6 a7,t]);have c7:=J M;obtain⟨b7,u,L1,B,D,E⟩:∃f:Nat->Nat,f 0=0/\f 1=d/\f 2=d+256*b1/\f 3=d+256*b1+65536*q/\f 4=l:=⟨λi=>if i=4 then l else lst4 d b1 q i,rfl,rfl,rfl,rfl,rfl⟩;obtain⟨u,L1,B,D,E⟩:=ii u L1 B D E;generalize bs (s.take k)=T at*;generalize bs s=S at*;have b5:=J a1;have d9:k<=1000000000:=O;have b4:(S.size:Int)=k+4:=(by rw[a1];omega);clear p G I aa F t a8 a9 b6 L M a1 b8 c5;go_in;go_wp2;go_loopw [4,9] (λc8 a4 wr=>∃i:Nat,i<=4/\a4=(i:Int)/\c8=.int .u32 (b7 i:Int)/\wr=w) (λ_ a4 _=>(4-intOf a4).toNat);exact⟨0,O,rfl,by rw[u.out];rfl,rfl⟩;obtain⟨i,hi,rfl,rfl,rfl⟩:=hrel;have d8:k<S.size:=yG;have e2:k+1<S.size:=yG;have d2:k+2<S.size:=yG;have b9:k+3<S.size:=yG;have c9:(0:Int)<=k:=O;have d1:(k:Int)<S.size:=O;have e3:(k:Int)+1<(S.size:Int):=O;have d4:(k:Int)+2<(S.size:Int):=O;have c4:(k:Int)+3<(S.size:Int):=O;rcases(show i=0\/i=1\/i=2\/i=3\/i=4 by omega) with rfl|rfl|rfl|rfl|rfl
 .have p:∀h:k<S.size,(S[k]'h).toNat=d:=Q.out;have a2:bits .or .u32 0 (d:Int)=(d:Int):=by have:=u32_or_nat 0 d O O;rw[Nat.zero_or] at this;exact this
  rw[u.out];go_wp2;go_roundw;exact⟨1,O,rfl,by rw[L1.out];all_goals first|(congr 1;done)|(congr 1;omega),mG⟩;simp[intOf]
 .have p:∀h:k+1<S.size,(S[k+1]'h).toNat=b1:=c6.out;have a2:bits .or .u32 (d:Int) ((b1:Int)*256)=((d+256*b1:Nat):Int):=by rw[u32_or8 _ _ O O O O O];all_goals omega
  rw[L1.out];go_wp2;go_roundw;exact⟨2,O,rfl,by rw[B.out];all_goals first|(congr 1;done)|(congr 1;omega),mG⟩;simp[intOf]
 .have p:∀h:k+2<S.size,(S[k+2]'h).toNat=q:=R.out;obtain⟨y,a3⟩:=ay (d+256*b1);have a2:bits .or .u32 (y:Int) ((q:Int)*65536)=((y+65536*q:Nat):Int):=by rw[u32_or16 _ _ O O O O O];all_goals omega
  rw[B.out];rw[a3];go_wp2;go_roundw;exact⟨3,O,rfl,by rw[D.out];all_goals first|(congr 1;done)|(congr 1;omega),mG⟩;simp[intOf]
 .have p:∀h:k+3<S.size,(S[k+3]'h).toNat=b3:=a0.out;obtain⟨y,a3⟩:=ay (d+256*b1+65536*q);have a2:bits .or .u32 (y:Int) ((b3:Int)*16777216)=(l:Int):=by rw[u32_or24 _ _ O O O O O,c7.out];all_goals omega
  rw[D.out];rw[a3];go_wp2;go_roundw;exact⟨4,O,rfl,by rw[E.out];all_goals first|(congr 1;done)|(congr 1;omega),mG⟩;simp[intOf]
 rw[E.out];go_wp21;refine cp (a5.out _) ?_;exact Ai
theorem Qd (s:ax) (k:s.length<=1000000000) (w:aq):
  Calls prog 125 #[bs s] w λx w'=>(∃y,x=.returned (.tuple #[.string y,(if qO s=true then 0 else 12:Int)]))/\w=w':=by have d:(bs s).size=s:=Z0 s;by_cases g:4<=s.length;have M:=J (Zb8 s g k w);have j:=ZeS g;have q:¬((bs s).size:Int)<4:=(by rw[d];omega);have t:4<=(bs s).size:=(by rw[d];exact g);have B:(bs s).size<=1000000000:=(by rw[d];exact k);rw[j];obtain⟨z,p⟩:=ay (zK s);rw[p] at M⊢;clear j d p g k;generalize bs s=S at*;by_cases l:z=0;subst l;exact PU;have u:((z:Int) !=0)=true:=kx.2 O;rw[aD (by simpa using l)];exact PU;have q:((bs s).size:Int)<4:=(by rw[d];omega);have j:qO s=false:=(by unfold qO;rw[cI g,Bool.false_and]);rw[j];generalize bs s=S at*;go_in;go_wp2;go_returns;exact⟨⟨_,rfl⟩,rfl⟩
section
variable{b g k v:Nat}{c c0:cj}{t:List Nat}{ts:List (List Nat)}{w':aq}
theorem Z8K (w:aq):
  Calls prog 159 #[(1:Int)] w λx w'=>x=.returned (.tuple #[(w.heap.size+1,0),(0:Int)])/\Bk w' w 3 (nc (wF 1))/\Bk w' (w.heap.size+1) 244 #[(1:Int),.slice (some (w,0)) 2 2]/\Below w w w':=by have k:=J (ZbQ w);go_in;go_wp21;refine aP k.out λw1 ⟨h1,d,hb⟩=>?_;have g:=J h1;have j:=J d;clear h1 d;go_wp2;go_returns;exact⟨rfl,g.out,j.out,hb⟩
def xH (g:Nat) (c:cj):Array aI:=(tJ g 8).push (bv c)
theorem Zoq (g:Nat) (c:cj) (h:k<8):(xH g c)[2*k]? =(8:Int)/\(xH g c)[2*k+1]? =some (.slice (some ⟨g,256*k,none⟩) 256 256):=by rcases(show k=0\/k=1\/k=2\/k=3\/k=4\/k=5\/k=6\/k=7 by omega) with rfl|rfl|rfl|rfl|rfl|rfl|rfl|rfl<;>exact⟨rfl,rfl⟩
theorem CW (g:Nat) (c:cj):(xH g c)[16]? =some (.int .u8 (c.toNat:Int)):=rfl
theorem Wu (g:Nat) (c d:cj):(xH g c).setIfInBounds 16 (.int .u8 (d.toNat:Int))=xH g d:=rfl
structure lJ (w:World) (b g:Nat) (ts:List Nat) (c:UInt8):Prop where
 st:Bk w b 249 (xH g c)
 nd:Bk w g 3 (nc ts)
theorem lJ.tree {w:aq} {ts:List Nat} (h:lJ w b g ts c) (d:k<8):pd w b (2*k) g (256*k) 8 ts:=by obtain⟨t0,t1⟩:=Zoq g c d;have c0:=h.st.cell (2*k);have c1:=h.st.cell (2*k+1);rw[t0] at c0;rw[t1] at c1;exact⟨c0,c1,h.nd,Bk.apart h.st h.nd aY,h.st.lt⟩
theorem lJ.fr {S:Nat->Prop} {w:aq} {ts:List Nat} (h:lJ w b g ts c) (d:Fr S w w') (h1:¬S b) (j:¬S g):lJ w' b g ts c:=⟨h.st.fr d h1,h.nd.fr d j⟩
theorem lJ.below {w:aq} {ts:List Nat} (h:lJ w b g ts c) (hb:Below w w w'):lJ w' b g ts c:=⟨h.st.below hb h.st.lt,h.nd.below hb h.nd.lt⟩
theorem slap (w:aq) (g:Nat):(Instr.arrayAt 247 (.slice (some (g,0)) 8 8)).run prog w=.ok (.pointer (some (g,0))) w:=dw
theorem ZiC (g:Nat):Array.foldl (λd x=>d.setIfInBounds x.snd x.fst) (#[(0:Int),.slice none 0 0,(0:Int),.slice none 0 0,(0:Int),.slice none 0 0,(0:Int),.slice none 0 0,(0:Int),.slice none 0 0,(0:Int),.slice none 0 0,(0:Int),.slice none 0 0,(0:Int),.slice none 0 0,.int .u8 0]:Array aI) (tJ g 8).zipIdx 0 16=xH g 0:=dw
theorem ZnV:prog.underlying 247=some (.array 8 244):=dw
theorem Z72 (w:aq):
  Calls prog 160 #[] w λx w'=>∃b,x=.returned (.pointer (some ⟨b,0,none⟩))/\w.heap.size<b/\lJ w' b w (List.replicate 2048 1024) 0/\Below w w w':=by have p:=J (ZbR w);go_in;go_wp21;refine aP p.out λw1 ⟨h1,g,hb⟩=>?_;have t:=J h1;have z:=J g;have E:=slap w1 (w.heap.size+1);have u:=ZiC w;have B:=g.lt;have q:w1.heap[w.heap.size+1]? =some (.cells (tJ w 8) 244 (0,0)):=g;obtain⟨y,k⟩:=ay (xH w 0);obtain⟨l,d⟩:=ay (tJ w 8);rw[k,d] at u;rw[d] at q;have hi:(prog.info? 247).map (·.size)=some l.size:=(by rw[<-d];kernel_rfl);have j:=J k;have D:l.size=16:=(by rw[<-d];rfl);clear h1 g p k d;go_wp2_with (refine wpList_load_row rfl 247 _ rfl (w.heap.size+1) rfl 244 l (0,0) _ q ZnV rfl hi ?_);go_returns;exact⟨_,rfl,O,⟨by rw[j.out];exact Bk.new _ _ _,t.out.alloc _⟩,hb.alloc hb.size _⟩
theorem lJ.drew {w:aq} {ts:List Nat} (h:lJ w b g ts c):lJ w.drew b g ts c:=⟨h.st,h.nd⟩
theorem lJ.foot {w:aq} {eb:Nat} {dv:aI} {ts:List Nat} {e:En} (h:lJ w b g ts c) (j:dY w eb dv e):¬foot eb dv b/\¬foot eb dv g:=by refine⟨λd=> ?_,Gq j h.nd⟩;rcases d with d|d;exact Bk.apart h.st j.1 aY d;exact Z1 j.2 h.st aY d
theorem Zp4 (h:∀t∈ts,iV t/\t.length=256) (d:ts.length=8):ts.flatten.length=2048:=by rw[ZdY (λt g=>(h t g).2),d]
def MB (b g eb:Nat) (dv:aI):Nat->Prop:=λk=>k=b\/tc g eb dv k
theorem Zed {w:aq} {eb:Nat} {dv:aI} {e:En} (h:lJ w b g ts.flatten c0) (D:∀t∈ts,iV t/\t.length=256) (c3:ts.length=8) (a1:dY w eb dv e) (b8:dE 0 e) (c:cj) (b5:e.out.length<=800000):
  Calls prog 119 #[(b,0),(eb,0),.int .u8 (c.toNat:Int)] w λx w'=>x=.returned (.tuple #[])/\lJ w' b g (ts.set (c0.toNat/32) (fM 8 c.toNat 1 (ts.getD (c0.toNat/32) []) e).1).flatten c/\∃Q,dY w' eb Q (fM 8 c.toNat 1 (ts.getD (c0.toNat/32) []) e).2/\Fr (MB b g eb dv) w w'/\Zu w dv Q:=by
 have a4:=Lf c0;have a2:=h.foot a1;have b6:=Zp4 D c3;have M:=h.st.cell 16;rw[CW] at M;obtain⟨k,B⟩:=ay (c0.toNat/32);rw[B] at a4⊢;have i1:(c0.toNat:Int)/32=(k:Int):=O;have c5:IntKind.i64.wrap ((c.toNat:Nat):Int)=((c.toNat:Nat):Int):=IntWalk.i64_in _ Jo;have a9:2*k=k*2:=tP _ _;have y:=J (λ(W:aq) (a0:lJ W b g ts.flatten c0) (F:dY W eb dv e)=>TM (a0.tree a4) O yH yH (Vg (λt h=>(D t h).1)) F (a0.foot F).1 b8 c.toNat Jo b5);rw[<-c5,a9] at y;have l:∀t∈ts,t.length=256:=λt h=>(D t h).2;obtain⟨c7,c8⟩:=J5 (L:=256) l (j:=k) O;obtain⟨q1,q2⟩:=VH 8 (256*k) c.toNat 1 256 (t:=ts.flatten) (e:=e) yH aY;rw[c7] at q1 q2;rw[c8 _ q2] at q1;have E:=J q1;have d3:(k:Int)<8:=O;have d2:(0:Int)<=k:=O;have b2:=c.toNat_lt;obtain⟨m,b7⟩:=ay c.toNat;have I:=Wu g c0 c;rw[b7] at y E b2 I⊢;obtain⟨m0,c4⟩:=ay c0.toNat;rw[c4] at M i1;obtain⟨a8,d,a6⟩:=bD I h a1;have b1:=h.st.lt;have b0:¬tc g eb dv b:=λq=>by rcases q with q|q;exact Bk.apart h.st h.nd aY q;exact a2.1 q
 have b9:=a2.1;go_in;go_wp2;go_region_with ((go_at_call 118;refine(y.out _ d.out.drew a6.out.drew).mono ?_;rintro r w1 ⟨rfl,d1,c6,b4,G,a3⟩))
 all_goals
  have u:=d.out.st.drew.fr G b0;have b3:=u.frozen 16;have a7:=u.cell 16;rw[CW] at a7;have c9:=Te (w1:=w1) b9 a3 b1;go_wp2;go_end0;have R:=u.put 16 (.int .u8 (m:Int));rw[a8.out] at R;have z:=d1.nd;have S:=b4.offG (m:=16) (x:=.int .u8 (m:Int)) c9;rw[E.out] at z S;have a5:=Bk.apart u z aY;exact⟨rfl,⟨R,z.off (p:=⟨b,16,none⟩) (Ne.symm a5) _⟩,c6,S,((Fr.refl (MB b g eb dv) w).drew.trans (G.mono (λk B=>.inr B))).setCell (p:=⟨b,16,none⟩) (.inl (.inl rfl)) _,a3⟩
theorem Zec {w:aq} {eb:Nat} {d:De} (h:lJ w b g ts.flatten c0) (M:∀t∈ts,iV t/\t.length=256) (c9:ts.length=8) (a5:dD w eb d) (a6:DV 0 d):
  Calls prog 216 #[(b,0),(eb,0)] w λx w'=>x=.returned (.int .u8 (((UInt8.ofNat ((ej 8 1 (ts.getD (c0.toNat/32) []) d).1-256)).toNat:Nat):Int))/\lJ w' b g (ts.set (c0.toNat/32) (ej 8 1 (ts.getD (c0.toNat/32) []) d).2.1).flatten (UInt8.ofNat ((ej 8 1 (ts.getD (c0.toNat/32) []) d).1-256))/\dD w' eb (ej 8 1 (ts.getD (c0.toNat/32) []) d).2.2/\Fr (λk=>k=b\/vg g eb k) w w':=by
 have a7:=Lf c0;have b6:=Zp4 M c9;have a3:=h.st.cell 16;rw[CW] at a3;obtain⟨k,I⟩:=ay (c0.toNat/32);rw[I] at a7⊢;have i1:(c0.toNat:Int)/32=(k:Int):=O;have Q:b≠eb:=Bk.apart h.st a5 aY;have a0:b≠g:=Bk.apart h.st h.nd aY;have b4:2*k=k*2:=tP _ _;have a1:=Vg (λt h=>(M t h).1);have q:=J (λ(W:aq) (c4:lJ W b g ts.flatten c0) (b0:dD W eb d)=>TL (c4.tree a7) O yH yH a1 b0 Q a6);rw[b4] at q;have u:∀t∈ts,t.length=256:=λt h=>(M t h).2;obtain⟨d2,d3⟩:=J5 (L:=256) u (j:=k) O;obtain⟨q1,q2⟩:=VG 8 (256*k) 1 256 (t:=ts.flatten) (d:=d) yH aY;obtain⟨_,_,_,R,S⟩:=z_ 8 (256*k) 1 256 ts.flatten d a1 yH aY a6;rw[d2] at q1 q2;rw[d3 _ q2] at q1;rw[q1] at q R S;simp only at q R S;have b5:(2:Nat) ^ 8=256:=aY;rw[b5] at q R S;have d6:(k:Int)<8:=O;have d5:(0:Int)<=k:=O;obtain⟨z,c6⟩:=ay ((ej 8 1 (ts.getD k []) d).1-256);have c7:z<256:=O;rw[c6] at q⊢;have B:(UInt8.ofNat z).toNat=z:=(by rw[UInt8.toNat_ofNat'];omega);have a2:=Wu g c0 (UInt8.ofNat z);rw[B] at a2⊢;obtain⟨m0,d1⟩:=ay c0.toNat;rw[d1] at a3 i1;have c5:IntKind.u8.wrap (z:Int)=(z:Int):=yA;obtain⟨E,b3,l,a9⟩:=dc B a2 h a5;have d7:=h.st.lt;have F:¬vg g eb b:=λy=>by rcases y with y|y;exact a0 y;exact Q y
 have b7:=h.st.frozen 16;go_in;go_wp2;go_region_with ((go_at_call 215;refine(q.out _ l.out.drew a9.out.drew).mono ?_;rintro r w1 ⟨rfl,d4,b8,D⟩;have a4:=(l.out.st.drew.fr D F).frozen 16;have b2:=(l.out.st.drew.fr D F).cell 16;rw[CW] at b2))
 all_goals
  have c8:=l.out.st.drew.fr D F;have G:=c8.put 16 (.int .u8 (z:Int));rw[b3.out] at G;have b1:=G.cell 16;rw[CW,E.out] at b1;have c3:=d4.nd.off (p:=⟨b,16,none⟩) (Ne.symm a0) (.int .u8 (z:Int));have b9:=b8.offG (m:=16) (x:=.int .u8 (z:Int)) Q;have hF:Fr (λk=>k=b\/vg g eb k) w (w1.setCell (b,16) (.int .u8 (z:Int))):=((Fr.refl (λk=>k=b\/vg g eb k) w).drew.trans (D.mono (λk I=>.inr I))).setCell (p:=⟨b,16,none⟩) (.inl (.inl rfl)) _;have a8:=J G;generalize w1.setCell ⟨b,16,none⟩ (.int .u8 (z:Int))=W2 at*;go_wp2;go_ret;exact⟨rfl,⟨a8.out,c3⟩,b9,hF⟩
structure Pl where
 kb:Nat
 kg:Nat
 bb:Nat
 bg:Nat
 lb:Nat
 lg:Nat
 db:Nat
 dg:Nat
structure gj (w:World) (p:Pl) (m:Ms):Prop where
 ks:Bk w p.kb 244 #[(1:Int),.slice (some ⟨p.kg,0,none⟩) 2 2]
 kn:Bk w p.kg 3 (nc m.kind)
 bt:lJ w p.bb p.bg m.bytes.flatten m.last
 ln:fp w p.lb p.lg m.len
 dn:fp w p.db p.dg m.dist
 a1:p.kg≠p.bg
 a2:p.kg≠p.lg
 a3:p.kg≠p.dg
 a4:p.bg≠p.lg
 a5:p.bg≠p.dg
 a6:p.lg≠p.dg
structure yj (T:Nat->Prop) (p:Pl):Prop where
 kb:¬T p.kb
 kg:¬T p.kg
 bb:¬T p.bb
 bg:¬T p.bg
 lb:¬T p.lb
 lg:¬T p.lg
 db:¬T p.db
 dg:¬T p.dg
theorem Vi {w:aq} {eb:Nat} {dv:aI} {e:En} {t:TypeId} {j:Array aI} (g:dY w eb dv e) (h:Bk w b t j) (h1:t≠242) (k:5≠t):¬foot eb dv b:=λd=>by rcases d with d|d;exact Bk.apart h g.1 h1 d;exact Z1 g.2 h k d
theorem gj.offE {w:aq} {p:Pl} {m:Ms} (h:gj w p m) {eb:Nat} {dv:aI} {e:En} (d:dY w eb dv e):yj (foot eb dv) p:=
 ⟨Vi d h.ks aY aY,Gq d h.kn,(h.bt.foot d).1,(h.bt.foot d).2,(h.ln.foot d).1,(h.ln.foot d).2,(h.dn.foot d).1,(h.dn.foot d).2⟩
theorem gj.offD {w:aq} {p:Pl} {m:Ms} (h:gj w p m) {eb:Nat} {d:De} (g:dD w eb d):yj (only eb) p:=
 ⟨Bk.apart h.ks g aY,Bk.apart h.kn g aY,Bk.apart h.bt.st g aY,Bk.apart h.bt.nd g aY,(h.ln.onl g).1,(h.ln.onl g).2,(h.dn.onl g).1,(h.dn.onl g).2⟩
theorem gj.kind {w:aq} {p:Pl} {m:Ms} (h:gj w p m):pd w p.kb 0 p.kg 0 1 m.kind:=
 ⟨h.ks.cell 0,h.ks.cell 1,h.kn,Bk.apart h.ks h.kn aY,h.ks.lt⟩
theorem gj.fr {S:Nat->Prop} {w:aq} {p:Pl} {m:Ms} (h:gj w p m) (g:Fr S w w') (d:yj S p):gj w' p m:=
 ⟨h.ks.fr g d.kb,h.kn.fr g d.kg,h.bt.fr g d.bb d.bg,h.ln.fr g d.lb d.lg,h.dn.fr g d.db d.dg,h.a1,h.a2,h.a3,h.a4,h.a5,h.a6⟩
theorem gj.below {w:aq} {p:Pl} {m:Ms} (h:gj w p m) (hb:Below w w w'):gj w' p m:=
 ⟨h.ks.below hb h.ks.lt,h.kn.below hb h.kn.lt,h.bt.below hb,h.ln.below hb,h.dn.below hb,h.a1,h.a2,h.a3,h.a4,h.a5,h.a6⟩
theorem gj.drew {w:aq} {p:Pl} {m:Ms} (h:gj w p m):gj w.drew p m:=
 ⟨h.ks,h.kn,h.bt.drew,h.ln.drew,h.dn.drew,h.a1,h.a2,h.a3,h.a4,h.a5,h.a6⟩
theorem gj.drewN {w:aq} {p:Pl} {m:Ms} (h:gj w p m) (n:Nat):gj (w.drewN n) p m:=
 ⟨h.ks,h.kn,⟨h.bt.st,h.bt.nd⟩,h.ln,h.dn,h.a1,h.a2,h.a3,h.a4,h.a5,h.a6⟩
theorem gj.setK {S T:Nat->Prop} {w:aq} {p:Pl} {m:Ms} (h:gj w p m) (j:Fr S w w') (g:∀k,S k->k=p.kg\/T k) (d:yj T p) (l:Bk w' p.kg 3 (nc t)):gj w' p { m with kind:=t } :=by
 have key:∀k,k≠p.kg->¬T k->¬S k:=λk h1 L a7=>Jg
 exact⟨h.ks.fr j (key _ (Bk.apart h.ks h.kn aY) d.kb),l,h.bt.fr j (key _ (Bk.apart h.bt.st h.kn aY) d.bb) (key _ (Ne.symm h.a1) d.bg),h.ln.fr j (key _ (Bk.apart h.ln.1 h.kn aY) d.lb) (key _ (Ne.symm h.a2) d.lg),
  h.dn.fr j (key _ (Bk.apart h.dn.1 h.kn aY) d.db) (key _ (Ne.symm h.a3) d.dg),h.a1,h.a2,h.a3,h.a4,h.a5,h.a6⟩
theorem gj.setB {S T:Nat->Prop} {w:aq} {p:Pl} {m:Ms} (h:gj w p m) (g:Fr S w w') (t:∀k,S k->k=p.bb\/k=p.bg\/T k) (d:yj T p) (u:lJ w' p.bb p.bg ts.flatten c):gj w' p { m with bytes:=ts,last:=c } :=by
 have key:∀k,k≠p.bb->k≠p.bg->¬T k->¬S k:=λk h1 j l q=>by rcases t k q with h|h|h;exact h1 h;exact j h;exact l h
 exact⟨h.ks.fr g (key _ (Bk.apart h.ks h.bt.st aY) (Bk.apart h.ks h.bt.nd aY) d.kb),h.kn.fr g (key _ (Bk.apart h.kn h.bt.st aY) h.a1 d.kg),u,
  h.ln.fr g (key _ (Bk.apart h.ln.1 h.bt.st aY) (Bk.apart h.ln.1 h.bt.nd aY) d.lb) (key _ (Bk.apart h.ln.2 h.bt.st aY) (Ne.symm h.a4) d.lg),
  h.dn.fr g (key _ (Bk.apart h.dn.1 h.bt.st aY) (Bk.apart h.dn.1 h.bt.nd aY) d.db) (key _ (Bk.apart h.dn.2 h.bt.st aY) (Ne.symm h.a5) d.dg),h.a1,h.a2,h.a3,h.a4,h.a5,h.a6⟩
theorem gj.setL {S T:Nat->Prop} {w:aq} {p:Pl} {m:Ms} (h:gj w p m) (j:Fr S w w') (g:∀k,S k->k=p.lg\/T k) (d:yj T p) (l:fp w' p.lb p.lg t):gj w' p { m with len:=t } :=by
 have key:∀k,k≠p.lg->¬T k->¬S k:=λk h1 L a7=>Jg
 exact⟨h.ks.fr j (key _ (Bk.apart h.ks h.ln.2 aY) d.kb),h.kn.fr j (key _ h.a2 d.kg),h.bt.fr j (key _ (Bk.apart h.bt.st h.ln.2 aY) d.bb) (key _ h.a4 d.bg),l,
  h.dn.fr j (key _ (Bk.apart h.dn.1 h.ln.2 aY) d.db) (key _ (Ne.symm h.a6) d.dg),h.a1,h.a2,h.a3,h.a4,h.a5,h.a6⟩
theorem gj.setD {S T:Nat->Prop} {w:aq} {p:Pl} {m:Ms} (h:gj w p m) (j:Fr S w w') (g:∀k,S k->k=p.dg\/T k) (d:yj T p) (l:fp w' p.db p.dg t):gj w' p { m with dist:=t } :=by have key:∀k,k≠p.dg->¬T k->¬S k:=λk h1 L a7=>Jg;exact⟨h.ks.fr j (key _ (Bk.apart h.ks h.dn.2 aY) d.kb),h.kn.fr j (key _ h.a3 d.kg),h.bt.fr j (key _ (Bk.apart h.bt.st h.dn.2 aY) d.bb) (key _ h.a5 d.bg),h.ln.fr j (key _ (Bk.apart h.ln.1 h.dn.2 aY) d.lb) (key _ h.a6 d.lg),l,h.a1,h.a2,h.a3,h.a4,h.a5,h.a6⟩
structure BM (B:Nat) (p:Pl):Prop where
 kb:B<=p.kb
 kg:B<=p.kg
 bb:B<=p.bb
 bg:B<=p.bg
 lb:B<=p.lb
 lg:B<=p.lg
 db:B<=p.db
 dg:B<=p.dg
def sG (p:Pl):Array aI:= #[.pointer (some ⟨p.kb,0,none⟩),.pointer (some ⟨p.bb,0,none⟩),.pointer (some ⟨p.lb,0,none⟩),.pointer (some ⟨p.db,0,none⟩)]
theorem Tk (w:aq):
  Calls prog 115 #[] w λx w'=>∃p,x=.returned (.agg (sG p))/\gj w' p m0/\BM w p/\Below w w w':=by
 obtain⟨M,L,u,a1,a5⟩:=ii (λW=>Z8K W) (λW=>Z72 W) (λW=>K2 W) ((bf w w).alloc aU (.cells #[.pointer none,.pointer none,.pointer none,.pointer none] 193)) (Bk.new w 193 #[.pointer none,.pointer none,.pointer none,.pointer none]);go_in;go_wp21;refine aP (M.out _) λw1 ⟨k1,k2,b1⟩=>?_;go_wp21;refine(L.out _).mono ?_;rintro x w2 ⟨bb,rfl,a8,k3,k⟩;go_wp21;refine(u.out _).mono ?_;rintro x D ⟨lb,rfl,R,z,b3⟩;go_wp21;refine(u.out _).mono ?_;rintro x j ⟨db,rfl,a7,a0,g⟩;have y:(w.alloc (.cells #[.pointer none,.pointer none,.pointer none,.pointer none] 193))=w.heap.size+1:=World.size_alloc _ _;have s1:=b1.size;have a3:=k.size;have a4:=b3.size;have b6:=g.size;rw[y] at s1;have B:=k1.lt;have l2:=k2.lt;have b5:=k3.nd.lt;have l4:=z.2.lt;rw[y] at k1 k2 B l2;have c1:Below w1.heap.size w1 j:=(k.trans (b3.mono a3)).trans (g.mono O);have c2:Below w2 w2 j:=b3.trans (g.mono a4);have d:=(((a5.out.below b1 O).below k O).below b3 O).below g O;have l:Below w w j:=(a1.out.trans (b1.mono O)).trans (c1.mono O);have a2:=d.cell 0;have q1:=d.cell 1;have q2:=d.cell 2;have q3:=d.cell 3;have f0:=d.frozen 0;have f1:=d.frozen 1;have a9:=d.frozen 2;have b0:=d.frozen 3;simp at a2 q1 q2 q3;have hF:=(((d.put 0 (.pointer (some ⟨w+1+1,0,none⟩))).put 1 (.pointer (some ⟨bb,0,none⟩))).put 2 (.pointer (some ⟨lb,0,none⟩))).put 3 (.pointer (some ⟨db,0,none⟩));have E:=hF.cell 0;have F:=hF.cell 1;have G:=hF.cell 2;have I:=hF.cell 3;simp at E F G I;have q:=J ((((l.setCell (p:=⟨w,0,none⟩) aU (.pointer (some ⟨w+1+1,0,none⟩))).setCell (p:=⟨w,1,none⟩) aU (.pointer (some ⟨bb,0,none⟩))).setCell (p:=⟨w,2,none⟩) aU (.pointer (some ⟨lb,0,none⟩))).setCell (p:=⟨w,3,none⟩) aU (.pointer (some ⟨db,0,none⟩)))
 have S:gj j ⟨w+1+1,w.heap.size+1,bb,w1.heap.size,lb,w2.heap.size,db,D.heap.size⟩ m0:=
  ⟨k2.below c1 l2,k1.below c1 B,(show lJ w2 bb w1.heap.size m0.bytes.flatten 0 from by rw[show m0.bytes.flatten=List.replicate 2048 1024 from ZiA];exact k3).below c2,z.below g,a0,dz,dz,dz,dz,dz,dz⟩
 have Q:=S.fr (((((Fr.refl (only w.heap.size) j).setCell (p:=⟨w,0,none⟩) (.inl rfl) (.pointer (some ⟨w+1+1,0,none⟩))).setCell (p:=⟨w,1,none⟩) (.inl rfl) (.pointer (some ⟨bb,0,none⟩))).setCell (p:=⟨w,2,none⟩) (.inl rfl) (.pointer (some ⟨lb,0,none⟩))).setCell (p:=⟨w,3,none⟩) (.inl rfl) (.pointer (some ⟨db,0,none⟩)))
  (by constructor<;>simp only[only]<;>omega);have a6:=J Q;have t:Hid (BM w ⟨w+1+1,w.heap.size+1,bb,w1.heap.size,lb,w2.heap.size,db,D.heap.size⟩):=J (by constructor<;>simp only<;>omega);go_wp21;refine bodyPost_ret (v:=.agg #[.pointer (some ⟨w+1+1,0,none⟩),.pointer (some ⟨bb,0,none⟩),.pointer (some ⟨lb,0,none⟩),.pointer (some ⟨db,0,none⟩)]) (by simp[results,results115,go_sem,E,F,G,I];try rfl) rfl ?_;exact⟨_,rfl,a6.out,t.out,q.out⟩
def qY (t:Pc):Array aI:= #[.int .i64 (t.len:Int),.int .i64 (t.dist:Int),.int .u8 (t.byte.toNat:Int)]
structure kJ (w:World) (p:Pl) (mb cb eb:Nat) (dv:Value) (x:Ms×En):Prop where
 ms:gj w p x.1
 en:dY w eb dv x.2
 mc:Bk w mb 193 (sG p)
 cc:Bk w cb 195 #[.pointer (some ⟨eb,0,none⟩)]
def QA (p:Pl) (eb:Nat) (dv:aI):Nat->Prop:=λk=>k=p.kg\/k=p.bb\/k=p.bg\/k=p.lg\/k=p.dg\/foot eb dv k
theorem Ln {p:Pl} {eb:Nat} {dv:aI} (R:g=p.kg\/g=p.lg\/g=p.dg):∀k,tc g eb dv k->QA p eb dv k:=λk h=>ND
theorem Zlt {p:Pl} {eb:Nat} {dv:aI} :∀k,MB p.bb p.bg eb dv k->QA p eb dv k:=λk h=>by rcases h with h|h|h;exact .inr (.inl h);exact .inr (.inr (.inl h));exact .inr (.inr (.inr (.inr (.inr h))))
theorem Kf {p:Pl} {eb:Nat} {dv j:aI} {w w1 w2:aq} (h:Fr (QA p eb dv) w w1) (k:Fr (QA p eb j) w1 w2) (g:Zu w dv j):Fr (QA p eb dv) w w2:=
 h.trans' k (λi hi d=>by rcases d with d|d|d|d|d|d|d;exact .inl d;exact .inr (.inl d);exact .inr (.inr (.inl d));exact .inr (.inr (.inr (.inl d)));exact .inr (.inr (.inr (.inr (.inl d))));exact .inr (.inr (.inr (.inr (.inr (.inl d)))));rcases g with g|g;exact .inr (.inr (.inr (.inr (.inr (.inr (g▸d))))));have:=g i d;omega)
theorem Ke {w:aq} {p:Pl} {m:Ms} (h:gj w p m) {eb:Nat} {dv:aI} {e:En} (q:dY w eb dv e) {t:TypeId} {j:Array aI} (hb:Bk w b t j) (h1:t≠242) (k:5≠t) (g:t≠3) (l:t≠249):¬QA p eb dv b:=λd=>by rcases d with d|d|d|d|d|d;exact Bk.apart hb h.kn g d;exact Bk.apart hb h.bt.st l d;exact Bk.apart hb h.bt.nd g d;exact Bk.apart hb h.ln.2 g d;exact Bk.apart hb h.dn.2 g d;exact Vi q hb h1 k d
theorem kJ.mk_next {w:aq} {p:Pl} {mb cb eb:Nat} {dv d:aI} {x y:Ms×En} (h:kJ w p mb cb eb dv x) (g:Fr (QA p eb dv) w w') (k:gj w' p y.1) (j:dY w' eb d y.2):kJ w' p mb cb eb d y:=
 ⟨k,j,h.mc.fr g (Ke h.ms h.en h.mc aY aY aY aY),h.cc.fr g (Ke h.ms h.en h.cc aY aY aY aY)⟩
theorem kJ.below {w:aq} {p:Pl} {mb cb eb:Nat} {dv:aI} {x:Ms×En} (h:kJ w p mb cb eb dv x) (hb:Below w w w'):kJ w' p mb cb eb dv x:=
 ⟨h.ms.below hb,h.en.below hb,h.mc.below hb h.mc.lt,h.cc.below hb h.cc.lt⟩
section
variable {w:aq} {p:Pl} {mb cb eb:Nat} {dv:aI} {x:Ms×En}
theorem Zq7 (n v:Nat) (t:List Nat) (e:En) (h:t.length=2 ^ n):vj n 0 v 1 t e=fM n v 1 t e:=by obtain⟨a,b⟩:=VH n 0 v 1 (2 ^ n) (t:=t) (e:=e) O O;exact O2
theorem Uq (h:kJ w p mb cb eb dv x) (F:fo x.1) (z:dE 0 x.2) (b:Nat) (hb:b<2) (y:x.2.out.length<=800000):
  cK 118 #[(p.kb,0),(eb,0),b] w λr w'=>r=.returned (.tuple #[])/\∃j,kJ w' p mb cb eb j (gx b x)/\Fr (QA p eb dv) w w'/\Zu w dv j:=by have q:=h.ms.offE h.en;refine(TM h.ms.kind O Fw Fw F.k.1 h.en q.kb z b O y).mono ?_;rintro r w1 ⟨rfl,t,D,l,d,B⟩;rw[Zq7 1 b _ _ F.k.2] at t l;have g:=d.mono (Ln (p:=p) (.inl rfl));exact⟨rfl,D,h.mk_next g (h.ms.setK d (λk u=>u) q t.nd) l,g,B⟩
theorem Zh4 (h:kJ w p mb cb eb dv x) (l:fo x.1) (B:dE 0 x.2) (c:cj) (u:x.2.out.length<=800000):
  cK 119 #[(p.bb,0),(eb,0),.int .u8 (c.toNat:Int)] w λr w'=>r=.returned (.tuple #[])/\∃j,kJ w' p mb cb eb j (rB c x)/\Fr (QA p eb dv) w w'/\Zu w dv j:=by have y:=h.ms.offE h.en;refine(Zed h.ms.bt l.b l.bl h.en B c u).mono ?_;rintro r w1 ⟨rfl,z,E,q,d,D⟩;have g:=d.mono (Zlt (p:=p));exact⟨rfl,E,h.mk_next g (h.ms.setB d (λk t=>t) y z) q,g,D⟩
theorem Zkm (h:kJ w p mb cb eb dv x) (y:fo x.1) (D:dE 0 x.2) (v:Nat) (F:v<4611686018427387904) (u:x.2.out.length<=800000):
  cK 120 #[(p.lb,0),(eb,0),v] w λr w'=>r=.returned (.tuple #[])/\∃j,kJ w' p mb cb eb j (nQ v x)/\Fr (QA p eb dv) w w'/\Zu w dv j:=by have z:=h.ms.offE h.en;refine(K0 h.ms.ln y.l h.en D v F u).mono ?_;rintro r w1 ⟨rfl,B,G,q,d,E⟩;have g:=d.mono (Ln (p:=p) (.inr (.inl rfl)));exact⟨rfl,G,h.mk_next g (h.ms.setL d (λk t=>t) z B) q,g,E⟩
theorem Zh5 (h:kJ w p mb cb eb dv x) (y:fo x.1) (D:dE 0 x.2) (v:Nat) (F:v<4611686018427387904) (u:x.2.out.length<=800000):
  cK 120 #[(p.db,0),(eb,0),v] w λr w'=>r=.returned (.tuple #[])/\∃l,kJ w' p mb cb eb l (tu v x)/\Fr (QA p eb dv) w w'/\Zu w dv l:=by have z:=h.ms.offE h.en;refine(K0 h.ms.dn y.d h.en D v F u).mono ?_;rintro r w1 ⟨rfl,B,G,q,g,E⟩;have j:=g.mono (Ln (p:=p) (.inr (.inr rfl)));exact⟨rfl,G,h.mk_next j (h.ms.setD g (λk t=>t) z B) q,j,E⟩
end
theorem Gv (b:Nat) (x:Ms×En):(gx b x).2.out<=x.2.out.length+2:=KR b 1 1 x.1.kind x.2
theorem Zhp (c:cj) (x:Ms×En):(rB c x).2.out<=x.2.out.length+16:=KR c.toNat 8 1 (se x.1) x.2
theorem Vv (d:v<4611686018427387904) (x:Ms×En):(nQ v x).2.out<=x.2.out.length+134:=K1 v d (x.1.len,x.2)
theorem Zif (d:v<4611686018427387904) (x:Ms×En):(tu v x).2.out<=x.2.out.length+134:=K1 v d (x.1.dist,x.2)
theorem V1 {t:Pc} (h1:t.len<=1000000) (d:t.dist<=1000000) (g:t.dist=0/\1<=t.len\/2<=t.len) (x:Ms×En):(lB t x).2.out<=x.2.out.length+135*t.len:=by unfold lB;split;have a:=Gv 0 x;have b:=Zhp t.byte (gx 0 x);omega;have a:=Gv 1 x;have b:=Vv (v:=t.len-2) O (gx 1 x);have c:=Zif (v:=t.dist-1) O (nQ (t.len-2) (gx 1 x));omega
theorem Z8G {w:aq} {p:Pl} {mb cb eb:Nat} {dv:aI} {x:Ms×En} (h:kJ w p mb cb eb dv x) (L:fo x.1) (M:dE 0 x.2) (t:Pc) (h1:t.len<=1000000) (d9:t.dist<=1000000) (e5:t.dist=0/\1<=t.len\/1<=t.dist/\2<=t.len) (h5:x.2.out.length<=700000):
  Calls prog 117 #[.agg (qY t),(mb,0),(cb,0)] w λr w'=>r=.returned (.tuple #[])/\∃b3,kJ w' p mb cb eb b3 (lB t x)/\Fr (QA p eb dv) w w'/\Zu w dv b3:=by
 have G:=J (λ(o:Obj)=>h.below ((bf w w).alloc aU o));obtain⟨tl,td,tb⟩:=t;simp only at h1 d9 e5;unfold qY;simp only
 have I:Hid (∀(W:aq) (d:aI) (y:Ms×En),kJ W p mb cb eb d y->W.cell? (mb,0)=(p.kb,0)/\W.cell? (mb,1)=(p.bb,0)/\W.cell? (mb,2)=(p.lb,0)/\W.cell? (mb,3)=(p.db,0)/\W.cell? (cb,0)=(eb,0)):=
  J (λW d y j=>⟨j.mc.cell 0,j.mc.cell 1,j.mc.cell 2,j.mc.cell 3,j.cc.cell 0⟩)
 have a2:Hid (∀(W W':aq) (d:aI) (y:Ms×En) (a b c:aI),kJ W p mb cb eb d y->Fr (QA p eb d) W W'->Bk W w 198 #[a,b,c]->Bk W' w 198 #[a,b,c]):=
  J (λW W' d y a b c j a3 hb=>hb.fr a3 (Ke j.ms j.en hb aY aY aY aY));have b4:=J (λ(W':aq) (o:Obj) (d:aI) (a3:Fr (QA p eb dv) (w.alloc o) W') (e7:Zu (w.alloc o) dv d)=>(⟨((Fr.refl (QA p eb dv) w).alloc o).trans a3,(Zu.refl w dv).trans e7 (by simp)⟩:Fr (QA p eb dv) w W'/\Zu w dv d));have b5:=Gv 0 x;have b6:=Gv 1 x;obtain⟨oP,b9⟩:=XA (b:=0) L M;obtain⟨us,b0⟩:=XA (b:=1) L M;obtain⟨c0,c1,c2,f9,g5⟩:=I.out _ _ _ h;have e6:=h.mc.lt;have f8:=h.cc.lt;by_cases hd:td=0
 .subst hd;have a4:lB ⟨tl,0,tb⟩ x=rB tb (gx 0 x):=rfl;rw[a4];have R:=J (λ(W:aq) (g:kJ W p mb cb eb dv x)=>Uq g L M 0 O O);have a8:=J (λ(W:aq) (d:aI) (g:kJ W p mb cb eb d (gx 0 x))=>Zh4 g oP b9 tb O);generalize gx 0 x=y at*;generalize rB tb y=z at*;obtain⟨B,a1⟩:=ay tb.toNat;rw[a1] at a8⊢;have a5:=J (Bk.new w 198 #[tl,((0:Nat):Int),.int .u8 (B:Int)]);go_in;go_wp21;refine aP (R.out _ (G.out _)) λw1 ⟨c8,l,q,a6⟩=>?_;have k:=a2.out _ _ _ _ _ _ _ (G.out _) q a5.out;obtain⟨e0,d5,d6,d7,d8⟩:=I.out _ _ _ l;have t0:=k.cell 0;have t1:=k.cell 1;have f3:=k.cell 2;simp at t0 t1 f3;obtain⟨D,E⟩:=b4.out _ _ _ q a6;have S:=D.size;go_wp21;refine aP (a8.out _ _ l) λw2 ⟨b2,Q,F,a0⟩=>?_;go_wp2;first|go_end0|go_returns
  exact⟨rfl,b2,Q,Kf D F E,E.trans a0 S⟩
 have a4:lB ⟨tl,td,tb⟩ x=tu (td-1) (nQ (tl-2) (gx 1 x)):=(by unfold lB;rw[aD hd]);rw[a4];have g6:=Vv (v:=tl-2) O (gx 1 x);obtain⟨lv,a7⟩:=Gw (v:=tl-2) us b0;obtain⟨R,a9,Hd⟩:=bD (λ(W:aq) (g:kJ W p mb cb eb dv x)=>Uq g L M 1 O O) (λ(W:aq) (d:aI) (g:kJ W p mb cb eb d (gx 1 x))=>Zkm g us b0 (tl-2) O O) (λ(W:aq) (d:aI) (g:kJ W p mb cb eb d (nQ (tl-2) (gx 1 x)))=>Zh5 g lv a7 (td-1) O O);generalize gx 1 x=y at*;generalize nQ (tl-2) y=u at*;generalize tu (td-1) u=z at*;obtain⟨B,a1⟩:=ay tb.toNat;rw[a1];have a5:=J (Bk.new w 198 #[tl,td,.int .u8 (B:Int)]);have i1:(tl:Int)-2=((tl-2:Nat):Int):=O;have e8:(td:Int)-1=((td-1:Nat):Int):=O;have h6:((td:Int)==0)=false:=oe;obtain⟨f5,c7⟩:=ay (tl-2);obtain⟨f4,e9⟩:=ay (td-1);rw[c7] at a9 i1;rw[e9] at Hd e8;go_in;go_wp21;refine aP (R.out _ (G.out _)) λw1 ⟨c8,l,q,a6⟩=>?_;have k:=a2.out _ _ _ _ _ _ _ (G.out _) q a5.out;obtain⟨e0,d5,d6,d7,d8⟩:=I.out _ _ _ l;have t0:=k.cell 0;have t1:=k.cell 1;simp at t0 t1;obtain⟨D,E⟩:=b4.out _ _ _ q a6;have S:=D.size;have c6:=J k;go_wp21;refine aP (a9.out _ _ l) λw2 ⟨b2,Q,F,a0⟩=>?_;have aa:=a2.out _ _ _ _ _ _ _ l F c6.out;obtain⟨g7,g8,g9,h0,h4⟩:=I.out _ _ _ Q;have f6:=aa.cell 0;have f7:=aa.cell 1;simp at f6 f7;have b7:=Kf D F E;have b1:=E.trans a0 S;have d4:=b7.size;go_wp21;refine aP (Hd.out _ _ Q) λh7 ⟨c9,b8,c5,f2⟩=>?_;go_wp2;first|go_end0|go_returns
 exact⟨rfl,c9,b8,Kf b7 c5 b1,b1.trans f2 d4⟩
end
variable{B1 B2 B3 T bb cb g i ib ie k nc np sb td tl:Nat}{W W' W0 w w2 wr:aq}{p:Addr}{seen:Bool}{v:aI}
def ua:aI:=.agg #[(9:Int),(12:Int),(1:Int),(1:Int)]
theorem Zbr (t:Pc) (h1:t.len<=4096) (g:t.dist<=4096) (w:aq):
  Calls prog 205 #[ua,.agg (qY t)] w (bM w ((price t:Nat):Int)):=by
 obtain⟨tl,td,tb⟩:=t;simp only at h1 g;have k:price ⟨tl,td,tb⟩=if td=0 then 9 else 12+eO td+eO tl:=rfl;rw[k];unfold qY ua;simp only;have j:=J (((bf w w).alloc aU (.cells #[(9:Int),(12:Int),(1:Int),(1:Int)] 236)).alloc (by simp) (.cells #[tl,td,.int .u8 (tb.toNat:Int)] 198));generalize (tb.toNat:Int)=B at*;clear k;by_cases hd:td=0;.rw[Vag hd];subst hd;go_in;go_wp2;go_returns;exact⟨rfl,j.out⟩
 rw[aD hd];have u:((td:Int)==0)=false:=oe;have Hd:=λW=>KA td O W;have d:=λW=>KA tl O W;have wd:(td:Int)=IntKind.u64.wrap (td:Int):=(by rw[IntKind.wrap_u64];omega);have l:(tl:Int)=IntKind.u64.wrap (tl:Int):=(by rw[IntKind.wrap_u64];omega);rw[wd] at Hd;rw[l] at d;have p:Hid (IntKind.i64.wrap (IntKind.i64.wrap (12+IntKind.i64.wrap (eO td:Nat))+IntKind.i64.wrap (eO tl:Nat))=((12+eO td+eO tl:Nat):Int)):=J (by have b1:=Bh h1;have q:=Bh g;simp only[IntKind.wrap_i64];omega);have b1:=Bh h1;have q:=Bh g;have Hd:=J Hd;have d:=J d;generalize eO td=x at*;generalize eO tl=y at*;clear wd l hd;go_in;go_wp2;go_quiet ((go_at_call 164;first|(with_reducible exact zv (Hd.out _))|(with_reducible exact zv (d.out _))));go_wp2;go_returns;exact⟨ZZ p.out,mN j.out _⟩
def BD (x:St):List aI:=[.int .i64 (x.cost:Int),.int .i64 (x.pcs:Int),.int .i64 (x.first.len:Int),.int .i64 (x.first.dist:Int),.int .u8 (x.first.byte.toNat:Int)]
def ou (L:List St):Array aI:=(L.flatMap BD).toArray
theorem Lx (L:List St) (k:Nat) (h:k<L):(ou L)[k*5]? =((L.getD k dU).cost:Int)/\(ou L)[k*5+1]? =((L.getD k dU).pcs:Int)/\(ou L)[k*5+2]? =((L.getD k dU).first.len:Int)/\(ou L)[k*5+3]? =((L.getD k dU).first.dist:Int)/\(ou L)[k*5+4]? =some (.int .u8 ((L.getD k dU).first.byte.toNat:Int)):=by
 unfold ou;simp only[mF];induction L generalizing k with
 |nil=>simp at h
 |cons x r ih=>
  cases k with
  |zero=>exact⟨rfl,rfl,rfl,rfl,rfl⟩
  |succ k=>
   obtain⟨a,b,c,d,e⟩:=ih k Ct;have key:∀j,((x::r).flatMap BD)[(k+1)*5+j]? =(r.flatMap BD)[k*5+j]? :=λj=>by rw[sW,pO (by show 5<=_;omega)];congr 1;show(k+1)*5+j-5=_;omega
   have g:=key 0;rw[Vcj,Vcj] at g;rw[IB,g,key,key,key,key];exact⟨a,b,c,d,e⟩
theorem ZnC (L:List St) (k:Nat) (x:St) (h:k<L):(((((ou L).setIfInBounds (k*5) x.cost).setIfInBounds (k*5+1) x.pcs).setIfInBounds (k*5+2) x.first.len).setIfInBounds (k*5+3) x.first.dist).setIfInBounds (k*5+4) (.int .u8 (x.first.byte.toNat:Int))=ou (L.set k x):=by
 apply pS.1;unfold ou;simp only[Array.toList_setIfInBounds];induction L generalizing k with
 |nil=>simp at h
 |cons y r ih=>
  cases k with
  |zero=>rfl
  |succ k=>
   have e:=ih k Ct;rw[List.set_cons_succ,sW,sW,<-e];have key:∀(l:List aI) (j:Nat) (v:aI),(BD y++l).set ((k+1)*5+j) v=BD y++l.set (k*5+j) v:=λl j v=>by rw[nj _ _ (by show 5<=_;omega)];congr 2;show(k+1)*5+j-5=_;omega
   have d:=λl v=>key l 0 v;simp only[Vcj] at d;rw[d,key,key,key,key]
structure mg (w:World) (T bb ib cb sb:Nat) (L:List St) (i:Nat) (seen:Bool):Prop where
 tb:Bk w T 282 (ou L)
 best:Bk w bb 280 #[.slice (some ⟨T,0,none⟩) L.length L.length]
 i:Bk w ib 3 #[i]
 c:Bk w cb 236 #[(9:Int),(12:Int),(1:Int),(1:Int)]
 sn:Bk w sb 4 #[seen]
theorem mg.below {w':aq} {L:List St} (h:mg w T bb ib cb sb L i seen) (hb:Below w w w'):mg w' T bb ib cb sb L i seen:=
 ⟨h.tb.below hb h.tb.lt,h.best.below hb h.best.lt,h.i.below hb h.i.lt,h.c.below hb h.c.lt,h.sn.below hb h.sn.lt⟩
theorem mg.drewN {L:List St} (h:mg w T bb ib cb sb L i seen) (n:Nat):mg (w.drewN n) T bb ib cb sb L i seen:=⟨h.tb,h.best,h.i,h.c,h.sn⟩
theorem mg.set {L:List St} (h:mg w T bb ib cb sb L i seen) (q:k<L) (x:St):
  mg ((((((w.setCell ⟨T,k*5,none⟩ x.cost).setCell ⟨T,k*5+1,none⟩ x.pcs).setCell ⟨T,k*5+2,none⟩ x.first.len).setCell ⟨T,k*5+3,none⟩ x.first.dist).setCell ⟨T,k*5+4,none⟩ (.int .u8 (x.first.byte.toNat:Int))).setCell ⟨sb,0,none⟩ (.bool true)) T bb ib cb sb (L.set k x) i true:=by
 have g:Fr (only T) w (((((w.setCell ⟨T,k*5,none⟩ x.cost).setCell ⟨T,k*5+1,none⟩ x.pcs).setCell ⟨T,k*5+2,none⟩ x.first.len).setCell ⟨T,k*5+3,none⟩ x.first.dist).setCell ⟨T,k*5+4,none⟩ (.int .u8 (x.first.byte.toNat:Int))):=
  (((((Fr.refl (only T) w).setCell (p:=⟨T,k*5,none⟩) (.inl rfl) _).setCell (p:=⟨T,k*5+1,none⟩) (.inl rfl) _).setCell (p:=⟨T,k*5+2,none⟩) (.inl rfl) _).setCell (p:=⟨T,k*5+3,none⟩) (.inl rfl) _).setCell (p:=⟨T,k*5+4,none⟩) (.inl rfl) _;have j:=((((h.tb.put (k*5) x.cost).put (k*5+1) x.pcs).put (k*5+2) x.first.len).put (k*5+3) x.first.dist).put (k*5+4) (.int .u8 (x.first.byte.toNat:Int));rw[ZnC L k x q] at j;have d:=h.sn.fr g (Bk.apart h.sn h.tb aY);have hb:=h.best.fr g (Bk.apart h.best h.tb aY);have hi:=h.i.fr g (Bk.apart h.i h.tb aY);have l:=h.c.fr g (Bk.apart h.c h.tb aY);refine⟨j.off (p:=⟨sb,0,none⟩) (Bk.apart j d aY) _,?_,hi.off (p:=⟨sb,0,none⟩) (Bk.apart hi d aY) _,l.off (p:=⟨sb,0,none⟩) (Bk.apart l d aY) _,d.put 0 _⟩;rw[od];exact hb.off (p:=⟨sb,0,none⟩) (Bk.apart hb d aY) _
def zN (L:List St) (i:Nat) (t:Pc):St:=⟨(L.getD (i+t.len) dU).cost+price t,(L.getD (i+t.len) dU).pcs+1,t⟩
theorem mg.cells {L:List St} (h:mg w T bb ib cb sb L i seen):w.cell? (bb,0)=some (.slice (some (T,0)) L L)/\w.cell? (ib,0)=i/\w.cell? (cb,0)=(9:Int)/\w.cell? (cb,1)=(12:Int)/\w.cell? (cb,2)=(1:Int)/\w.cell? (cb,3)=(1:Int)/\w.cell? (sb,0)=seen:=
 ⟨h.best.cell 0,h.i.cell 0,h.c.cell 0,h.c.cell 1,h.c.cell 2,h.c.cell 3,h.sn.cell 0⟩
theorem mg.at {L:List St} (h:mg w T bb ib cb sb L i seen) (g:k<L):w.cell? ⟨T,k*5,none⟩=((L.getD k dU).cost:Int)/\w.cell? ⟨T,k*5+1,none⟩=((L.getD k dU).pcs:Int)/\w.cell? ⟨T,k*5+2,none⟩=((L.getD k dU).first.len:Int)/\w.cell? ⟨T,k*5+3,none⟩=((L.getD k dU).first.dist:Int)/\w.cell? ⟨T,k*5+4,none⟩=some (.int .u8 ((L.getD k dU).first.byte.toNat:Int)):=by obtain⟨a,b,c,d,e⟩:=Lx L k g;exact⟨(h.tb.cell _).trans a,(h.tb.cell _).trans b,(h.tb.cell _).trans c,(h.tb.cell _).trans d,(h.tb.cell _).trans e⟩
theorem wl (h:W.cell? p=some v) (hb:Below W W W'):W'.cell? p=some v:=by have d:p.block<W:=O5;rw[hb.cell d];exact h
theorem wo {q:Addr} {u:aI} (h:W.cell? p=some v) (d:q.block≠p.block):(W.setCell q u).cell? p=some v:=by have g:Fr (only q.block) W (W.setCell q u):=(Fr.refl (only q.block) W).setCell (p:=q) (.inl rfl) u;have j:p.block<W:=O5;rw[g.cell j (λe=>d e.symm)];exact h
abbrev kp (W0:aq) (B1 B2 B3:Nat) (nc np tl td ie:Nat) (W:aq):Prop:=
 W.cell? ⟨B1,0,none⟩=nc/\W.cell? ⟨B1,1,none⟩=np/\W.cell? ⟨B2,0,none⟩=tl/\W.cell? ⟨B2,1,none⟩=td/\W.cell? ⟨B2,2,none⟩=some (.int .u8 (ie:Int))/\W.cell? ⟨B3,0,none⟩=(9:Int)/\W.cell? ⟨B3,1,none⟩=(12:Int)/\W.cell? ⟨B3,2,none⟩=(1:Int)/\W.cell? ⟨B3,3,none⟩=(1:Int)/\Below W0 W0 W
theorem kp.below (h:kp W0 B1 B2 B3 nc np tl td ie W) (hb:Below W W W'):kp W0 B1 B2 B3 nc np tl td ie W':=
 ⟨wl h.1 hb,wl h.2.1 hb,wl h.2.2.1 hb,wl h.2.2.2.1 hb,wl h.2.2.2.2.1 hb,wl h.2.2.2.2.2.1 hb,wl h.2.2.2.2.2.2.1 hb,wl h.2.2.2.2.2.2.2.1 hb,wl h.2.2.2.2.2.2.2.2.1 hb,h.2.2.2.2.2.2.2.2.2.trans (hb.mono h.2.2.2.2.2.2.2.2.2.size)⟩
theorem kp.belowb (hb:Below W W W') (h:kp W0 B1 B2 B3 nc np tl td ie W):kp W0 B1 B2 B3 nc np tl td ie W':=h.below hb
theorem kp.dralloc (h:kp W0 B1 B2 B3 nc np tl td ie W.drew) (o:Obj):kp W0 B1 B2 B3 nc np tl td ie (W.alloc o).drew:=h.below ((bf W.drew W.drew).alloc aU o)
theorem kp.alloc (h:kp W0 B1 B2 B3 nc np tl td ie W) (o:Obj):kp W0 B1 B2 B3 nc np tl td ie (W.alloc o):=h.below ((bf _ _).alloc aU o)
theorem kp.put (h:kp W0 B1 B2 B3 nc np tl td ie W) {r:Nat} (g:W0<=r) (h1:B1<W0) (j:B2<W0) (k:B3<W0) (a b c d e:aI):kp W0 B1 B2 B3 nc np tl td ie (((((W.setCell ⟨r,0,none⟩ a).setCell ⟨r,1,none⟩ b).setCell ⟨r,2,none⟩ c).setCell ⟨r,3,none⟩ d).setCell ⟨r,4,none⟩ e):=by
 have go:∀ {W:aq} (i:Nat) (u:aI),kp W0 B1 B2 B3 nc np tl td ie W->kp W0 B1 B2 B3 nc np tl td ie (W.setCell (r,i) u):=λi u h=>
  ⟨wo h.1 (by show r≠B1;omega),wo h.2.1 (by show r≠B1;omega),wo h.2.2.1 (by show r≠B2;omega),wo h.2.2.2.1 (by show r≠B2;omega),wo h.2.2.2.2.1 (by show r≠B2;omega),wo h.2.2.2.2.2.1 Fj,wo h.2.2.2.2.2.2.1 Fj,wo h.2.2.2.2.2.2.2.1 Fj,wo h.2.2.2.2.2.2.2.2.1 Fj,h.2.2.2.2.2.2.2.2.2.setCell (p:=⟨r,i,none⟩) g u⟩;exact go 4 e (go 3 d (go 2 c (go 1 b (go 0 a h))))
theorem lvA (aa:Below (wr.alloc (.cells #[(0:Int),(0:Int),(0:Int),(0:Int),.int .u8 0] 282)).drew (wr.alloc (.cells #[(0:Int),(0:Int),(0:Int),(0:Int),.int .u8 0] 282)).drew w2):Bk w2 wr 282 #[(0:Int),(0:Int),(0:Int),(0:Int),.int .u8 0]/\Below wr wr w2:=
  ⟨Bk.below (show Bk (wr.alloc (.cells #[(0:Int),(0:Int),(0:Int),(0:Int),.int .u8 0] 282)).drew wr 282 #[(0:Int),(0:Int),(0:Int),(0:Int),.int .u8 0] from Bk.new _ _ _) aa (by show wr.heap.size<(wr.alloc _);simp),
   ((bf wr wr).alloc aU (.cells #[(0:Int),(0:Int),(0:Int),(0:Int),.int .u8 0] 282)).drew.trans (aa.mono (by show wr.heap.size<=(wr.alloc _);exact EZ))⟩
theorem lvB (aa:Below wr.drew wr.drew w2):Below wr wr w2:=((bf wr wr).drew).trans (aa.mono aU)
theorem Ziy {t:TypeId} (h:Bk w g t #[(0:Int),(0:Int),(0:Int),(0:Int),.int .u8 0]) (a b c d e:aI):Bk (((((w.setCell ⟨g,0,none⟩ a).setCell ⟨g,1,none⟩ b).setCell ⟨g,2,none⟩ c).setCell ⟨g,3,none⟩ d).setCell ⟨g,4,none⟩ e) g t #[a,b,c,d,e]:=((((h.put 0 a).put 1 b).put 2 c).put 3 d).put 4 e
theorem Zbh {wb:aq} {B:Nat} (h:Below B wb w) (j:B<=g) (a b c d e:aI):Below B wb (((((w.setCell ⟨g,0,none⟩ a).setCell ⟨g,1,none⟩ b).setCell ⟨g,2,none⟩ c).setCell ⟨g,3,none⟩ d).setCell ⟨g,4,none⟩ e):=
 ((((h.setCell (p:=⟨g,0,none⟩) j a).setCell (p:=⟨g,1,none⟩) j b).setCell (p:=⟨g,2,none⟩) j c).setCell (p:=⟨g,3,none⟩) j d).setCell (p:=⟨g,4,none⟩) j e
theorem ZiW {w : aq} {T bb ib cb sb : Nat} {L : List St} {i : Nat} {seen : Bool} (h : mg w T bb ib cb sb L i seen) (h9 : L.length <= 5000) (c6 : ∀ x ∈ L, x.cost <= 1000000 /\ x.pcs <= 1000000) (t : Pc) (h1 : t.len <= 4096) (B : t.dist <= 4096) (h0 : 1 <= t.len) (hi : i + t.len < L.length) :
    Calls prog 204 #[.agg (qY t),(bb,0),(ib,0),(cb,0),(sb,0)] w λx w'=>x=.returned (.tuple #[])/\mg w' T bb ib cb sb (if(!seen||DS (zN L i t) (L.getD i dU))=true then L.set i (zN L i t) else L) i true/\Fr (λk=>k=T\/k=sb) w w':=by
  have d5:=GC B h1;have R:=J (λW=>Zbr t h1 B W);unfold ua at R;obtain⟨b0,b8⟩:(L.getD (i+t.len) dU).cost<=1000000/\(L.getD (i+t.len) dU).pcs<=1000000:=c6 _ (by rw[pf,fb hi];exact dt _);obtain⟨b1,g6,b3,g7,g8,g9,h4⟩:=h.cells;obtain⟨a1,a2,a3,a4,a5⟩:=h.at hi;have f3:=h.tb.lt;have k0:=h.best.lt;have n2:=h.i.lt;have m6:=h.c.lt;have j8:=h.sn.lt;have j:=J h;have G:zN L i t=⟨(L.getD (i+t.len) dU).cost+price t,(L.getD (i+t.len) dU).pcs+1,t⟩:=rfl;obtain⟨tl,td,tb⟩:=t;unfold qY at*;simp only at h1 B h0 hi b0 b8 a1 a2 a3 a4 a5 G R⊢;obtain⟨nx,i9⟩:=ay (L.getD (i+tl) dU);rw[i9] at b0 b8 a1 a2 a3 a4 a5 G;obtain⟨nc,np,⟨c7,nd,nb⟩⟩:=nx;simp only at b0 b8 a1 a2 a3 a4 a5 G;obtain⟨j3,h8⟩:=ay (price ⟨tl,td,tb⟩);rw[h8] at d5 G R;rw[G];obtain⟨y,a9⟩:=ay (nc+j3);obtain⟨z,i0⟩:=ay (np+1);rw[a9,i0] at G⊢;have l5:(nc:Int)+j3=(y:Int):=O;have l6:(np:Int)+1=(z:Int):=O;have l7:IntKind.i64.wrap (y:Int)=(y:Int):=(by rw[IntKind.wrap_i64];omega);have l8:IntKind.i64.wrap (z:Int)=(z:Int):=(by rw[IntKind.wrap_i64];omega);have m4:y<=2000000/\z<=2000000:=O;have d8:i<L:=O;clear a9 i0;have j4:(i:Int)+tl<(L.length:Int):=O;have h6:(0:Int)<=i+(tl:Int):=O;obtain⟨ie,d6⟩:=ay tb.toNat;obtain⟨c5,f7⟩:=ay nb.toNat;rw[d6] at R⊢;rw[f7] at a5;have d9:=J d6;have f5:=J G;obtain⟨f8,e7⟩:=ay ((if(!seen||DS ⟨y,z,⟨tl,td,tb⟩⟩ (L.getD i dU))=true then L.set i ⟨y,z,⟨tl,td,tb⟩⟩ else L));rw[e7];have f9:=J e7;clear G i9 h8 d6 f7 h e7;go_in;go_upto_region 2 with fail;obtain⟨b9,c3,c4⟩:=bD (((bf w w).alloc aU (.cells #[tl,td,.int .u8 (ie:Int)] 198)).alloc (by simp) (.cells #[nc,np,c7,nd,.int .u8 (c5:Int)] 282)) ((Bk.new w 198 #[tl,td,.int .u8 (ie:Int)]).alloc (.cells #[nc,np,c7,nd,.int .u8 (c5:Int)] 282)) (Bk.newN (w.alloc (.cells #[tl,td,.int .u8 (ie:Int)] 198)) 282 #[nc,np,c7,nd,.int .u8 (c5:Int)] (n:=w.heap.size+1) (by simp));generalize (w.alloc (.cells #[tl,td,.int .u8 (ie:Int)] 198)).alloc (.cells #[nc,np,c7,nd,.int .u8 (c5:Int)] 282)=W0 at*;have a0:=J (j.out.below b9.out)
  have f2:Hid (∀W',Below W0 W0 W'->(W'.cell? (w.heap.size+1,0)=some (.int .i64 (nc:Int))/\W'.cell? (w.heap.size+1,1)=some (.int .i64 (np:Int))/\W'.cell? (w,0)=some (.int .i64 (tl:Int))/\W'.cell? (w,1)=some (.int .i64 (td:Int))/\W'.cell? (w,2)=some (.int .u8 (ie:Int))/\W'.cell? (cb,0)=some (.int .i64 9)/\W'.cell? (cb,1)=some (.int .i64 12)/\W'.cell? (cb,2)=some (.int .i64 1)/\W'.cell? (cb,3)=some (.int .i64 1))):=
    J (λW' hb=>by have j1:=c4.out.below hb c4.out.lt;have t0:=c3.out.below hb c3.out.lt;obtain⟨_,_,l0,l1,l2,l3,_⟩:=(a0.out.below hb).cells;exact⟨j1.cell 0,j1.cell 1,t0.cell 0,t0.cell 1,t0.cell 2,l0,l1,l2,l3⟩);obtain⟨k1,k2,k3,i3,i4,i5,i6,i7,i8⟩:=f2.out W0 (bf _ _);have e8:=c4.out.lt;have c8:=c3.out.lt;have c9:=a0.out.c.lt;clear b1 g6 b3 g7 g8 g9 h4 a1 a2 a3 a4 a5 j4 h6;go_cut [7] (λn1 wx=>∃b,n1=.pointer (some ⟨b,0,none⟩)/\Hid (Bk wx b 282 #[y,z,tl,td,.int .u8 (ie:Int)])/\Hid (Below W0 W0 wx)/\W0.heap.size<=b)
  case first=>
    clear b9 c3 c4 a0 j d9 f5 c6 b0 b8 d5 h9 h1 B h0 hi;have f6:kp W0 (w.heap.size+1) w cb nc np tl td ie W0.drew:=⟨k1,k2,k3,i3,i4,i5,i6,i7,i8,(bf _ _).drew⟩;unfold kp at f6;obtain⟨j7,m9,j9⟩:=bD e8 c8 c9;clear e8 c8 c9 f2
    go_region_held3 (λW=>W.cell? (w.heap.size+1,0)=nc/\W.cell? (w.heap.size+1,1)=np/\W.cell? (w,0)=tl/\W.cell? (w,1)=td/\W.cell? (w,2)=some (.int .u8 (ie:Int))/\W.cell? (cb,0)=(9:Int)/\W.cell? (cb,1)=(12:Int)/\W.cell? (cb,2)=(1:Int)/\W.cell? (cb,3)=(1:Int)/\Below W0 W0 W) (first|with_reducible assumption|with_reducible exact f6|with_reducible exact kp.alloc mi _|with_reducible exact kp.alloc Q.out _|with_reducible exact kp.dralloc mi _|with_reducible exact kp.belowb mi mi|with_reducible exact kp.put mi (by first|exact aU|exact Q.out.2.2.2.2.2.2.2.2.2.size) j7.out m9.out j9.out _ _ _ _ _)
      (first|(go_at_call 205;with_reducible refine(R.out _).mono ?_;rintro r n3 ⟨rfl,j0⟩;have Q:Hid (kp W0 (w.heap.size+1) w cb nc np tl td ie n3):=J (kp.belowb j0 qB);first|((with_reducible (have E:=lvA j0));have m8:=E.1.cell 0;have q1:=E.1.cell 1;have q2:=E.1.cell 2;have q3:=E.1.cell 3;have q4:=E.1.cell 4;have o8:=E.1.frozen 0;have o9:=E.1.frozen 1;have p5:=E.1.frozen 2;have p6:=E.1.frozen 3;have p7:=E.1.frozen 4;simp at m8 q1 q2 q3 q4)|skip));. go_wp2;go_meet;case rel=>exact⟨_,rfl,J (Bk.new _ _ _),J (Q.out.2.2.2.2.2.2.2.2.2.alloc Q.out.2.2.2.2.2.2.2.2.2.size _),Q.out.2.2.2.2.2.2.2.2.2.size⟩
    go_wp2;go_meet;case rel=>exact⟨_,rfl,J (Ziy E.1 _ _ _ _ _),J (Zbh Q.out.2.2.2.2.2.2.2.2.2 aU _ _ _ _ _),aU⟩
  obtain⟨b,rfl,S,d7,o0⟩:=hcut;have D:=a0.out.below d7.out;have e5:Fr (λk=>k=T\/k=sb) w wc:=Fr.of_below (b9.out.trans (d7.out.mono b9.out.size));clear k1 k2 k3 i3 i4 i5 i6 i7 i8 e8 c8 c9 b9 c3 c4 a0 j f2 R l5 l6 l7 l8 b0 b8 d5 d7 h1 B h0 hi;obtain⟨b1,g6,b3,g7,g8,g9,h4⟩:=D.cells;obtain⟨a1,a2,a3,a4,a5⟩:=D.at d8;have n4:=S.out.cell 0;have n5:=S.out.cell 1;have n6:=S.out.cell 2;have n7:=S.out.cell 3;have n8:=S.out.cell 4;simp at n4 n5 n6 n7 n8;have j2:(L.getD i dU).cost<=1000000/\(L.getD i dU).pcs<=1000000:=c6 _ (by rw[pf,fb d8];exact dt _);have i2:DS ⟨y,z,⟨tl,td,tb⟩⟩ (L.getD i dU)=(decide (y<(L.getD i dU).cost)||(decide (y=(L.getD i dU).cost)&&decide (z<(L.getD i dU).pcs))):=rfl;have I:=f9.out;rw[i2] at I;obtain⟨cc,i1⟩:=ay ((L.getD i dU).cost);obtain⟨F,j6⟩:=ay ((L.getD i dU).pcs);rw[i1] at a1 j2 I;rw[j6] at a2 j2 I;have g:=J (λn=>(D.drewN n).set d8 ⟨y,z,⟨tl,td,tb⟩⟩);simp only at g;rw[d9.out] at g;have l:=J (λn (a b c d e f:aI)=>((((((e5.drewN n).setCell (p:=⟨T,i*5,none⟩) (.inl (.inl rfl)) a).setCell (p:=⟨T,i*5+1,none⟩) (.inl (.inl rfl)) b).setCell (p:=⟨T,i*5+2,none⟩) (.inl (.inl rfl)) c).setCell (p:=⟨T,i*5+3,none⟩) (.inl (.inl rfl)) d).setCell (p:=⟨T,i*5+4,none⟩) (.inl (.inl rfl)) e).setCell (p:=⟨sb,0,none⟩) (.inl (.inr rfl)) f);have o2:=D.tb.frozen (i*5);have o3:=D.tb.frozen (i*5+1);have o4:=D.tb.frozen (i*5+2);have o5:=D.tb.frozen (i*5+3);have o6:=D.tb.frozen (i*5+4);have o7:=D.sn.frozen 0;have j4:(i:Int)<L:=O;have h6:(0:Int)<=i:=O;have n9:sb≠T:=Bk.apart D.sn D.tb aY;have l9:T≠sb:=Ne.symm n9;have u:=J D;have q:=J e5;clear i1 j6 i2 S D e5 c6 h9 d9 f3 k0 n2 m6 j8 f5;clear f9
  have m7:(seen=false\/(seen=true/\(y<cc\/(y=cc/\z<F))))\/(seen=true/\(cc<y\/(y=cc/\¬z<F))):=by
    cases seen with
    |false=>exact .inl (.inl rfl)
    | true => rcases Nat.lt_trichotomy y cc with h | h | h;exact .inl (.inr ⟨rfl,.inl h⟩);by_cases B:z<F;exact .inl (.inr ⟨rfl,.inr ⟨h,B⟩⟩);exact .inr ⟨rfl,.inr ⟨h,B⟩⟩;. exact .inr ⟨rfl,.inl h⟩
  rcases m7 with h7|h5
  . have a8 : L.set i ⟨y, z, ⟨tl, td, tb⟩⟩ = f8 := by rw[<-I];rcases h7 with h|⟨h,B|⟨B,e9⟩⟩;rw[h];rfl;rw[h,dd B];rfl;rw[dd B,dd e9,h];simp
    have a7:=J a8;clear I a8;rcases h7 with rfl|⟨rfl,ab|⟨M,ab⟩⟩;exact IX;have a6:(y:Int)<cc:=O;have hd:decide ((y:Int)<cc)=true:=dd a6;have e6:decide (y<cc)=true:=dd ab;exact IX;subst M;have m5:¬(y:Int)<y:=O;have a6:(z:Int)<F:=O;have hd:decide ((z:Int)<F)=true:=dd a6;have e6:decide (z<F)=true:=dd ab;have f4:decide (y<y)=false:=cI (Nat.lt_irrefl _);exact IX
  have a8 : L = f8 := by rw[<-I];rcases h5 with ⟨h,B|⟨B,e9⟩⟩;rw[h,cI (show ¬y<cc by omega),cI (show ¬y=cc by omega)];rfl;rw[h,cI (show ¬y<cc by omega),dd B,cI e9];rfl
  have a7:=J a8;clear I a8 g l;rcases h5 with ⟨rfl,ab|⟨M,ab⟩⟩;have a6:¬(y:Int)<cc:=O;have e6:decide (y<cc)=false:=cI O;have m3:decide (y=cc)=false:=cI O;have o1:((y:Int)==cc)=false:=oe;exact O7;subst M;have m5:¬(y:Int)<y:=O;have a6:¬(z:Int)<F:=O;have e6:decide (z<F)=false:=cI ab;have f4:decide (y<y)=false:=cI (Nat.lt_irrefl _);exact O7
