import Derived.Test.YtchokmkfobandaaGreatDoorJ17
set_option linter.unusedVariables false
set_option linter.unusedSimpArgs false
set_option maxRecDepth 100000
set_option maxHeartbeats 8000000
namespace Go.Proofs.YtchokmkfobandaaGreatDoor
open Go.RowKit Go.Proofs Wv Wv.Vi Wv.Fm
theorem Z3U {y:Nat} (h:y % 2=0):csh y=y/2:=by unfold csh;rw[Vad (by omega),Nat.xor_zero]
theorem Zin {y:Nat} (h:y % 2=1):csh y=(y/2) ^^^ 3988292384:=by unfold csh;rw[Vaf h]
theorem Z6j (l:List UInt8) (i:Nat) (h:i<l.length) (h2:i<(bs l).size):(bs l)[i]'h2=l[i]'h:=by simp[bs];rfl
theorem Z92 (b:Nat) (hb:b<2 ^ 32):(2 ^ 32-1) ^^^ b=2 ^ 32-1-b:=by
 apply Nat.eq_of_testBit_eq;intro i;rw[Nat.testBit_xor,Nat.testBit_two_pow_sub_one,show 2 ^ 32-1-b=2 ^ 32-(b+1) by omega,Nat.testBit_two_pow_sub_succ hb];by_cases hi:i<32
 ·simp[hi]
 ·have:b.testBit i=false:=Nat.testBit_lt_two_pow (Va5 hb (Vby (by decide) (by omega)));simp[hi,this]
theorem Zio (y:Nat) (h:y<4294967296):bits .xor .u32 IntKind.u32.max (y:Int)=4294967295-(y:Int):=by
 have h1:=u32_xor_nat 4294967295 y (by omega) h;have h2:=Z92 y (by omega);have e:(2:Nat) ^ 32-1=4294967295:=(by decide);rw[e] at h2;rw[h2] at h1;have h3:((4294967295-y:Nat):Int)=4294967295-(y:Int):=(by omega);rw[h3] at h1;exact h1
theorem Z57 (r:Nat) (hr:r<4294967296) (w:World):
  Calls Tryz.prog 221 #[.int .u32 (r:Int)] w λx w'=>x=.returned (.int .u32 (cshN 8 r:Nat))/\w=w':=by
 have a0:bits .and .u32 0 3988292384=0:=(by decide);have a1:bits .and .u32 4294967295 3988292384=3988292384:=(by decide);have n1:IntKind.u32.wrap (-1)=4294967295:=(by decide);go_enter Tryz.func221,Tryz.ntmps221;go_wp2;go_loopw [0,3] (λs0 s3 wr=>∃(k y:Nat),k<=8/\s3=.int .i64 (k:Int)/\s0=.int .u32 (y:Int)/\Hid (cshN k r=y)/\y<4294967296/\wr=w) (λ_ s3 _=>(8-intOf s3).toNat);case atStart=>exact⟨0,r,by omega,rfl,rfl,h_ rfl,hr,rfl⟩
 case round=>
  obtain⟨k,y,hk,rfl,rfl,hy,nZ,rfl⟩:=hrel;by_cases ab:k<8
  ·have dp:(k:Int)<8:=by omega
   have h1:bits .and .u32 (y:Int) 1=((y % 2:Nat):Int):=by
    have:=u32_and_nat y 1 nZ (by omega);rw[Nat.and_one_is_mod] at this;exact this
   obtain⟨z,hz⟩:∃z,csh y=z:=⟨_,rfl⟩
   have pF:z<4294967296:=by
    have:=ZgS (r:=y) (by omega);omega
   have j0:Hid (cshN (k+1) r=z):=h_ (by show csh (cshN k r)=z;rw[hy.out,hz]);have hd:(y:Int)/2=((y/2:Nat):Int):=(by omega);have hp:y % 2=0\/y % 2=1:=(by omega);rcases hp with hp|hp
   ·rw[hp] at h1;have h1:bits .and .u32 (y:Int) 1=0:=h1
    have h5:bits .xor .u32 ((y/2:Nat):Int) 0=(z:Int):=by
     have:=u32_xor_nat (y/2) 0 (by omega) (by omega);rw[Nat.xor_zero,<-Z3U hp,hz] at this;rw[<-Z3U hp,hz] at*;exact this
    have h6:(y:Int)/2=(z:Int):=by rw[hd,<-Z3U hp,hz]
    have h7:bits .xor .u32 (z:Int) 0=(z:Int):=by
     have:=u32_xor_nat z 0 (by omega) (by omega);rw[Nat.xor_zero] at this;exact this
    clear hz hd h5 hp hy;go_wp2;refine⟨⟨k+1,z,ab,by go_num,by congr 1,j0,pF,by first|rfl|trivial⟩,?_⟩;simp[intOf]<;>omega
   ·rw[hp] at h1;have h1:bits .and .u32 (y:Int) 1=1:=h1;obtain⟨q,hq⟩:∃q,y/2=q:=⟨_,rfl⟩;have h6:(y:Int)/2=(q:Int):=(by omega)
    have h7:bits .xor .u32 (q:Int) 3988292384=(z:Int):=by
     have:=u32_xor_nat q 3988292384 (by omega) (by omega);rw[<-hz,Zin hp,hq];exact this
    clear hz hd hp hy hq;go_wp2;refine⟨⟨k+1,z,ab,by go_num,by congr 1,j0,pF,by first|rfl|trivial⟩,?_⟩;simp[intOf]<;>omega
  ·have lX:k=8:=(by omega);subst lX;rw[<-hy.out];go_wp2;go_ret;exact⟨rfl,rfl⟩
theorem Z93 (s:List UInt8) (hs:s.length<=1099511627776) (w:World):
  Calls Tryz.prog 180 #[.int .u32 0,.string (bs s)] w λx w'=>x=.returned (.int .u32 (crcN s:Nat))/\w=w':=by
 have ad:(bs s).size=s.length:=Z0 s;have eo:Hid (∀(i:Nat) (h:i<s.length) (h2:i<(bs s).size),(bs s)[i]'h2=s[i]'h):=h_ (λi h h2=>Z6j s i h h2);obtain⟨n,hn⟩:∃n,s.length=n:=⟨_,rfl⟩;obtain⟨S,hS⟩:∃S,bs s=S:=⟨_,rfl⟩;rw[hS] at ad eo⊢;rw[hn] at ad hs;have Hn:=h_ hn;have cH:=h_ ad;have yT:=h_ (λr (h:r<4294967296) W=>Z57 r h W);have n1:bits .xor .u32 IntKind.u32.max 0=4294967295:=(by decide);clear hn hS ad;go_enter Tryz.func180,Tryz.ntmps180;go_wp2;go_loopw [5,11] (λs5 lr wr=>∃(i y:Nat),i<=n/\lr=.int .i64 (i:Int)/\s5=.int .u32 (y:Int)/\Hid (crg 4294967295 (s.take i)=y)/\y<4294967296/\wr=w) (λ_ lr _=>(n-intOf lr).toNat);case atStart=>exact⟨0,4294967295,Vat _,rfl,by first|rfl|(simp;done),h_ rfl,by omega,rfl⟩
 case round=>
  obtain⟨i,y,hi,rfl,rfl,hy,nZ,rfl⟩:=hrel;by_cases ab:i<n
  ·have bu:i<s.length:=(by rw[Hn.out];exact ab);have qW:i<S.size:=(by rw[cH.out];exact ab);have dS:=eo.out i bu;have ay:s.take (i+1)=s.take i++[s[i]]:=Vac bu;obtain⟨c,hc⟩:∃c,s[i]=c:=⟨_,rfl⟩;rw[hc] at dS ay;have bm:∀h:i<S.size,(S[i]'h).toNat=c.toNat:=λh=>(by rw[dS h]);have dp:(i:Int)<(S.size:Int):=(by omega);have tF:(0:Int)<=(i:Int):=(by omega);have SX:=c.toNat_lt;obtain⟨a,ha⟩:∃a,c.toNat=a:=⟨_,rfl⟩;rw[ha] at bm SX;have hx:=u32_xor_nat y a nZ (by omega);have dR:y ^^^ a<2 ^ 32:=Nat.xor_lt_two_pow (by omega) (by omega);obtain⟨b,hb⟩:∃b,y ^^^ a=b:=⟨_,rfl⟩;rw[hb] at hx dR;have K:=h_ (yT.out b (by omega) wr);obtain⟨z,hz⟩:∃z,cshN 8 b=z:=⟨_,rfl⟩
   have pF:z<4294967296:=by
    have:=Zi8 dR 8;omega
   have j0:Hid (crg 4294967295 (s.take (i+1))=z):=h_ (by rw[ay,Zf6,hy.out,ha,hb,hz]);rw[hz] at K;have SY:b<4294967296:=(by omega);clear bu dS ay hc ha hb hz dR hy;go_wp2_with fail;refine(K.out).mono ?_;rintro x w1 ⟨rfl,rfl⟩;go_wp2;refine⟨⟨i+1,z,ab,by go_num,by congr 1,j0,pF,by first|rfl|trivial⟩,?_⟩;simp[intOf]<;>omega
  ·have aU:i=n:=(by omega);subst aU;have Gg:¬(i:Int)<(S.size:Int):=(by rw[cH.out];omega)
   have aP:Hid (((crcN s:Nat):Int)=4294967295-(y:Int)):=h_ (by
    have h1:=hy.out;rw[Vah (by rw[Hn.out];exact UZz)] at h1;unfold crcN;rw[h1];omega)
   have vP:=Zio y nZ;clear hy eo;go_wp2;go_ret;exact⟨Z4r (by rw[aP.out,<-vP];try rfl),rfl⟩
theorem Z2R (s:List UInt8) (hs:s.length<=1099511627776) (w:World):
  Calls Tryz.prog 135 #[.string (bs s)] w λx w'=>x=.returned (.int .u32 (crcN s:Nat))/\w=w':=by
 have H:=h_ (Z93 s hs w);generalize bs s=S at*;go_enter Tryz.func135,Tryz.ntmps135;go_wp2_with fail;refine(H.out).mono ?_;rintro x w1 ⟨rfl,rfl⟩;go_wp2;go_ret;exact⟨rfl,rfl⟩
end Go.Proofs.YtchokmkfobandaaGreatDoor
namespace Go.Proofs.YtchokmkfobandaaGreatDoor
open Go.RowKit Go.Proofs Wv Wv.Vi Wv.Lz
theorem QP (s:List UInt8) (i:Nat) (h:i<s.length) (h2:i<(bs s).size):((bs s)[i]'h2).toNat=(s.getD i 0).toNat:=by
 rw[Z6j s i h h2];simp[List.getD,h]
theorem Z6k (s : List UInt8) (hs : s.length <= 1000000) (i j m : Nat) (hi : i + m <= s.length) (hj : j + m <= s.length) (w : World) :
    Calls Tryz.prog 299 #[.string (bs s),.int .i64 (i:Int),.int .i64 (j:Int),.int .i64 (m:Int)] w λx w'=>x=.returned (.int .i64 (com s i j m:Nat))/\Below w.heap.size w w':=by
  have ad:(bs s).size=s.length:=Z0 s;have Hg:=h_ (QP s);obtain⟨n,hn⟩:∃n,s.length=n:=⟨_,rfl⟩;obtain⟨S,hS⟩:∃S,bs s=S:=⟨_,rfl⟩;obtain⟨R,hR⟩:∃R,com s i j m=R:=⟨_,rfl⟩;have h0:Hid (comA s i j 0 (m-0)=R):=h_ (by rw[Nat.sub_zero];exact hR);have Wb:R<=m:=(by rw[<-hR];exact ZaP s i j m)
  have aQ:=h_ (λk (h:k<m)=>(by(obtain⟨q,hq⟩:∃q,m-k=q+1:=⟨m-k-1,by omega⟩);rw[hq,ZbL,show q=m-(k+1) by omega]:comA s i j k (m-k)=if s.getD (i+k) 0=s.getD (j+k) 0 then comA s i j (k+1) (m-(k+1)) else k))
  rw[hS] at ad Hg⊢;rw[hn] at ad hs hi hj Hg;rw[hR];have cH:=h_ ad;clear hn hS ad hR;go_enter Tryz.func299,Tryz.ntmps299;go_wp2;go_loopw [11] (λlr wr=>∃k:Nat,k<=m/\lr=.int .i64 (k:Int)/\Hid (comA s i j k (m-k)=R)/\Hid (Below w.heap.size w wr)) (λlr _=>(m-intOf lr).toNat);case atStart=>exact⟨0,Vat _,rfl,h0,h_ (Vae _ _)⟩
  case round=>
    clear h0;obtain⟨k,hk,rfl,hc,hb⟩:=hrel;by_cases ab:k<m
    · have qW:i+k<S.size:=by rw[cH.out];omega
      have Wc:j+k<S.size:=(by rw[cH.out];omega);have nm:=Hg.out (i+k) (by omega);have iV:=Hg.out (j+k) (by omega);have aM:=aQ.out k ab;obtain⟨a,ha⟩:∃a,s.getD (i+k) 0=a:=⟨_,rfl⟩;obtain⟨b,eQ⟩:∃b,s.getD (j+k) 0=b:=⟨_,rfl⟩;rw[ha] at nm aM;rw[eQ] at iV aM;have pY:(i:Int)+(k:Int)<(S.size:Int):=(by omega);have ME:(j:Int)+(k:Int)<(S.size:Int):=(by omega);have iZ:(0:Int)<=(i:Int)+(k:Int):=(by omega);have gI:(0:Int)<=(j:Int)+(k:Int):=(by omega);have dp:(k:Int)<(m:Int):=(by omega);have cq:=h_ (hc.out);rw[aM] at cq;clear ha eQ aM hc Hg aQ;by_cases e:a=b
      · rw[Vaf e] at cq
        subst e;have e1:((a.toNat:Int) !=(a.toNat:Int))=false:=(by simp);go_wp2;go_quiet (fail);go_wp2;refine⟨⟨k+1,ab,by go_num,cq,h_ (bdN hb.out _)⟩,?_⟩;simp[intOf]<;>omega
      · rw[Vad e] at cq
        have e1:((a.toNat:Int) !=(b.toNat:Int))=true:=by
          rw[Va0];intro h;exact e (UInt8.toNat_inj.1 (by omega))
        go_wp2;go_quiet (fail);go_wp2;go_returns;rw[<-cq.out];exact⟨rfl,bdN hb.out _⟩
    · have nu:k=m:=by omega
      subst nu;have aP:=hc.out;rw[Va7,ZbM] at aP;have bR:=h_ aP;clear aP hc;go_wp2;go_returns;rw[<-bR.out];exact⟨by first|rfl|(congr 2;omega),hb.out⟩
def cpC (o:List (Nat×Nat)):List Value:=o.flatMap (λc=>[.int .i64 (c.1:Int),.int .i64 (c.2:Int)])
structure MtSt (w:World) (B ib wb bb mb db ob:Nat) (s:List UInt8) (i most b:Nat) (ov:Value) (o:List (Nat×Nat)):Prop where
 i:Bk w ib 3 #[.int .i64 (i:Int)]
 win:Bk w wb 3 #[.int .i64 4096]
 best:Bk w bb 3 #[.int .i64 (b:Int)]
 most:Bk w mb 3 #[.int .i64 (most:Int)]
 data:Bk w db 9 #[.string (bs s)]
 out:Bk w ob 281 #[ov]
 row:w.ownsRow B 284 2 ov o.length (cpC o)
 n1:ib≠bb
 n2:wb≠bb
 n3:mb≠bb
 nb:B<=bb
 no:B<=ob
theorem Zlf:(Tryz.prog.info? 284).map (λi=>(i.zero,i.size,i.bytes))=some (some (.agg #[.int .i64 0,.int .i64 0]),2,16):=by kernel_rfl
theorem Zfo (o:List (Nat×Nat)) (c:Nat×Nat):cpC (o++[c])=cpC o++[.int .i64 (c.1:Int),.int .i64 (c.2:Int)]:=by simp[cpC]
end Go.Proofs.YtchokmkfobandaaGreatDoor
namespace Wv
open Go Go.RowKit
theorem Z7S {P : Program} (t e : TypeId) (z : Value) (bytes size : Nat) (ht : P.underlying t = some (.slice e)) (aK : (P.info? e).map (λi => (i.zero, i.size, i.bytes)) = some (some z, size, bytes)) (bN : z.cells.size = size) (kF : 0 < size) {w wb : World} {B : Nat} {v : Value} {n : Nat} {xs : List Value} (h : w.ownsRow B e size v n xs) (hf : Below B wb w) (hB : B <= w.heap.size) (ys : List Value) (KQ : ys.length = size) (h1 : ∀ y ∈ ys, y.oneCell' = true) (e9 : n + 1 <= maxLen) (aV : (n + 1) * bytes <= 140737488355328) :
    ∃v' w',(Builtin.append_ #[t,t] t #[v,.slice (some ⟨w.heap.size,0,none⟩) 1 1]).run P (w.alloc (.cells ys.toArray e))=.ok v' w'/\w'.ownsRow B e size v' (n+1) (xs++ys)/\Below B wb w'/\(∀xb T cs,Bk w xb T cs->e≠T->Bk w' xb T cs)/\w.heap.size<=w'.heap.size:=by
  obtain⟨i,hi,hz,hs,dj⟩:=info_parts aK
  obtain ⟨v', w', hr, h2, h3, _, h5⟩ := run_append_own_at (P := P) (w.alloc (.cells ys.toArray e)) B t t e i z size bytes ht hi hz hs dj bN kF v n xs (h.alloc _) ⟨w.heap.size, 0, none⟩ 1 1 ys (by omega) (λj u hu => by
      have hb:=(Bk.new w e ys.toArray).cell j;rw[Go.WideShapes.add_plain,Vbo,hb];simpa using hu) h1 e9 aV (Vaq hB (by simp))
  refine⟨v',w',hr,h2,(hf.alloc hB _).grown h3 (Vaq hB (by simp)) (λk hk=>(h.lt k hk).1),λxb T cs hk hT=>(hk.alloc _).grown h3 (λe=>Z2 h hk hT e.symm),?_⟩;have:=h3.size;simp at this;omega
end Wv
namespace Go.Proofs.YtchokmkfobandaaGreatDoor
open Go.RowKit Go.Proofs Wv Wv.Vi Wv.Lz
section
variable {w:World} {B ib wb bb mb db ob:Nat} {s:List UInt8} {i most b:Nat} {ov:Value} {o:List (Nat×Nat)}
theorem MtSt.below {w':World} (h:MtSt w B ib wb bb mb db ob s i most b ov o) (hb:Below w.heap.size w w'):MtSt w' B ib wb bb mb db ob s i most b ov o:=
 ⟨h.i.below hb h.i.lt,h.win.below hb h.win.lt,h.best.below hb h.best.lt,h.most.below hb h.most.lt,h.data.below hb h.data.lt,h.out.below hb h.out.lt,Zn h.row (Fr.of_below (S:=nob) hb) (λ_ _ f=>f),h.n1,h.n2,h.n3,h.nb,h.no⟩
theorem MtSt.setBest (h:MtSt w B ib wb bb mb db ob s i most b ov o) (n:Nat):MtSt (w.setCell ⟨bb,0,none⟩ (.int .i64 (n:Int))) B ib wb bb mb db ob s i most n ov o:=
 ⟨h.i.off (p:=⟨bb,0,none⟩) h.n1 _,h.win.off (p:=⟨bb,0,none⟩) h.n2 _,h.best.put 0 _,h.most.off (p:=⟨bb,0,none⟩) h.n3 _,h.data.off (p:=⟨bb,0,none⟩) (Bk.apart h.data h.best (by decide)) _,h.out.off (p:=⟨bb,0,none⟩) (Bk.apart h.out h.best (by decide)) _,
  XB h.row (p:=⟨bb,0,none⟩) (Z2 h.row h.best (by decide)) _,h.n1,h.n2,h.n3,h.nb,h.no⟩
theorem MtSt.grow {w':World} {mq:Value} {o':List (Nat×Nat)} (h:MtSt w B ib wb bb mb db ob s i most b ov o) (hk:∀xb T cs,Bk w xb T cs->284≠T->Bk w' xb T cs) (hr:w'.ownsRow B 284 2 mq o'.length (cpC o')):MtSt (w'.setCell ⟨ob,0,none⟩ mq) B ib wb bb mb db ob s i most b mq o':=by
 have ho:=hk _ _ _ h.out (by decide);have hi:=hk _ _ _ h.i (by decide);have hw:=hk _ _ _ h.win (by decide);have hb:=hk _ _ _ h.best (by decide);have hm:=hk _ _ _ h.most (by decide);have hd:=hk _ _ _ h.data (by decide)
 exact⟨hi.off (p:=⟨ob,0,none⟩) (Bk.apart hi ho (by decide)) _,hw.off (p:=⟨ob,0,none⟩) (Bk.apart hw ho (by decide)) _,hb.off (p:=⟨ob,0,none⟩) (Bk.apart hb ho (by decide)) _,hm.off (p:=⟨ob,0,none⟩) (Bk.apart hm ho (by decide)) _,hd.off (p:=⟨ob,0,none⟩) (Bk.apart hd ho (by decide)) _,ho.put 0 _,
  XB hr (p:=⟨ob,0,none⟩) (Z2 hr ho (by decide)) _,h.n1,h.n2,h.n3,h.nb,h.no⟩
theorem MtSt.cells (h:MtSt w B ib wb bb mb db ob s i most b ov o):w.cell? ⟨ib,0,none⟩=some (.int .i64 (i:Int))/\w.cell? ⟨wb,0,none⟩=some (.int .i64 4096)/\w.cell? ⟨bb,0,none⟩=some (.int .i64 (b:Int))/\w.cell? ⟨mb,0,none⟩=some (.int .i64 (most:Int))/\w.cell? ⟨db,0,none⟩=some (.string (bs s))/\w.cell? ⟨ob,0,none⟩=some ov/\w.frozen? ⟨bb,0,none⟩=false/\w.frozen? ⟨ob,0,none⟩=false:=
 ⟨h.i.cell 0,h.win.cell 0,h.best.cell 0,h.most.cell 0,h.data.cell 0,h.out.cell 0,h.best.frozen 0,h.out.frozen 0⟩
def MtR (w:World) (B ib wb bb mb db ob:Nat) (s:List UInt8) (i most p b:Nat) (ov:Value) (o:List (Nat×Nat)) (x:Ending) (w':World):Prop:=
 ∃b' mq o',MtSt w' B ib wb bb mb db ob s i most b' mq o'/\Below B w w'/\((Z0d s i most p b o=none/\x=.returned (.bool false)/\b'=b/\o'=o)\/(Z0d s i most p b o=some (b',o')/\x=.returned (.bool true)))
theorem Z58 (h:MtSt w B ib wb bb mb db ob s i most b ov o) (hB:B<=w.heap.size) (hs:s.length<=4096) {p:Nat} (hp:p<i) (hi:i+most<=s.length) (ho:o.length<=4096):
  Calls Tryz.prog 298 #[.int .i64 (p:Int),.pointer (some ⟨ib,0,none⟩),.pointer (some ⟨wb,0,none⟩),.pointer (some ⟨bb,0,none⟩),.pointer (some ⟨mb,0,none⟩),.pointer (some ⟨db,0,none⟩),.pointer (some ⟨ob,0,none⟩)] w λx w'=>MtR w B ib wb bb mb db ob s i most p b ov o x w':=by
 have hw:=Vae B w;obtain⟨c1,c2,c3,c4,c5,c6,c7,c8⟩:=h.cells;have H:=h_ h;by_cases h1:4096<i-p
 ·have hy:Z0d s i most p b o=none:=(by unfold Z0d;rw[Vaf (.inl h1)]);have hR:Hid (∀w',Below w.heap.size w w'->MtR w B ib wb bb mb db ob s i most p b ov o (.returned (.bool false)) w'):=h_ (λw' hb=>⟨b,ov,o,H.out.below hb,hw.trans (hb.mono hB),.inl ⟨hy,rfl,rfl,rfl⟩⟩);have MF:(4096:Int)<(i:Int)-(p:Int):=(by omega);clear hy h1 h H hw hB ho c5 c6 c7 c8;go_enter Tryz.func298,Tryz.ntmps298;go_wp2;go_returns;exact hR.out _ (Vae _ _)
 ·by_cases h2:most<=b
  ·have hy:Z0d s i most p b o=none:=(by unfold Z0d;rw[Vaf (.inr h2)]);have hR:Hid (∀w',Below w.heap.size w w'->MtR w B ib wb bb mb db ob s i most p b ov o (.returned (.bool false)) w'):=h_ (λw' hb=>⟨b,ov,o,H.out.below hb,hw.trans (hb.mono hB),.inl ⟨hy,rfl,rfl,rfl⟩⟩);have MF:¬(4096:Int)<(i:Int)-(p:Int):=(by omega);have tU:(most:Int)<=(b:Int):=(by omega);clear hy h1 h2 h H hw hB ho c5 c6 c7 c8;go_enter Tryz.func298,Tryz.ntmps298;go_wp2;go_returns;exact hR.out _ (Vae _ _)
  ·have MF:¬(4096:Int)<(i:Int)-(p:Int):=(by omega);have tU:¬(most:Int)<=(b:Int):=(by omega);have ad:(bs s).size=s.length:=Z0 s;have SZ:p+b<(bs s).size:=(by omega);have qW:i+b<(bs s).size:=(by omega);have nm:=QP s (p+b) (by omega) SZ;have iV:=QP s (i+b) (by omega) qW;have Wd:(p:Int)+(b:Int)<((bs s).size:Int):=(by omega);have pY:(i:Int)+(b:Int)<((bs s).size:Int):=(by omega);have Dy:(0:Int)<=(p:Int)+(b:Int):=(by omega);have iZ:(0:Int)<=(i:Int)+(b:Int):=(by omega);have Hc:=h_ (λW=>Z6k s (by omega) p i most (by omega) hi W);have gJ:¬(4096<i-p\/most<=b):=(by omega);have lV:=ZaP s p i most;by_cases h3:s.getD (p+b) 0=s.getD (i+b) 0
   ·have hy:Z0d s i most p b o=if b<com s p i most then some (com s p i most,o++[(com s p i most,i-p)]) else some (b,o):=by
     unfold Z0d;rw[Vad gJ,Vad (by simpa using h3)]
    have jP:(bs s)[p+b]=(bs s)[i+b]:=UInt8.toNat_inj.1 (by rw[nm,iV,h3]);obtain⟨n,hn⟩:∃n,com s p i most=n:=⟨_,rfl⟩;rw[hn] at hy Hc lV;clear nm iV h3 hn gJ h1 h2;by_cases h4:b<n
    ·rw[Vaf h4] at hy;have E5:(b:Int)<(n:Int):=(by omega);have hK:Hid (∀n w',Below w.heap.size (w.drewN n) w'->MtSt w' B ib wb bb mb db ob s i most b ov o):=h_ (λn w' hb=>H.out.below ((bdN (Vae _ _) n).trans hb));have hR:Hid (∀w' mq,MtSt w' B ib wb bb mb db ob s i most n mq (o++[(n,i-p)])->Below B w w'->MtR w B ib wb bb mb db ob s i most p b ov o (.returned (.bool true)) w'):=h_ (λw' mq hm hb=>⟨n,mq,_,hm,hb,.inr ⟨hy,rfl⟩⟩);have fS:o.length+1=(o++[(n,i-p)]).length:=(by simp)
     have MG:cpC (o++[(n,i-p)])=cpC o++[.int .i64 (n:Int),.int .i64 ((i:Int)-(p:Int))]:=by
      rw[Zfo];simp only;rw[show((i-p:Nat):Int)=(i:Int)-(p:Int) by omega]
     have nC:=h_ fS;have T7:=h_ MG;have HB:=h_ hB;generalize bs s=S at*;clear hy h hw h4 ad fS MG;go_enter Tryz.func298,Tryz.ntmps298;go_wp2;go_quiet (fail);go_wp2_with fail;refine(Hc.out _).mono ?_;rintro x w1 ⟨rfl,a7⟩;have a8:Below w.heap.size w w1:=(bdN (Vae w.heap.size w) nq).trans a7;have M1:=hK.out _ _ a7;obtain⟨e1,e2,e3,e4,e5,e6,e7,e8⟩:=M1.cells;have M2:=M1.setBest n;have vQ:Below B w (w1.setCell ⟨bb,0,none⟩ (.int .i64 (n:Int))):=(a8.mono HB.out).setCell (p:=⟨bb,0,none⟩) M1.nb _;have E6:B<=(w1.setCell ⟨bb,0,none⟩ (.int .i64 (n:Int))).heap.size:=Vaq HB.out vQ.size;obtain⟨g1,g2,g3,g4,g5,g6,g7,g8⟩:=M2.cells;obtain⟨v',w2,hr,aX,dq,dO,gb⟩:=Z7S (P:=Tryz.prog) 281 284 _ _ 2 Tryz.underlying281 Zlf rfl (by omega) M2.row vQ E6 [.int .i64 (n:Int),.int .i64 ((i:Int)-(p:Int))] rfl (by simp[Value.oneCell']) (by unfold maxLen;omega) (by omega);rw[nC.out,<-T7.out] at aX;obtain⟨A',M',bp,rfl⟩:=Zd aX;have M3:=M2.grow dO aX;have dD:=dO _ _ _ M2.out (by decide);have k6:=dD.cell 0;have k8:=dD.frozen 0;have dd:=h_ (hR.out _ _ M3 (dq.setCell (p:=⟨ob,0,none⟩) M1.no _));have aq:=h_ hr;generalize mS:w1.setCell ⟨bb,0,none⟩ (.int .i64 (n:Int))=W2 at*;clear e5 e6 M1 M2 M3 vQ E6 dO dD aX hr dq hR hK a8;go_wp2_with (at_builtin;refine Z3 (by with_reducible rfl) rfl _ _ _ rfl _ _ (by rfl) (by rfl) aq.out ?_);go_returns;exact dd.out
    ·rw[Vad h4] at hy;have hR:Hid (∀w',Below w.heap.size w w'->MtR w B ib wb bb mb db ob s i most p b ov o (.returned (.bool true)) w'):=h_ (λw' hb=>⟨b,ov,o,H.out.below hb,hw.trans (hb.mono hB),.inr ⟨hy,rfl⟩⟩);have E5:¬(b:Int)<(n:Int):=(by omega);have hK:Hid (∀n w',Below w.heap.size (w.drewN n) w'->MtSt w' B ib wb bb mb db ob s i most b ov o):=h_ (λn w' hb=>H.out.below ((bdN (Vae _ _) n).trans hb));generalize bs s=S at*;clear hy h hw hB ho h4 ad;go_enter Tryz.func298,Tryz.ntmps298;go_wp2;go_quiet (fail);go_wp2_with fail;refine(Hc.out _).mono ?_;rintro x w1 ⟨rfl,a7⟩;have a8:Below w.heap.size w w1:=(bdN (Vae w.heap.size w) nq).trans a7;obtain⟨e1,e2,e3,e4,e5,e6,e7,e8⟩:=(hK.out _ _ a7).cells;clear e5 e6 e7 e8;go_wp2;go_returns;exact hR.out _ a8
   ·have hy:Z0d s i most p b o=some (b,o):=(by unfold Z0d;rw[Vad gJ,Vaf h3]);have hR:Hid (∀w',Below w.heap.size w w'->MtR w B ib wb bb mb db ob s i most p b ov o (.returned (.bool true)) w'):=h_ (λw' hb=>⟨b,ov,o,H.out.below hb,hw.trans (hb.mono hB),.inr ⟨hy,rfl⟩⟩)
    have jP:((((bs s)[p+b]).toNat:Int) !=(((bs s)[i+b]).toNat:Int))=true:=by
     rw[Va0];intro e;exact h3 (UInt8.toNat_inj.1 (by rw[<-nm,<-iV];omega))
    generalize bs s=S at*;clear nm iV h3 gJ h1 h2 hy h H hw hB ho ad;go_enter Tryz.func298,Tryz.ntmps298;go_wp2;go_quiet (fail);go_wp2;go_returns;exact hR.out _ (bdN (Vae _ _) _)
end
def yldV (ib wb bb mb db ob:Nat):Value:=.func (.func 298) #[] #[.pointer (some ⟨ib,0,none⟩),.pointer (some ⟨wb,0,none⟩),.pointer (some ⟨bb,0,none⟩),.pointer (some ⟨mb,0,none⟩),.pointer (some ⟨db,0,none⟩),.pointer (some ⟨ob,0,none⟩)]
theorem Zc9 {s:List UInt8} {i most p b:Nat} {o:List (Nat×Nat)} {y:Nat×List (Nat×Nat)} (h:Z0d s i most p b o=some y):y.2.length<=o.length+1:=by
 unfold Z0d at h;split at h
 ·cases h
 ·split at h
  ·injection h with h;rw[<-h];simp
  ·split at h
   ·injection h with h;rw[<-h];simp
   ·injection h with h;rw[<-h];simp
section
variable {w:World} {B ib wb bb mb db ob:Nat} {s:List UInt8} {i most b:Nat} {ov:Value} {o:List (Nat×Nat)}
theorem Z94 (h:MtSt w B ib wb bb mb db ob s i most b ov o) (hB:B<=w.heap.size) (hs:s.length<=4096) (hi:i+most<=s.length) (ho:o.length=0) {cb:Nat} (hc:w.cell? ⟨cb,0,none⟩=some (.int .i64 (i:Int))):
  Calls Tryz.prog 251 #[yldV ib wb bb mb db ob,.pointer (some ⟨cb,0,none⟩)] w λx w'=>x=.returned (.tuple #[])/\∃b' mq,MtSt w' B ib wb bb mb db ob s i most b' mq (btr s i most i b o)/\Below B w w':=by
 obtain⟨R,hR⟩:∃R,btr s i most i b o=R:=⟨_,rfl⟩;have h0:=h_ hR;rw[hR];have H:=h_ h;have aT:=h_ (λ(W:World) (p b:Nat) (ov:Value) (o:List (Nat×Nat)) (hM:MtSt W B ib wb bb mb db ob s i most b ov o) (E6:B<=W.heap.size) (hp:p<i) (ho:o.length<=4096)=>Z58 hM E6 hs hp hi ho);have jQ:=h_ (λp b o=>Zf7 s i most p b o);have aB:=h_ (Vae B w);have xO:i<=4096:=(by omega);have bu:=h_ (show o.length+i<=i by omega);clear hR h ho;unfold yldV;go_enter Tryz.func251,Tryz.ntmps251;go_wp2;go_loopw [3] (λs3 wr=>∃(p b:Nat) (ov:Value) (o:List (Nat×Nat)),p<=i/\s3=.int .i64 ((p:Int)-1)/\Hid (MtSt wr B ib wb bb mb db ob s i most b ov o)/\Hid (btr s i most p b o=R)/\Hid (Below B w wr)/\Hid (o.length+p<=i)) (λs3 _=>(intOf s3+1).toNat);case atStart=>exact⟨i,b,ov,o,UZz,rfl,H,h0,aB,bu⟩
 case round=>
  clear H h0 aB bu hc;obtain⟨p,b,ov,o,hp,rfl,hM,hR,hb,fS⟩:=hrel;by_cases ab:0<p
  ·obtain⟨q,rfl⟩:∃q,p=q+1:=⟨p-1,by omega⟩;have i1:((q+1:Nat):Int)-1=(q:Int):=(by omega);rw[i1];have T8:B<=wr.heap.size:=Vaq hB hb.out.size;have Hq:=h_ (aT.out wr q b ov o hM.out T8 (by omega) (by have:=fS.out;omega));have zo:(0:Int)<=(q:Int):=(by omega);have ec:=hR.out;rw[jQ.out] at ec;have aN:=h_ ec;clear hR ec hM;go_wp2_with fail;refine(Hq.out).mono ?_;rintro x w1 ⟨b',mq,o',nD,eQ,bz⟩;have aS:=h_ (hb.out.trans eQ);have MH:=h_ nD;rcases bz with ⟨hy,rfl,rfl,rfl⟩|⟨hy,rfl⟩
   ·have mT:=aN.out;rw[hy] at mT;have vR:=h_ mT;clear hy mT aN nD eQ;go_wp2;first|go_end0|go_returns
    rw[<-vR.out];exact⟨rfl,_,_,MH.out,aS.out⟩
   ·have mT:=aN.out;rw[hy] at mT;have vR:=h_ mT;have nZ:=Zc9 hy;have HY:=h_ (show o'.length+q<=i by have:=fS.out;simp only at nZ;omega);clear hy mT aN nD eQ nZ;go_wp2;refine⟨⟨q,b',mq,o',by omega,rfl,MH,vR,aS,HY⟩,?_⟩;simp[intOf]<;>omega
  ·have Dy:p=0:=(by omega);subst Dy;have mT:Hid (o=R):=hR;clear hR;go_wp2;first|go_end0|go_returns
   rw[<-mT.out];exact⟨rfl,_,_,hM.out,hb.out⟩
end
def mtW (w:World) (s:List UInt8) (i:Nat) (m:Int):World:=((((((w.alloc (.cells #[.string (bs s)] 9)).alloc (.cells #[.int .i64 (i:Int)] 3)).alloc (.cells #[.int .i64 4096] 3)).alloc (.cells #[.int .i64 m] 3)).alloc (.cells #[.slice none 0 0] 281)).alloc (.cells #[.int .i64 1] 3))
theorem Bk.newN (w:World) (t:TypeId) (cs:Array Value) {n:Nat} (h:w.heap.size=n):Bk (w.alloc (.cells cs t)) n t cs:=h▸Bk.new w t cs
theorem Zfp (w:World) (s:List UInt8) (i m:Nat):MtSt (mtW w s i m) w.heap.size (w.heap.size+1) (w.heap.size+1+1) (w.heap.size+1+1+1+1+1) (w.heap.size+1+1+1) w.heap.size (w.heap.size+1+1+1+1) s i m 1 (.slice none 0 0) []/\Below w.heap.size w (mtW w s i m):=by
 have hb:Below w.heap.size w (mtW w s i m):=((((((Vae w.heap.size w).alloc UZz _).alloc (by simp) _).alloc (by simp;omega) _).alloc (by simp;omega) _).alloc (by simp;omega) _).alloc (by simp;omega) _;refine⟨⟨?_,?_,?_,?_,?_,?_,Zk,by omega,by omega,by omega,by omega,by omega⟩,hb⟩
 ·exact((((Bk.newN _ _ _ (by simp)).alloc _).alloc _).alloc _).alloc _
 ·exact(((Bk.newN _ _ _ (by simp)).alloc _).alloc _).alloc _
 ·exact Bk.newN _ _ _ (by simp)
 ·exact((Bk.newN _ _ _ (by simp)).alloc _).alloc _
 ·exact(((((Bk.new _ _ _).alloc _).alloc _).alloc _).alloc _).alloc _
 ·exact(Bk.newN _ _ _ (by simp)).alloc _
theorem Z6l (s:List UInt8) (hs:s.length<=4096) (i:Nat) (hi:i<=s.length) {w:World} {cb:Nat} (hc:w.cell? ⟨cb,0,none⟩=some (.int .i64 (i:Int))) (jk:cb<w.heap.size):
  Calls Tryz.prog 250 #[.string (bs s),.int .i64 (i:Int),.int .i64 4096,.int .i64 273,.func (.func 251) #[] #[.pointer (some ⟨cb,0,none⟩)]] w λx w'=>∃ov,x=.returned ov/\w'.ownsRow w.heap.size 284 2 ov (cand s i).length (cpC (cand s i))/\Below w.heap.size w w':=by
 have ad:(bs s).size=s.length:=Z0 s;have pZ:Xt s i=min 273 (s.length-i):=rfl;have hR:cand s i=btr s i (Xt s i) i 1 []:=rfl;rw[hR];obtain⟨m,hm⟩:∃m,Xt s i=m:=⟨_,rfl⟩;rw[hm] at pZ⊢;have yf:i+m<=s.length:=(by omega);have Hc:=h_ (λ(W:World) (B ib wb bb mb db ob:Nat) (ov:Value) (h:MtSt W B ib wb bb mb db ob s i m 1 ov []) (hB:B<=W.heap.size) (hc:W.cell? ⟨cb,0,none⟩=some (.int .i64 (i:Int)))=>Z94 h hB hs yf rfl hc);obtain⟨hM,AC⟩:=Zfp w s i m;have Hq:=h_ (Hc.out _ _ _ _ _ _ _ _ _ hM AC.size ((AC.cell (p:=⟨cb,0,none⟩) jk).trans hc));unfold yldV mtW at Hq;have vS:=h_ AC;generalize btr s i m i 1 []=R at*;have We:=h_ hs;by_cases Ta:273<=s.length-i
 ·have eG:m=273:=(by omega);have I0:min (273:Int) ((s.length:Int)-(i:Int))=273:=(by omega);have AE:(273:Int)<=(s.length:Int)-(i:Int):=(by omega);subst eG;clear pZ hR hm hM AC Hc yf;go_enter Tryz.func250,Tryz.ntmps250;go_wp2_with fail;refine(Hq.out).mono ?_;rintro x w1 ⟨rfl,b',mq,nD,eQ⟩;have c6:=nD.out.cell 0;obtain⟨A',M',bp,rfl⟩:=Zd nD.row;simp at c6;have HF:=h_ (⟨nD.row,vS.out.trans eQ⟩:w1.ownsRow w.heap.size 284 2 (.slice A' M' bp) R.length (cpC R)/\Below w.heap.size w w1);clear nD eQ Hq vS;go_wp2;go_returns;exact⟨_,rfl,HF.out⟩
 ·have AE:¬(273:Int)<=(s.length:Int)-(i:Int):=(by omega);have I0:min (273:Int) ((s.length:Int)-(i:Int))=(s.length:Int)-(i:Int):=(by omega);have eG:((s.length:Int)-(i:Int))=(m:Int):=(by omega);rw[<-eG] at Hq;have Tb:=h_ eG;clear pZ hR hm hM AC Hc yf eG;go_enter Tryz.func250,Tryz.ntmps250;go_wp2_with fail;refine(Hq.out).mono ?_;rintro x w1 ⟨rfl,b',mq,nD,eQ⟩;have c6:=nD.out.cell 0;obtain⟨A',M',bp,rfl⟩:=Zd nD.row;simp at c6;have kJ:=vS.out;unfold mtW at kJ;rw[<-Tb.out] at kJ;have HF:=h_ (⟨nD.row,kJ.trans eQ⟩:w1.ownsRow w.heap.size 284 2 (.slice A' M' bp) R.length (cpC R)/\Below w.heap.size w w1);clear nD eQ Hq vS kJ;go_wp2;go_returns;exact⟨_,rfl,HF.out⟩
theorem Z95 (w:World):Calls Tryz.prog 249 #[.int .i64 4096,.int .i64 273] w λx w'=>x=.returned (.bool true)/\w=w':=by
 go_enter Tryz.func249,Tryz.ntmps249;go_wp2;go_returns;exact⟨rfl,rfl⟩
theorem Z96 (s:List UInt8) (hs:s.length<=4096) (i:Nat) (hi:i<=s.length) (w:World):
  Calls Tryz.prog 215 #[.string (bs s),.int .i64 (i:Int),.int .i64 4096,.int .i64 273] w λx w'=>∃ov,x=.returned ov/\w'.ownsRow w.heap.size 284 2 ov (cand s i).length (cpC (cand s i))/\Below w.heap.size w w':=by
 have Hv:=h_ (λW=>Z95 W);have ad:(bs s).size=s.length:=Z0 s;have E7:¬(4096:Int)<((bs s).size:Int):=(by omega);have sd:¬((bs s).size:Int)<(i:Int):=(by omega);have aB:=(Vae w.heap.size w).alloc UZz (.cells #[.int .i64 (i:Int)] 3);have Hb:=h_ (Z6l s hs i hi (w:=w.alloc (.cells #[.int .i64 (i:Int)] 3)) (cb:=w.heap.size) ((Bk.new w 3 #[.int .i64 (i:Int)]).cell 0) (by simp));generalize cand s i=R at*
 have HF:Hid (∀(w':World) ov,w'.ownsRow (w.alloc (.cells #[.int .i64 (i:Int)] 3)).heap.size 284 2 ov R.length (cpC R)->Below (w.alloc (.cells #[.int .i64 (i:Int)] 3)).heap.size (w.alloc (.cells #[.int .i64 (i:Int)] 3)) w'->w'.ownsRow w.heap.size 284 2 ov R.length (cpC R)/\Below w.heap.size w w'):=
  h_ (λw' ov h1 h2=>⟨Z3b h1 (by simp),aB.trans (h2.mono (by simp))⟩)
 generalize bs s=S at*;clear aB ad hs hi;go_enter Tryz.func215,Tryz.ntmps215;go_wp2_with fail;refine(Hv.out _).mono ?_;rintro x w1 ⟨rfl,rfl⟩;go_wp2_with fail;refine(Hb.out).mono ?_;rintro x w1 ⟨ov,rfl,h1,h2⟩;have HG:=h_ (HF.out _ _ h1 h2);obtain⟨A',M',bp,rfl⟩:=Zd h1;clear h1 h2 HF Hb Hv;go_wp2;go_returns;exact⟨_,rfl,HG.out⟩
end Go.Proofs.YtchokmkfobandaaGreatDoor
