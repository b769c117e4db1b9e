import Derived.Deep.RegionHeld3
import Derived.Test.YtikecoijpkmnbaaGreatDoorJ06
import Derived.Deep.RegionWith
set_option linter.all false
set_option maxRecDepth 100000
set_option maxHeartbeats 0
open Go.Proofs.Tryz (prog underlying110 underlying5 underlying9)
section
variable{P Q:Prop}
theorem CC(h:P:=by rw[Z0];simp):P:=h
theorem Jd(h:P:=by have:j=w:=e;omega):P:=h
theorem lO(h:P:=by rw[IntWalk.i64_in _ (by omega)]):P:=h
theorem IZ(h:P:=by rw[<-l,Int.natCast_emod,Int.natCast_ediv,Int.natCast_pow];rfl):P:=h
theorem I0(h:P:=by go_in;go_wp2;go_ret;exact⟨ZZ (GL (by rw[Hd.o];rfl)).symm,rfl⟩):P:=h
theorem OK(h:P:=by clear B G l F;go_wp2;go_ret;rw[<-E.o];exact⟨ZZ (by simp only;omega),hu,D,I⟩):P:=h
theorem OJ(h:P:=by go_in;go_wp21;refine cp (g.o _) ?_;go_wp2;go_ret;exact⟨ZZ (by rw[M.o];omega),rfl⟩):P:=h
theorem On(h:P:=by have:j=0\/j=1\/j=2\/j=3:=(by omega);rcases this with rfl|rfl|rfl|rfl<;>simp[Nat.mod_eq_of_lt, *]):P:=h
theorem Om(h:P:=by have q:∀x:Nat,UInt8.ofNat (x % 256)=UInt8.ofNat x:=λx=>(by apply UInt8.toNat_inj.1;simp);rw[q,q,q]):P:=h
end
namespace Go.Proofs.Y
open Wv Go.RowKit
section
variable{b:Nat}{dv:aI}{w:aq}
theorem Zbe (p:Nat) (e:En):YP p 0 e=⟨e.out,e.low,e.size/2048*p⟩:=by unfold YP;rw[Vag rfl]
theorem Zbd (p:Nat) (e:En) (B:Nat) (g:e.size/2048*p=B) (h:4294967296<=e.low+B):YP p 1 e=⟨Qa e.out,e.low+B-4294967296,e.size-B⟩:=by unfold YP;rw[g,Vae O,Vag h]
theorem Z8i (p:Nat) (e:En) (B:Nat) (g:e.size/2048*p=B) (h:¬4294967296<=e.low+B):YP p 1 e=⟨e.out,e.low+B,e.size-B⟩:=by unfold YP;rw[g,Vae O,Vae h]
def Eb (b:Nat) (w:aq):Nat:=match w.cell? ⟨b,2,none⟩ with
 |some (.int _ n)=>(16777216-n).toNat
 |_=>0
theorem L_ {e:En} (h:dY w b dv e):Eb b w=(16777216-(e.size:Int)).toNat:=by have:=h.1.cell 2;simp at this;unfold Eb;rw[this]
theorem dY.put1 {e:En} (h:dY w b dv e) (x:Nat):dY (w.setCell (b,1) (.int .u32 (x:Int))) b dv ⟨e.out,x,e.size⟩:=
 ⟨by simpa using h.1.put 1 (.int .u32 (x:Int)),Zq h.2 (p:=⟨b,1,none⟩) h.apart _⟩
theorem dY.put2 {e:En} (h:dY w b dv e) (x:Nat):dY (w.setCell (b,2) (.int .u32 (x:Int))) b dv ⟨e.out,e.low,x⟩:=
 ⟨by simpa using h.1.put 2 (.int .u32 (x:Int)),Zq h.2 (p:=⟨b,2,none⟩) h.apart _⟩
theorem Xy {w':aq} (h:Fr (foot b dv) w w') (o:Nat) (x:aI):Fr (foot b dv) w (w'.setCell (b,o) x):=h.setCell (p:=⟨b,o,none⟩) (.inl (.inl rfl)) x
theorem KJ {w : aq} {b : Nat} {dv : aI} {e : En} (h : dY w b dv e) (Q : dE 0 e) (p l : Nat) (b8 : 1 <= p) (b9 : p <= 2047) (aa : l < 2) (j2 : e.out.length <= 1000000) :
    Calls prog 152 #[(b,0),p,l] w λx w'=>x=.returned (.tuple #[])/\∃d5,dY w' b d5 (nG p l e)/\Fr (foot b dv) w w'/\Zu w dv d5:=by
  obtain⟨h6,j7⟩:=DI Q;obtain⟨b1,g3⟩:=CX e.size p h6 b8 b9;have g9:=Q.low;have e7:=(QG Q (b:=l) b8 b9).1;have d8:=(QG Q (b:=l) b8 b9).2.2.2;obtain⟨B,c3⟩:=ay (e.size/2048*p);have c6:=Q.top;have c0:=h.1.cell 0;have c1:=h.1.cell 1;have c2:=h.1.cell 2;have f1:=h.1.frozen 1;have g8:=h.1.frozen 2;simp at c0 c1 c2;have h4:=J (Tm (p:Int) O O);rw[c3] at b1 g3;have a6:=J c3;have H:=J h;have i0:IntKind.u32.wrap ((e.size:Int)/2048*(p:Int))=(B:Int):=by have:(e.size:Int)/2048*(p:Int)=B:=(by rw[<-a6.o,vJ,Int.natCast_ediv];rfl);rw[this,IntWalk.u32_in _ O]
  obtain⟨e8,h5,f8,h9⟩:=dc e7 d8 c6 Q;clear h c3 e7 d8 c6 Q;go_in;go_wp2;go_quiet ((go_at_call 197;exact dq1 (h4.o _)));clear i0;go_upto_if 17 with fail;go_cut [] (λwx=>dY wx b dv (YP p l e)/\Fr (foot b dv) w wx)
  case first=>
    have h1:l=0\/l=1:=O;rcases h1 with rfl|rfl;. have G:=J (Zbe p e);rw[a6.o] at G;go_wp2;go_meet;rw[G.o];exact⟨((H.o).drewN nq).put2 B,Xy ((Fr.refl _ _).drewN nq) 2 _⟩
    have e4:(e.size:Int)-B=((e.size-B:Nat):Int):=O;obtain⟨R,F⟩:=ay (e.size-B);rw[F] at e4;by_cases b0:4294967296<=e.low+B
    . have G:=J (Zbd p e B a6.o b0);obtain⟨L,I⟩:=ay (e.low+B-4294967296);have i1:((e.low:Int)+B) % 4294967296=(L:Int):=O;have g0:(L:Int)<e.low:=O;rw[I,F] at G;have d3:0<e.out.length:=by rcases rS e.out.length with t|t;have b4:=f8.o;have b3:N e=vl 0 e.out*4294967296+e.low:=rfl;rw[b3,t] at b4;simp only[Nat.pow_zero,Ae] at b4;omega;exact t
      have f5:=J (ZbV ((H.o).drewN nq) d3 O);clear I F b0 d3;go_wp21;refine aP f5.o λj9 ⟨S,d2⟩=>?_;have q1:=S.1.cell 1;have q2:=S.1.cell 2;have j5:=S.1.frozen 1;have j6:=S.1.frozen 2;simp at q1 q2;have f3:=J S;have g5:=J d2;clear S d2;go_wp2;go_meet;rw[G.o];exact⟨(f3.o.put1 L).put2 R,Xy (Xy (((Fr.refl _ _).drewN nq).trans g5.o) 1 _) 2 _⟩
    have G:=J (Z8i p e B a6.o b0);obtain⟨L,I⟩:=ay (e.low+B);have g1:=J (show(e.low:Int)+(B:Int)=L by omega);rw[I,F] at G;have i1:((e.low:Int)+B) % 4294967296=(L:Int):=O;have g0:¬(L:Int)<e.low:=O;clear I F b0;go_wp2;go_meet;rw[G.o,g1.o];exact⟨(((H.o).drewN nq).put1 L).put2 R,Xy (Xy ((Fr.refl _ _).drewN nq) 1 _) 2 _⟩
  obtain⟨e1,M⟩:=hcut;obtain⟨h2,hi,j0,i8,i9⟩:=info_parts C_;have a4:=h5.o;clear c0 c1 c2 f1 g8;go_wp2;go_loopw [] (λwr=>∃(k:Nat) (a8:aI) (x:En),dY wr b a8 x/\dE k x/\k<=2/\Hid (QF k x=nG p l e)/\Fr (foot b dv) w wr/\Zu w dv a8/\x.out.length<=e.out.length+2-k) (λwr=>Eb b wr);exact⟨2,dv,_,e1,e8.o,aU,J rfl,M,.inl rfl,O⟩;clear e1 M a4;obtain⟨k,a8,x,u,a1,j1,e2,M,a9,h0⟩:=hrel;have e5:=u.1.cell 0;have q1:=u.1.cell 1;have q2:=u.1.cell 2;simp at e5 q1 q2;have g9:=a1.low;have i6:=a1.sz.2;by_cases ab:x.size<16777216
  . obtain ⟨j, rfl⟩ : ∃ j, k = j + 1 := by rcases rS k with t|t;subst t;have:=DI a1;omega;exact⟨k-1,O⟩
    have d7:=FG a1 ab;have a5:QF (j+1) x=QF j (Xd x):=(by rw[QF,Vag ab]);have c5:=J a5;have h3:=J d7;have g4:(x.size:Int)<16777216:=O;have i5:0<x.size:=by have:=a1.sz.1;exact PQ
    obtain⟨y,e3⟩:=ay (x.low/16777216);have f7:y<256:=O;have i1:(x.low:Int)/16777216=(y:Int):=O;have e4:IntKind.u8.wrap (y:Int)=(y:Int):=(by rw[IntWalk.u8_in _ O]);obtain⟨L,I⟩:=ay (x.low*256 % 4294967296);have j3:IntKind.u32.wrap ((x.low:Int)*256)=(L:Int):=EV;obtain⟨R,F⟩:=ay (x.size*256);have j4:IntKind.u32.wrap ((x.size:Int)*256)=(R:Int):=EV;have e9:Hid (Xd x=⟨x.out++[UInt8.ofNat y],L,R⟩):=J (by unfold Xd;rw[e3,I,F]);obtain⟨g6,w1,c9,a7,b7,d1⟩:=ZjJ (P:=prog) (w:=wr) 110 110 5 _ _ 1 underlying110 C_ rfl O u.2 [.int .u8 (y:Int)] rfl (by simp[Value.oneCell']) (by unfold maxLen;omega) O (cf _);obtain⟨z,D,E,rfl⟩:=Z7 a7;have q:=(u.1.alloc (.cells #[.int .u8 (y:Int)] 5)).drew.grown b7 (λe=>u.apart e.symm);have r0:=q.cell 0;have b5:=q.cell 1;have b6:=q.cell 2;have t0:=q.frozen 0;have t1:=q.frozen 1;have e6:=q.frozen 2;simp at r0 b5 b6;have g2:=J c9;have i7:=u.1.lt;have d9:=q.lt;have d4:(Value.slice z D E).ownBlock≠some b:=Z1 a7 q aY
    have c4:dY (w1.setCell (b,0) (Value.slice z D E)) b (Value.slice z D E) ⟨x.out++[UInt8.ofNat y],x.low,x.size⟩:=by
      refine⟨by simpa using q.put 0 (Value.slice z D E),?_⟩;have b3:=Zq a7 (p:=⟨b,0,none⟩) d4 (Value.slice z D E);have b4:x.out.map bv++[.int .u8 (y:Int)]=(x.out++[UInt8.ofNat y]).map bv:=by rw[jy];simp[bv,Nat.mod_eq_of_lt f7]
      rw[b4] at b3;rw[Vab];exact b3
    have d6:=(c4.drewN 1).put1 L|>.put2 R;have c8:Fr (foot b dv) w (w1.setCell (b,0) (Value.slice z D E)):=Xy (((M.alloc (.cells #[.int .u8 (y:Int)] 5)).drew).grown b7 (λg a0=>by rcases a9 with t|t;exact .inl (.inr (t▸a0));exact .inr (t g a0))) 0 _
    have c7:Zu w dv (Value.slice z D E):=by rcases d1 with t|t;rcases a9 with a2|a2;exact .inl (t.trans a2);exact .inr (λg a0=>a2 g (t▸a0));refine .inr (λg a0=> ?_);have a2:some g=some (wr.heap.size+1):=a0.symm.trans t;injection a2 with a2;have:=M.size;omega
    obtain⟨j8,a3,f6,f4,g7,f9⟩:=fA d6 c4 u F c8 c7;clear c4 d6 c8 c7 c9 a7 b7 d1 q d7 a5 a1 u ab M a9 e3 I F d4;go_wp2;go_region_law ((refine YG (by rfl) _ _ _ (by rfl) _ _ (by rfl) (by rfl) g2.o ?_))
    all_goals
      clear r0 b5 b6 t0 t1 e6 e5 q1;generalize w1.setCell ⟨b,0,none⟩ (.slice z D E)=W at*;have b5:=a3.o.1.cell 1;have b6:=a3.o.1.cell 2;have t1:=a3.o.1.frozen 1;have e6:=a3.o.1.frozen 2;simp at b5 b6
    all_goals
      go_wp2;go_region
    all_goals
      go_wp2;go_roundw;refine⟨j,.slice z D E,Xd x,?_,h3.o,O,J (by rw[<-c5.o,e2.o]),(Xy (Xy g7.o 1 _) 2 _).drew,f9.o,by rw[X5];omega⟩;rw[e9.o];exact((a3.o.put1 L).put2 R).drew;show Eb b _<Eb b _;rw[L_ (((a3.o.put1 L).put2 R).drew),L_ f6.o];have:=f4.o;simp only;omega
  have a5 : QF k x = x := by cases k with
    |zero=>rfl
    |succ k=>rw[QF,Vae ab]
  have c5:=J a5;have g4:¬(x.size:Int)<16777216:=O;clear ab a5;go_wp2;go_end0;refine⟨rfl,a8,?_,M,a9⟩;rw[<-e2.o,c5.o];exact u
theorem Vf (w:aq):
  Calls prog 113 #[] w λx w'=>x=.returned (w,0)/\dY w' w (.slice none 0 0) e0/\Below w w w':=by go_in;go_wp2;go_ret;exact⟨rfl,⟨Bk.new _ _ _,Zl⟩,(bf _ _).alloc aU _⟩
theorem ZdC (m:Nat):∀(u:Nat) (e:En),mO (m+1) u e=nG 1024 (u % 2) (mO m (u/2) e):=by
 induction m with
 |zero=>intro u e;simp[mO]
 |succ m ih=>intro u e;rw[mO,ih,mO,Nat.div_div_eq_div_mul,rn,tP 2]
theorem ZdB (n j v:Nat) (e:En) (h:j<n):mO (n-j) (v/2 ^ j) e=nG 1024 (v/2 ^ j % 2) (mO (n-(j+1)) (v/2 ^ (j+1)) e):=by rw[show n-j=(n-(j+1))+1 from by exact O,ZdC,Nat.div_div_eq_div_mul,<-rn]
theorem ZdM (k:Nat):∀e:En,(QF k e).out<=e.out.length+k:=by
 induction k with
 |zero=>intro e;exact aU
 |succ k ih=>intro e;rw[QF];split;have:=ih (Xd e);rw[X5] at this;omega;omega
theorem FR (p b:Nat) (e:En):(nG p b e).out<=e.out.length+2:=by
 have h:=ZdM 2 (YP p b e);have:(YP p b e).out=e.out.length:=by unfold YP;split;rfl;split;exact Ym _;rfl
 unfold nG;omega
theorem Vc (n v:Nat):∀e:En,(mO n v e).out<=e.out.length+2*n:=by
 induction n with
 |zero=>intro e;exact aU
 |succ n ih=>intro e;rw[mO];have h1:=ih (nG 1024 (v/2 ^ n % 2) e);have g:=FR 1024 (v/2 ^ n % 2) e;omega
theorem Z8a {e:En} (h:dY w b dv e) (a2:dE 0 e) (n v:Nat) (a7:n<=62) (IN:v<=9223372036854775807) (a6:e.out.length<=900000):
  Calls prog 155 #[(b,0),n,v] w λx w'=>x=.returned (.tuple #[])/\∃D,dY w' b D (mO n v e)/\Fr (foot b dv) w w'/\Zu w dv D:=by
 have a4:=HN;go_in;go_wp2;go_loopw [6] (λi wr=>∃(j:Nat) (p:aI),j<=n/\i=((j:Int)-1:Int)/\dY wr b p (mO (n-j) (v/2 ^ j) e)/\Fr (foot b dv) w wr/\Zu w dv p) (λi _=>(intOf i+1).toNat);exact⟨n,dv,O,rfl,by rw[fh];exact h,Fr.refl _ _,.inl rfl⟩;obtain⟨j,p,a5,rfl,t,B,z⟩:=hrel;by_cases ab:0<j;.obtain⟨k,rfl⟩:∃k,j=k+1:=⟨j-1,O⟩;have q:=ZdB n k v e O;have g:=Vc (n-(k+1)) (v/2 ^ (k+1)) e;have u:=Vd (n-(k+1)) (v/2 ^ (k+1)) a2;have i1:((k+1:Nat):Int)-1=(k:Int):=O;rw[i1];obtain⟨E,F⟩:=ay (mO (n-(k+1)) (v/2 ^ (k+1)) e);obtain⟨y,l⟩:=ay (v/2 ^ k % 2);have a3:y<2:=O;have a8:(v:Int)/2 ^ k % 2=(y:Int):=IZ;rw[F] at q g u t;rw[l] at q;have I:=J (KJ t u 1024 y O O a3 O);have M:=J q;clear q F l t g u;go_wp21;refine aP I.o λw1 ⟨G,R,Q,S⟩=>?_;have a1:=B.size;go_wp2;go_roundw;exact⟨k,G,O,rfl,by rw[M.o];exact R,Zml B Q z,z.trans S a1⟩;simp[intOf]<;>omega
 have a0:j=0:=O;subst a0;go_wp2;go_end0;exact⟨rfl,p,by simpa using t,B,z⟩
theorem U5 {P:Program} (p k e:TypeId) (t:P.underlying p=some (.slice e)) (q:P.underlying e=some (.int .u8)) (hd:P.underlying k=some .string) {base n:Nat} {v:aI} {l:ax}
  (h:w.ownsRow base e 1 v n (l.map bv)):(convert p k v).run P w=.ok (.string (bs l)) w:=by
 rcases h.2 with ⟨rfl,z⟩|⟨g,cap,u,rfl,hb,B,rest⟩
 .have y:l=[]:=by have:=h.1;rw[z,Vah] at this;exact ia O
  subst y;exact run_convert_bytes_nil w p e t q 0 0 k hd
 exact U4 p k e t q hd h
theorem MN (x:Nat):be 4 x=[UInt8.ofNat (x/16777216),UInt8.ofNat (x/65536),UInt8.ofNat (x/256),UInt8.ofNat x]:=by simp[be]
theorem RK {e:En} (h:dY w b dv e) (a7:e.low<4294967296) (G:e.out.length<=1000000):
  Calls prog 118 #[(b,0)] w (bM w (bs (ji e))):=by
 have c0:=h.1.cell 0;have c1:=h.1.cell 1;simp at c0 c1;have a6:=h.1.lt;obtain⟨a1,h1⟩:=ay (e.low/16777216);obtain⟨a2,k⟩:=ay (e.low/65536 % 256);obtain⟨a3,l⟩:=ay (e.low/256 % 256);obtain⟨a4,p⟩:=ay (e.low % 256);have i1:(e.low:Int)/16777216=(a1:Int):=O;have I:(e.low:Int)/65536 % 256=(a2:Int):=O;have M:(e.low:Int)/256 % 256=(a3:Int):=O;have Q:(e.low:Int) % 256=(a4:Int):=O;have a9:a1<256:=O;have l2:a2<256:=O;have b0:a3<256:=O;have l4:a4<256:=O;obtain⟨u,y,z,B⟩:=dc h1 k l p;clear h1 k l p;have H:=J h;clear h;go_in;go_wp2;go_region;have g:dY (w.alloc (.cells #[.int .u8 (a1:Int),.int .u8 (a2:Int),.int .u8 (a3:Int),.int .u8 (a4:Int)] 248)).drew b dv e:=(H.o.below ((bf _ _).alloc aU _)).drew;have E:Below w w (w.alloc (.cells #[.int .u8 (a1:Int),.int .u8 (a2:Int),.int .u8 (a3:Int),.int .u8 (a4:Int)] 248)).drew:=((bf _ _).alloc aU _).drew;have t:Bk (w.alloc (.cells #[.int .u8 (a1:Int),.int .u8 (a2:Int),.int .u8 (a3:Int),.int .u8 (a4:Int)] 248)).drew w 248 #[.int .u8 (a1:Int),.int .u8 (a2:Int),.int .u8 (a3:Int),.int .u8 (a4:Int)]:=Bk.new _ _ _;generalize (w.alloc (.cells #[.int .u8 (a1:Int),.int .u8 (a2:Int),.int .u8 (a3:Int),.int .u8 (a4:Int)] 248)).drew=W at*;have d0:=g.1.cell 0;simp at d0;have R:∀n,(convert 110 9 dv).run prog (W.drewN n)=.ok (.string (bs e.out)) (W.drewN n):=λn=>U5 110 9 5 underlying110 underlying5 underlying9 (g.drewN n).2;have S:∀n,(convert 110 9 (.slice (some (w,0)) 4 4)).run prog (W.drewN n)=.ok (.string (bs [UInt8.ofNat a1,UInt8.ofNat a2,UInt8.ofNat a3,UInt8.ofNat a4])) (W.drewN n):=λn=>by refine run_convert_bytes_back (W.drewN n) 110 9 5 ⟨w,0,none⟩ 4 [UInt8.ofNat a1,UInt8.ofNat a2,UInt8.ofNat a3,UInt8.ofNat a4] underlying110 underlying5 underlying9 (λj F=> ?_);have a0:j<4:=F;rw[Go.WideShapes.add_plain,jK,(t.drewN n).cell];exact On
 have a5:(bs e.out).size<=1000000:=(by rw[Z0];exact G);have a8:(bs [UInt8.ofNat a1,UInt8.ofNat a2,UInt8.ofNat a3,UInt8.ofNat a4]).size=4:=rfl;have D:=J (show bs e.out++bs [UInt8.ofNat a1,UInt8.ofNat a2,UInt8.ofNat a3,UInt8.ofNat a4]=bs (ji e) from by rw[Z9,ji,MN,<-u.o,<-y.o,<-z.o,<-B.o];exact Om);generalize bs e.out=s1 at*;generalize bs [UInt8.ofNat a1,UInt8.ofNat a2,UInt8.ofNat a3,UInt8.ofNat a4]=s2 at*;clear g t c0 c1 i1 I M Q;go_wp2;go_quiet (fail);go_wp2;go_ret;exact⟨Bc D.o,mN E _⟩
def xK:Nat->ax->De
 |0,s=>⟨s,0,4294967295,false,false⟩
 |k+1,s=>Xt (xK k s)
theorem Zim (k:Nat) (s:ax):xK (k+1) s=Xt (xK k s):=rfl
theorem U' (s:ax) (w:aq):
  Calls prog 183 #[bs s] w λx w'=>x=.returned (w,0)/\dD w' w (d0 s)/\Below w w w':=by
 go_in;go_wp2;go_loopw [7] (λi wr=>∃k:Nat,k<=4/\i=k/\dD wr w (xK k s)/\Below w w wr) (λi _=>(4-intOf i).toNat);exact⟨0,O,rfl,Bk.new _ _ _,(bf _ _).alloc aU _⟩;obtain⟨k,G,rfl,hd,g⟩:=hrel;by_cases ab:k<4;.have Hd:=J (T7 hd);have z:=J (Zim k s);clear hd;go_wp21;refine aP Hd.o λw1 ⟨B,u⟩=>?_;go_wp2;go_roundw;exact⟨k+1,O,ci,by rw[z.o];exact B,g.trans (u.toBelow' g.size (λj F e=>Jd))⟩;simp[intOf]<;>omega
 have t:k=4:=O;subst t;have l:=J (show d0 s= { xK 4 s with full:=decide ((xK 4 s).code=(xK 4 s).size) } from rfl);obtain⟨D,q⟩:=ay (xK 4 s);have Hd:=J hd;rw[q] at l Hd hd;clear q;have q1:=Bk.cell hd 1;have q2:=Bk.cell hd 2;have q4:=Bk.cell hd 4;have I:=Bk.frozen hd 4;simp at q1 q2 q4;have E:((D.code:Int)==D.size)=decide (D.code=D.size):=by rw[lN,beq_iff_eq,Vax];omega
 clear hd;go_wp2;go_region;go_wp2;go_ret;rw[l.o];exact⟨rfl,by have y:=Hd.o.put4 (decide (D.code=D.size));exact y.drew,(g.setCell (p:=⟨w,4,none⟩) aU _).drew⟩
def Bw (d:De):Int:=if pH d=true then 0 else 12
theorem L7 {d:De} (h:pH d=true):Bw d=0:=by unfold Bw;rw[Vag h]
theorem GL {d:De} (h:pH d=false):Bw d=12:=by unfold Bw;rw[h];rfl
theorem Zih {d:De} (h:dD w b d):
  Calls prog 228 #[(b,0)] w λx w'=>x=.returned (Bw d:Int)/\w=w':=by
 have c0:=Bk.cell h 0;have c1:=Bk.cell h 1;have u:=Bk.cell h 3;have y:=Bk.cell h 4;simp at c0 c1 u y;have hd:pH d=(!d.miss&& !d.full&&d.rest.isEmpty&&d.code==0):=rfl;have p:∀s:ax,(bs s).toList.isEmpty=s.isEmpty:=λs=>by rcases s with _|⟨a,t⟩;exact HX rfl;exact HW CC
 have G:=p d.rest;generalize q:d.rest.isEmpty=E at*;generalize D:d.miss=ms at*;generalize F:d.full=B at*;generalize bs d.rest=s at*;have Hd:=J hd;clear h p q D F hd;cases ms
 .cases B
  .cases E;exact I0;by_cases g:d.code=0;.have z:((d.code:Int) !=0)=false:=(by rw[g];rfl);have k:=J g;clear g;go_in;go_wp2;go_ret;exact⟨ZZ (L7 (by rw[Hd.o,k.o];rfl)).symm,rfl⟩
   have z:((d.code:Int) !=0)=true:=eV;have l:(d.code==0)=false:=(by rw[lL];exact g);have k:=J l;clear g l;go_in;go_wp2;go_ret;exact⟨ZZ (GL (by rw[Hd.o,k.o];rfl)).symm,rfl⟩
  exact I0
 exact I0
theorem W9 (a b:Nat) (k:a<9223372036854775808) (hb:b<9223372036854775808):bits .or .i64 (a:Int) (b:Int)=((a|||b:Nat):Int):=by have h1:(BitVec.ofInt 64 (a:Int)).toNat=a:=ofInt_u64 a O;have g:(BitVec.ofInt 64 (b:Int)).toNat=b:=ofInt_u64 b O;show IntKind.i64.wrap ((BitVec.ofInt 64 (a:Int)|||BitVec.ofInt 64 (b:Int)).toNat:Nat)=_;rw[BitVec.toNat_or,h1,g];have:=Nat.or_lt_two_pow (x:=a) (y:=b) (n:=63) O O;exact lO
theorem Zdj (m:Nat):∀(a:Nat) (d:De),(ddir (m+1) a d)=(2*(ddir m a d).1+iP 1024 (ddir m a d).2,qe 1024 (ddir m a d).2):=by
 induction m with
 |zero=>intro a d;rfl
 |succ m ih=>intro a d;rw[ddir,ih];rfl
theorem Z2Q (p:Nat) (d:De):iP p d<=1:=by unfold iP;split<;>omega
theorem Ma (m:Nat):∀(a:Nat) (d:De),DV 0 d->DV 0 (ddir m a d).2/\(ddir m a d).1<(a+1)*2 ^ m:=by
 induction m with
 |zero=>intro a d h;exact⟨h,by simp[ddir]⟩
 |succ m ih=>intro a d h;obtain⟨h1,g⟩:=ih (2*a+iP 1024 d) (qe 1024 d) (Dz h O O);rw[ddir];refine⟨h1,Vas g ?_⟩;have:=Z2Q 1024 d;exact An
theorem or1 (v y:Nat) (g:v<4611686018427387904) (k:y<2):bits .or .i64 ((v:Int)*2) (y:Int)=((2*v+y:Nat):Int):=by rw[show(v:Int)*2=((2*v:Nat):Int) from by exact O];rw[W9 _ _ O O,nat_join 1 _ _ O O]
theorem Z86 {d:De} (h:dD w b d) (G:DV 0 d) (n:Nat) (S:n<=62):
  Calls prog 227 #[(b,0),n] w λx w'=>x=.returned (((ddir n 0 d).1:Nat):Int)/\dD w' b (ddir n 0 d).2/\Fr (only b) w w':=by
 go_in;go_wp2;go_loopw [5,13] (λv i wr=>∃k:Nat,k<=n/\i=k/\v=.int .i64 ((ddir k 0 d).1:Nat)/\dD wr b (ddir k 0 d).2/\Fr (only b) w wr) (λ_ i _=>(n-intOf i).toNat);exact⟨0,O,rfl,rfl,h,Fr.refl _ _⟩;obtain⟨k,R,rfl,rfl,hd,z⟩:=hrel;by_cases ab:k<n
 .have g:=Zdj k 0 d;obtain⟨l,u⟩:=Ma k 0 d G;have F:(0+1)*2 ^ k<=2305843009213693952:=by rw[jK,Et];exact pQ (n:=2) O (show k<=61 by omega)
  generalize ddir k 0 d=D at*;obtain⟨v,D⟩:=D;simp only at g l u hd⊢;have p:=J (KE hd l 1024 O O);have I:=Z2Q 1024 D;obtain⟨y,t⟩:=ay (iP 1024 D);rw[t] at p g I;have B:v<2305843009213693952:=O;have Q:=J (or1 v y O O);have q:=J g;clear g l u F hd t;go_wp21;refine aP p.o λw1 ⟨M,E⟩=>?_;go_wp2;go_roundw;exact⟨k+1,O,ci,by rw[Q.o,q.o],by rw[q.o];exact M,z.trans E⟩;simp[intOf]<;>omega
 have:k=n:=O;subst this;go_wp2;go_ret;exact⟨rfl,hd,z⟩
end
variable{b eb g m:Nat}{dv x:aI}{t:List Nat}{w w' w1:aq}
theorem Zbx (p:Int) (h1:1<=p) (g:p<=2047) (w:aq):
  Calls prog 199 #[p] w λx w'=>x=.returned p/\w=w':=Cl
theorem FM (z b:Nat) (h1:1<=z) (p:z<=2047) (hb:b<2) (w:aq):
  Calls prog 153 #[z,b] w λx w'=>x=.returned ((Yd z b:Nat):Int)/\w=w':=by have g:=J (Zbx (z:Int) O O);have k:b=0\/b=1:=O;rcases k with rfl|rfl;have M:=J (show Yd z 0=z+(2048-z)/32 by unfold Yd;rw[Vag rfl]);exact OJ;have M:=J (show Yd z 1=z-z/32 by unfold Yd;rw[Vae O]);have l:(((1:Nat):Int)==0)=false:=rfl;exact OJ
def nc (t:List Nat):Array aI:=(t.map λn:Nat=>(Value.int .i64 (n:Int))).toArray
theorem Xj (t:List Nat) (i:Nat) (h:i<t):(nc t)[i]? =some (.int .i64 (t.getD i 0:Nat)):=by have:t.getD i 0=t[i]:=(by simp[List.getD,h]);rw[this];simp[nc,fb h]
theorem Z0k (t:List Nat) (i z:Nat):(nc t).setIfInBounds i z=nc (t.set i z):=by apply pS.1;simp[nc,List.map_set]
def fp (w:aq) (b g:Nat) (t:List Nat):Prop:=Bk w b 247 #[(6:Int),.slice (some ⟨g,0,none⟩) 64 64]/\Bk w g 3 (nc t)
theorem fp.drewN (h:fp w b g t) (n:Nat):fp (w.drewN n) b g t:=h
theorem fp.drew (h:fp w b g t):fp w.drew b g t:=h
theorem fp.fr {S:Nat->Prop} (h:fp w b g t) (k:Fr S w w') (h1:¬S b) (l:¬S g):fp w' b g t:=⟨h.1.fr k h1,h.2.fr k l⟩
theorem fp.below (h:fp w b g t) (hb:Below w w w'):fp w' b g t:=⟨h.1.below hb h.1.lt,h.2.below hb h.2.lt⟩
theorem fp.put (h:fp w b g t) (m z:Nat):fp (w.setCell (g,m) z) b g (t.set m z):=by have k:b≠g:=Bk.apart h.1 h.2 aY;refine⟨h.1.off (p:=⟨g,m,none⟩) k _,?_⟩;have:=h.2.put m z;rwa [Z0k] at this
theorem fp.foot {e:En} (h:fp w b g t) (l:dY w eb dv e):¬foot eb dv b/\¬foot eb dv g:=by refine⟨λk=> ?_,λk=> ?_⟩;rcases k with k|k;exact Bk.apart h.1 l.1 aY k;exact Z1 l.2 h.1 aY k;rcases k with k|k;exact Bk.apart h.2 l.1 aY k;exact Z1 l.2 h.2 aY k
theorem fp.onl {d:De} (h:fp w b g t) (l:dD w eb d):¬only eb b/\¬only eb g:=
 ⟨λk=>Bk.apart h.1 l aY k,λk=>Bk.apart h.2 l aY k⟩
def tc (g eb:Nat) (dv:aI):Nat->Prop:=λk=>k=g\/foot eb dv k
def vg (g eb:Nat):Nat->Prop:=λk=>k=g\/k=eb
theorem KG {t:aq} {q:aI} (h:Fr (tc g eb dv) w w1) (k:Fr (foot eb q) w1 t) (p:Zu w dv q):Fr (tc g eb dv) w t:=
 h.trans' k (λi hi l=>by rcases l with l|l;exact .inr (.inl l);rcases p with p|p;exact .inr (.inr (p▸l));have:=p i l;omega)
theorem WH (h:Fr (tc g eb dv) w w1):Fr (tc g eb dv) w (w1.setCell (g,m) x):=h.setCell (p:=⟨g,m,none⟩) (.inl (.inl rfl)) x
theorem dY.off {e:En} (l:dY w eb dv e) (h:fp w b g t):dY (w.setCell (g,m) x) eb dv e:=
 l.fr (S:=only g) ((Fr.refl (only g) w).setCell (p:=⟨g,m,none⟩) (.inl rfl) x) (λe=>(h.foot l).2 (.inl e.symm)) (λk q e=>(h.foot l).2 (.inr (by rw[q];exact congrArg some e)))
theorem dD.off {d:De} (k:dD w eb d) (h:fp w b g t):dD (w.setCell (g,m) x) eb d:=
 k.fr (S:=only g) ((Fr.refl (only g) w).setCell (p:=⟨g,m,none⟩) (.inl rfl) x) (λe=>(h.onl k).2 e.symm)
theorem UO (n m:Nat) (t:List Nat) (d:De):ej (n+1) m t d=ej n (2*m+iP (t.getD m 0) d) (t.set m (Yd (t.getD m 0) (iP (t.getD m 0) d))) (qe (t.getD m 0) d):=rfl
theorem DK (n:Nat):∀(m:Nat) (t:List Nat) (d:De),iV t->(m+1)*2 ^ n<=2*t.length->DV 0 d->iV (ej n m t d).2.1/\(ej n m t d).2.1=t.length/\DV 0 (ej n m t d).2.2/\m*2 ^ n<=(ej n m t d).1/\(ej n m t d).1<(m+1)*2 ^ n:=by
 induction n with
 |zero=>intro m t d h1 _ g;exact⟨h1,rfl,g,by simp[ej],by simp[ej]⟩
 |succ n ih=>intro m t d h1 l g;have k:=Qr h1 (Xk l);have hb:=Z2Q (t.getD m 0) d;obtain⟨a,b,c,p,q⟩:=ih (2*m+iP (t.getD m 0) d) _ (qe (t.getD m 0) d) (Qs h1 m (YW (b:=iP (t.getD m 0) d) k)) (by rw[od];exact Y6 O l) (Dz g k.1 k.2);rw[ej];refine⟨a,by rw[b,od],c,co ?_ p,Vas q ?_⟩;exact An;exact An
theorem Zk8 {d:De} (h:fp w b g t) (ht:TNum t) (b2:dD w eb d) (a3:DV 0 d):
  Calls prog 184 #[(b,0),(eb,0)] w λx w'=>x=.returned (((ej 6 1 t d).1-64:Nat):Int)/\fp w' b g (ej 6 1 t d).2.1/\dD w' eb (ej 6 1 t d).2.2/\Fr (vg g eb) w w':=by
 have c0:=h.1.cell 0;simp at c0;have B:=(DK 6 1 t d ht.1 vN a3).2.2.2;go_in;go_wp2;go_loopw [5,11] (λc4 i wr=>∃(j m:Nat) (u:List Nat) (x:De),j<=6/\i=j/\c4=m/\(m+1)*2 ^ (6-j)<=128/\fp wr b g u/\TNum u/\dD wr eb x/\DV 0 x/\Hid (ej (6-j) m u x=ej 6 1 t d)/\Fr (vg g eb) w wr) (λ_ i _=>(6-intOf i).toNat);exact⟨0,1,t,d,O,rfl,rfl,aY,h,ht,b2,a3,J rfl,Fr.refl _ _⟩;clear c0 h ht b2 a3;obtain⟨j,m,u,x,d4,rfl,rfl,F,hu,M,D,a5,a6,I⟩:=hrel;by_cases ab:j<6
 .obtain⟨k,b3⟩:∃k,6-j=k+1:=⟨5-j,O⟩;have a9:6-(j+1)=k:=O;rw[b3] at F a6;have a1:m<u:=Xk (by rw[M.2];exact F);have S:=UO k m u x;have q:=Qr M.1 a1;have b0:=Z2Q (u.getD m 0) x;have q1:=hu.1.cell 1;have a0:=hu.2.cell m;rw[Xj u m a1] at a0;simp at q1;obtain⟨z,b4⟩:=ay (u.getD m 0);rw[b4] at S b0 a0 q;obtain⟨y,a4⟩:=ay (iP z x);rw[a4] at S b0;have b5:y<2:=O;have c7:(2*m+y+1)*2 ^ k<=128:=Y6 (L:=64) b5 F;have d2:(m:Int)<64:=(by rw[M.2] at a1;omega);have R:=KE D a5 z q.1 q.2;rw[a4] at R;have R:=J R;have Ha:=J (FM z y q.1 q.2 b5);have c3:=Dz a5 q.1 q.2;have b7:=hu.onl D;have c5:TNum (u.set m (Yd z y)):=⟨Qs M.1 m (YW q),by rw[od];exact M.2⟩;obtain⟨b8,a8,a7⟩:=bD S hu a9;clear S hu a4 b4 D a5 M F a1 b3 a9 B;go_wp21;refine aP R.o λw1 ⟨b9,b1⟩=>?_;have Q:=a8.o.fr b1 b7.1 b7.2;have c8:=Q.1.cell 1;have c9:=Q.2.cell m;have d3:=Q.2.frozen m;have b6:(nc u)[m]? =z:=(a8.o.2.cell m).symm.trans a0;rw[b6] at c9;simp at c8;clear q1 a0 b6;go_wp2;go_region_with ((go_at_call 153;refine(Ha.o _).mono ?_;rintro r d6 ⟨rfl,rfl⟩))
  all_goals
   go_wp2;go_roundw;exact⟨j+1,2*m+y,u.set m (Yd z y),qe z x,O,ci,by congr 1,by rw[a7.o];exact c7,(Q.put m _).drew,c5,(b9.off Q).drew,c3,J (by rw[a7.o,<-b8.o];exact a6.o),((I.trans' b1 (λi hi e=>.inr e)).setCell (p:=⟨g,m,none⟩) (.inl (.inl rfl)) _).drew⟩;simp[intOf]<;>omega
 have a2:j=6:=O;subst a2;have l:=a6.o;rw[fh,ej] at l;have c6:=hu.1.cell 0;simp at c6;have G:(ej 6 1 t d).1=m:=(by rw[<-l]);rw[G] at B;have d1:64<=m:=B.1;have d5:m<128:=by have:m<=127:=(by simpa using F);omega
 have E:=J l;exact OK
theorem UP (n v m:Nat) (t:List Nat) (e:En):fM (n+1) v m t e=fM n v (2*m+v/2 ^ n % 2) (t.set m (Yd (t.getD m 0) (v/2 ^ n % 2))) (nG (t.getD m 0) (v/2 ^ n % 2) e):=rfl
theorem Zk9 {e:En} (h:fp w b g t) (a7:TNum t) (a6:dY w eb dv e) (a8:dE 0 e) (v:Nat) (IN:v<=9223372036854775807) (d5:e.out.length<=800000):
  Calls prog 115 #[(b,0),(eb,0),v] w λx w'=>x=.returned (.tuple #[])/\fp w' b g (fM 6 v 1 t e).1/\∃a5,dY w' eb a5 (fM 6 v 1 t e).2/\Fr (tc g eb dv) w w'/\Zu w dv a5:=by
 have d3:=HN;have c0:=h.1.cell 0;simp at c0;go_in;go_wp2;go_loopw [6,7] (λc4 i wr=>∃(j m:Nat) (E:aI) (u:List Nat) (x:En),j<=6/\i=((j:Int)-1:Int)/\c4=m/\(m+1)*2 ^ j<=128/\fp wr b g u/\TNum u/\dY wr eb E x/\dE 0 x/\Hid (fM j v m u x=fM 6 v 1 t e)/\Fr (tc g eb dv) w wr/\Zu w dv E/\x.out.length<=e.out.length+2*(6-j)) (λ_ i _=>(intOf i+1).toNat);exact⟨6,1,dv,t,e,O,rfl,rfl,aY,h,a7,a6,a8,J rfl,Fr.refl _ _,.inl rfl,O⟩;clear c0 h a7 a6 a8;obtain⟨j,m,E,u,x,d4,rfl,rfl,S,q,B,F,a1,a9,R,Q,b9⟩:=hrel;by_cases ab:0<j
 .obtain⟨k,rfl⟩:∃k,j=k+1:=⟨j-1,O⟩;have I:m<u:=Xk (by rw[B.2];exact S);have M:=UP k v m u x;have i1:((k+1:Nat):Int)-1=(k:Int):=O;rw[i1];obtain⟨y,l⟩:=ay (v/2 ^ k % 2);have a2:y<2:=O;have d6:(v:Int)/2 ^ k % 2=(y:Int):=IZ;have p:=Qr B.1 I;have c6:(2*m+y+1)*2 ^ k<=128:=Y6 (L:=64) a2 S;have q1:=q.1.cell 1;have G:=q.2.cell m;rw[Xj u m I] at G;simp at q1;obtain⟨z,a0⟩:=ay (u.getD m 0);rw[l,a0] at M;rw[a0] at G p;have d1:(m:Int)<64:=(by rw[B.2] at I;omega);have b3:=J (KJ F a1 z y p.1 p.2 a2 O);have Ha:=J (FM z y p.1 p.2 a2);have c9:=FR z y x;have b6:=Xx a1 (b:=y) p.1 p.2;have b1:=q.foot F;have c5:TNum (u.set m (Yd z y)):=⟨Qs B.1 m (YW p),by rw[od];exact B.2⟩;have b4:=J M;have a3:=J q;clear M q l a0 F a1 B S I;go_wp21;refine aP b3.o λw1 ⟨b2,b5,a4,b7⟩=>?_;have D:=a3.o.fr a4 b1.1 b1.2;have c7:=D.1.cell 1;have c8:=D.2.cell m;have d2:=D.2.frozen m;have b0:(nc u)[m]? =z:=(a3.o.2.cell m).symm.trans G;rw[b0] at c8;simp at c7;clear q1 G b0;have c3:=R.size;go_wp2;go_region_with ((go_at_call 153;refine(Ha.o _).mono ?_;rintro r d7 ⟨rfl,rfl⟩))
  all_goals
   go_wp2;go_roundw;exact⟨k,2*m+y,b2,u.set m (Yd z y),nG z y x,O,rfl,by congr 1,c6,(D.put m _).drew,c5,(b5.off D).drew,b6,J (by rw[<-b4.o];exact a9.o),(WH (KG R a4 Q)).drew,Q.trans b7 c3,O⟩;simp[intOf]<;>omega
 have b8:j=0:=O;subst b8;go_wp2;go_end0;have:=a9.o;rw[fM] at this;rw[<-this];exact⟨rfl,q,E,F,R,Q⟩
