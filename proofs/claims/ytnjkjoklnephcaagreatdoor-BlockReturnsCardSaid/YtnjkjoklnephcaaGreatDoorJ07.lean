import Derived.Deep.RegionHeld3
import Derived.Test.YtnjkjoklnephcaaGreatDoorJ06
import Derived.Deep.RegionWith
set_option linter.all false
set_option maxRecDepth 100000
set_option maxHeartbeats 0
open Go.Proofs.Tryz (prog underlying5 underlying88 underlying9)
section
variable{P Q:Prop}
theorem CH(h:P:=by rw[Z0];simp):P:=h
theorem Jm(h:P:=by have:j=w:=e;omega):P:=h
theorem lP(h:P:=by rw[IntWalk.i64_in _ (by omega)]):P:=h
theorem I0(h:P:=by rw[<-l,Int.natCast_emod,Int.natCast_ediv,Int.natCast_pow];rfl):P:=h
theorem I1(h:P:=by go_in;go_wp2;go_ret;exact⟨ZY (GY (by rw[Hd.o];rfl)).symm,rfl⟩):P:=h
theorem Pt(h:P:=by clear l F B hm;go_wp2;go_ret;rw[<-G.o];exact⟨ZY (by simp only;omega),hu,D,E⟩):P:=h
theorem Pr(h:P:=by go_in;go_wp21;refine cq (g.o _) ?_;go_wp2;go_ret;exact⟨ZY (by rw[M.o];omega),rfl⟩):P:=h
theorem OC(h:P:=by have:j=0\/j=1\/j=2\/j=3:=(by omega);rcases this with rfl|rfl|rfl|rfl<;>simp[Nat.mod_eq_of_lt, *]):P:=h
theorem OB(h:P:=by have q:∀x:Nat,UInt8.ofNat (x % 256)=UInt8.ofNat x:=λx=>(by apply UInt8.toNat_inj.1;simp);rw[q,q,q]):P:=h
end
namespace Go.Proofs.Y
open Wv Go.RowKit
section
variable{b:Nat}{dv:aJ}{w:au}
theorem Zbo (p:Nat) (e:En):YT p 0 e=⟨e.out,e.low,e.size/2048*p⟩:=by unfold YT;rw[aP rfl]
theorem Zbn (p:Nat) (e:En) (B:Nat) (g:e.size/2048*p=B) (h:4294967296<=e.low+B):YT p 1 e=⟨Qd e.out,e.low+B-4294967296,e.size-B⟩:=by unfold YT;rw[g,az O,aP h]
theorem Z8o (p:Nat) (e:En) (B:Nat) (g:e.size/2048*p=B) (h:¬4294967296<=e.low+B):YT p 1 e=⟨e.out,e.low+B,e.size-B⟩:=by unfold YT;rw[g,az O,az h]
def Ef (b:Nat) (w:au):Nat:=match w.cell? ⟨b,2,none⟩ with
 |some (.int _ n)=>(16777216-n).toNat
 |_=>0
theorem Zgx {e:En} (h:dT w b dv e):Ef b w=(16777216-(e.size:Int)).toNat:=by have:=h.1.cell 2;simp at this;unfold Ef;rw[this]
theorem dT.put1 {e:En} (h:dT w b dv e) (x:Nat):dT (w.setCell (b,1) (.int .u32 (x:Int))) b dv ⟨e.out,x,e.size⟩:=
 ⟨by simpa using h.1.put 1 (.int .u32 (x:Int)),Zq h.2 (p:=⟨b,1,none⟩) h.apart _⟩
theorem dT.put2 {e:En} (h:dT w b dv e) (x:Nat):dT (w.setCell (b,2) (.int .u32 (x:Int))) b dv ⟨e.out,e.low,x⟩:=
 ⟨by simpa using h.1.put 2 (.int .u32 (x:Int)),Zq h.2 (p:=⟨b,2,none⟩) h.apart _⟩
theorem XC {w':au} (h:Fr (foot b dv) w w') (o:Nat) (x:aJ):Fr (foot b dv) w (w'.setCell (b,o) x):=h.setCell (p:=⟨b,o,none⟩) (.inl (.inl rfl)) x
theorem KT {w : au} {b : Nat} {dv : aJ} {e : En} (h : dT w b dv e) (Q : dB 0 e) (p l : Nat) (b8 : 1 <= p) (b9 : p <= 2047) (aa : l < 2) (j1 : e.out.length <= 1000000) :
    Calls prog 162 #[(b,0),p,l] w λx w'=>x=.returned (.tuple #[])/\∃d4,dT w' b d4 (nP p l e)/\Fr (foot b dv) w w'/\Zu w dv d4:=by
  obtain⟨h4,j6⟩:=DS Q;obtain⟨b1,g2⟩:=C5 e.size p h4 b8 b9;have g8:=Q.low;have e6:=(QH Q (b:=l) b8 b9).1;have d7:=(QH Q (b:=l) b8 b9).2.2.2;obtain⟨B,c3⟩:=ay (e.size/2048*p);have c6:=Q.top;have c0:=h.1.cell 0;have c1:=h.1.cell 1;have c2:=h.1.cell 2;have f1:=h.1.frozen 1;have g7:=h.1.frozen 2;simp at c0 c1 c2;have h2:=J (TF (p:Int) O O);rw[c3] at b1 g2;have a6:=J c3;have H:=J h;have i0:IntKind.u32.wrap ((e.size:Int)/2048*(p:Int))=(B:Int):=by have:(e.size:Int)/2048*(p:Int)=B:=(by rw[<-a6.o,vP,Int.natCast_ediv];rfl);rw[this,IntWalk.u32_in _ O]
  obtain⟨e8,h3,f8,h5⟩:=dm e6 d7 c6 Q;clear h c3 e6 d7 c6 Q;go_in;go_wp2;go_quiet ((go_at_call 208;exact zw (h2.o _)));clear i0;go_upto_if 17 with fail;go_cut [] (λwx=>dT wx b dv (YT p l e)/\Fr (foot b dv) w wx)
  case first=>
    have g9:l=0\/l=1:=O;rcases g9 with rfl|rfl;. have G:=J (Zbo p e);rw[a6.o] at G;go_wp2;go_meet;rw[G.o];exact⟨((H.o).drewN nq).put2 B,XC ((Fr.refl _ _).drewN nq) 2 _⟩
    have e3:(e.size:Int)-B=((e.size-B:Nat):Int):=O;obtain⟨R,F⟩:=ay (e.size-B);rw[F] at e3;by_cases a9:4294967296<=e.low+B
    . have G:=J (Zbn p e B a6.o a9);obtain⟨L,I⟩:=ay (e.low+B-4294967296);have i1:((e.low:Int)+B) % 4294967296=(L:Int):=O;have f9:(L:Int)<e.low:=O;rw[I,F] at G;have d3:0<e.out.length:=by rcases qB e.out.length with t|t;have b4:=f8.o;have b3:N e=vl 0 e.out*4294967296+e.low:=rfl;rw[b3,t] at b4;simp only[Nat.pow_zero,Ai] at b4;omega;exact t
      have f4:=J (Zc3 ((H.o).drewN nq) d3 O);clear I F a9 d3;go_wp21;refine aO f4.o λj9 ⟨S,an⟩=>?_;have q1:=S.1.cell 1;have q2:=S.1.cell 2;have j4:=S.1.frozen 1;have j5:=S.1.frozen 2;simp at q1 q2;have e7:=J S;have g5:=J an;clear S an;go_wp2;go_meet;rw[G.o];exact⟨(e7.o.put1 L).put2 R,XC (XC (((Fr.refl _ _).drewN nq).trans g5.o) 1 _) 2 _⟩
    have G:=J (Z8o p e B a6.o a9);obtain⟨L,I⟩:=ay (e.low+B);have g0:=J (show(e.low:Int)+(B:Int)=L by omega);rw[I,F] at G;have i1:((e.low:Int)+B) % 4294967296=(L:Int):=O;have f9:¬(L:Int)<e.low:=O;clear I F a9;go_wp2;go_meet;rw[G.o,g0.o];exact⟨(((H.o).drewN nq).put1 L).put2 R,XC (XC ((Fr.refl _ _).drewN nq) 1 _) 2 _⟩
  obtain⟨d9,M⟩:=hcut;obtain⟨h0,hi,i8,i7,i9⟩:=info_parts Y_;have a4:=h3.o;clear c0 c1 c2 f1 g7;go_wp2;go_loopw [] (λwr=>∃(k:Nat) (a8:aJ) (x:En),dT wr b a8 x/\dB k x/\k<=2/\Hid (QG k x=nP p l e)/\Fr (foot b dv) w wr/\Zu w dv a8/\x.out.length<=e.out.length+2-k) (λwr=>Ef b wr);exact⟨2,dv,_,d9,e8.o,aW,J rfl,M,.inl rfl,O⟩;clear d9 M a4;obtain⟨k,a8,x,u,a0,j0,e1,M,b0,h9⟩:=hrel;have e4:=u.1.cell 0;have q1:=u.1.cell 1;have q2:=u.1.cell 2;simp at e4 q1 q2;have g8:=a0.low;have i5:=a0.sz.2;by_cases ab:x.size<16777216
  . obtain ⟨j, rfl⟩ : ∃ j, k = j + 1 := by rcases qB k with t|t;subst t;have:=DS a0;omega;exact⟨k-1,O⟩
    have d6:=FQ a0 ab;have a5:QG (j+1) x=QG j (Xg x):=(by rw[QG,aP ab]);have c5:=J a5;have h1:=J d6;have g3:(x.size:Int)<16777216:=O;have h6:0<x.size:=by have:=a0.sz.1;exact P3
    obtain⟨y,e2⟩:=ay (x.low/16777216);have f6:y<256:=O;have i1:(x.low:Int)/16777216=(y:Int):=O;have e3:IntKind.u8.wrap (y:Int)=(y:Int):=(by rw[IntWalk.u8_in _ O]);obtain⟨L,I⟩:=ay (x.low*256 % 4294967296);have j2:IntKind.u32.wrap ((x.low:Int)*256)=(L:Int):=Fa;obtain⟨R,F⟩:=ay (x.size*256);have j3:IntKind.u32.wrap ((x.size:Int)*256)=(R:Int):=Fa;have e9:Hid (Xg x=⟨x.out++[UInt8.ofNat y],L,R⟩):=J (by unfold Xg;rw[e2,I,F]);obtain⟨g6,w1,c9,a7,b7,d1⟩:=ZjR (P:=prog) (w:=wr) 88 88 5 _ _ 1 underlying88 Y_ rfl O u.2 [.int .u8 (y:Int)] rfl (by simp[Value.oneCell']) (by unfold maxLen;omega) O (cf _);obtain⟨z,D,E,rfl⟩:=Za a7;have q:=(u.1.alloc (.cells #[.int .u8 (y:Int)] 5)).drew.grown b7 (λe=>u.apart e.symm);have r0:=q.cell 0;have b5:=q.cell 1;have b6:=q.cell 2;have t0:=q.frozen 0;have t1:=q.frozen 1;have e5:=q.frozen 2;simp at r0 b5 b6;have g1:=J c9;have i6:=u.1.lt;have d8:=q.lt;have d2:(Value.slice z D E).ownBlock≠some b:=Z1 a7 q aZ
    have c4:dT (w1.setCell (b,0) (Value.slice z D E)) b (Value.slice z D E) ⟨x.out++[UInt8.ofNat y],x.low,x.size⟩:=by
      refine⟨by simpa using q.put 0 (Value.slice z D E),?_⟩;have b3:=Zq a7 (p:=⟨b,0,none⟩) d2 (Value.slice z D E);have b4:x.out.map bv++[.int .u8 (y:Int)]=(x.out++[UInt8.ofNat y]).map bv:=by rw[jv];simp[bv,Nat.mod_eq_of_lt f6]
      rw[b4] at b3;rw[bT];exact b3
    have d5:=(c4.drewN 1).put1 L|>.put2 R;have c8:Fr (foot b dv) w (w1.setCell (b,0) (Value.slice z D E)):=XC (((M.alloc (.cells #[.int .u8 (y:Int)] 5)).drew).grown b7 (λg a1=>by rcases b0 with t|t;exact .inl (.inr (t▸a1));exact .inr (t g a1))) 0 _
    have c7:Zu w dv (Value.slice z D E):=by rcases d1 with t|t;rcases b0 with a2|a2;exact .inl (t.trans a2);exact .inr (λg a1=>a2 g (t▸a1));refine .inr (λg a1=> ?_);have a2:some g=some (wr.heap.size+1):=a1.symm.trans t;injection a2 with a2;have:=M.size;omega
    obtain⟨j8,a3,f5,f3,g4,f7⟩:=fF d5 c4 u F c8 c7;clear c4 d5 c8 c7 c9 a7 b7 d1 q d6 a5 a0 u ab M b0 e2 I F d2;go_wp2;go_region_law ((refine YH (by rfl) _ _ _ (by rfl) _ _ (by rfl) (by rfl) g1.o ?_))
    all_goals
      clear r0 b5 b6 t0 t1 e5 e4 q1;generalize w1.setCell ⟨b,0,none⟩ (.slice z D E)=W at*;have b5:=a3.o.1.cell 1;have b6:=a3.o.1.cell 2;have t1:=a3.o.1.frozen 1;have e5:=a3.o.1.frozen 2;simp at b5 b6
    all_goals
      go_wp2;go_region
    all_goals
      go_wp2;go_roundw;refine⟨j,.slice z D E,Xg x,?_,h1.o,O,J (by rw[<-c5.o,e1.o]),(XC (XC g4.o 1 _) 2 _).drew,f7.o,by rw[Xa];omega⟩;rw[e9.o];exact((a3.o.put1 L).put2 R).drew;show Ef b _<Ef b _;rw[Zgx (((a3.o.put1 L).put2 R).drew),Zgx f5.o];have:=f3.o;simp only;omega
  have a5 : QG k x = x := by cases k with
    |zero=>rfl
    |succ k=>rw[QG,az ab]
  have c5:=J a5;have g3:¬(x.size:Int)<16777216:=O;clear ab a5;go_wp2;go_end0;refine⟨rfl,a8,?_,M,b0⟩;rw[<-e1.o,c5.o];exact u
theorem VA (w:au):
  Calls prog 116 #[] w λx w'=>x=.returned (w,0)/\dT w' w (.slice none 0 0) e0/\Below w w w':=by go_in;go_wp2;go_ret;exact⟨rfl,⟨Bk.new _ _ _,Zm⟩,(bi _ _).alloc aW _⟩
theorem ZdL (m:Nat):∀(u:Nat) (e:En),mW (m+1) u e=nP 1024 (u % 2) (mW m (u/2) e):=by
 induction m with
 |zero=>intro u e;simp[mW]
 |succ m ih=>intro u e;rw[mW,ih,mW,Nat.div_div_eq_div_mul,rq,tQ 2]
theorem ZdK (n j v:Nat) (e:En) (h:j<n):mW (n-j) (v/2 ^ j) e=nP 1024 (v/2 ^ j % 2) (mW (n-(j+1)) (v/2 ^ (j+1)) e):=by rw[show n-j=(n-(j+1))+1 from by exact O,ZdL,Nat.div_div_eq_div_mul,<-rq]
theorem ZdV (k:Nat):∀e:En,(QG k e).out<=e.out.length+k:=by
 induction k with
 |zero=>intro e;exact aW
 |succ k ih=>intro e;rw[QG];split;have:=ih (Xg e);rw[Xa] at this;omega;omega
theorem F7 (p b:Nat) (e:En):(nP p b e).out<=e.out.length+2:=by
 have h:=ZdV 2 (YT p b e);have:(YT p b e).out=e.out.length:=by unfold YT;split;rfl;split;exact Ym _;rfl
 unfold nP;omega
theorem Vw (n v:Nat):∀e:En,(mW n v e).out<=e.out.length+2*n:=by
 induction n with
 |zero=>intro e;exact aW
 |succ n ih=>intro e;rw[mW];have h1:=ih (nP 1024 (v/2 ^ n % 2) e);have g:=F7 1024 (v/2 ^ n % 2) e;omega
theorem Z8g {e:En} (h:dT w b dv e) (a0:dB 0 e) (n v:Nat) (a7:n<=62) (a3:v<=9223372036854775807) (a6:e.out.length<=900000):
  Calls prog 165 #[(b,0),n,v] w λx w'=>x=.returned (.tuple #[])/\∃D,dT w' b D (mW n v e)/\Fr (foot b dv) w w'/\Zu w dv D:=by
 have a4:=HS;go_in;go_wp2;go_loopw [6] (λi wr=>∃(j:Nat) (p:aJ),j<=n/\i=((j:Int)-1:Int)/\dT wr b p (mW (n-j) (v/2 ^ j) e)/\Fr (foot b dv) w wr/\Zu w dv p) (λi _=>(intOf i+1).toNat);exact⟨n,dv,O,rfl,by rw[fv];exact h,Fr.refl _ _,.inl rfl⟩;obtain⟨j,p,a5,rfl,t,B,z⟩:=hrel;by_cases ab:0<j;.obtain⟨k,rfl⟩:∃k,j=k+1:=⟨j-1,O⟩;have q:=ZdK n k v e O;have g:=Vw (n-(k+1)) (v/2 ^ (k+1)) e;have u:=Vx (n-(k+1)) (v/2 ^ (k+1)) a0;have i1:((k+1:Nat):Int)-1=(k:Int):=O;rw[i1];obtain⟨E,F⟩:=ay (mW (n-(k+1)) (v/2 ^ (k+1)) e);obtain⟨y,l⟩:=ay (v/2 ^ k % 2);have a2:y<2:=O;have a8:(v:Int)/2 ^ k % 2=(y:Int):=I0;rw[F] at q g u t;rw[l] at q;have I:=J (KT t u 1024 y O O a2 O);have M:=J q;clear q F l t g u;go_wp21;refine aO I.o λw1 ⟨G,Q,an,R⟩=>?_;have S:=B.size;go_wp2;go_roundw;exact⟨k,G,O,rfl,by rw[M.o];exact Q,Zmr B an z,z.trans R S⟩;simp[intOf]<;>omega
 have a1:j=0:=O;subst a1;go_wp2;go_end0;exact⟨rfl,p,by simpa using t,B,z⟩
theorem Vp {P:Program} (p k e:TypeId) (t:P.underlying p=some (.slice e)) (q:P.underlying e=some (.int .u8)) (hd:P.underlying k=some .string) {base n:Nat} {v:aJ} {l:ax}
  (h:w.ownsRow base e 1 v n (l.map bv)):(convert p k v).run P w=.ok (.string (bs l)) w:=by
 rcases h.2 with ⟨rfl,z⟩|⟨g,cap,u,rfl,hb,B,rest⟩
 .have y:l=[]:=by have:=h.1;rw[z,dc] at this;exact gx O
  subst y;exact run_convert_bytes_nil w p e t q 0 0 k hd
 exact Vo p k e t q hd h
theorem MX (x:Nat):be 4 x=[UInt8.ofNat (x/16777216),UInt8.ofNat (x/65536),UInt8.ofNat (x/256),UInt8.ofNat x]:=by simp[be]
theorem R6 {e:En} (h:dT w b dv e) (a7:e.low<4294967296) (G:e.out.length<=1000000):
  Calls prog 121 #[(b,0)] w (bN w (bs (ji e))):=by
 have c0:=h.1.cell 0;have c1:=h.1.cell 1;simp at c0 c1;have a6:=h.1.lt;obtain⟨a1,h1⟩:=ay (e.low/16777216);obtain⟨a2,k⟩:=ay (e.low/65536 % 256);obtain⟨a3,l⟩:=ay (e.low/256 % 256);obtain⟨a4,p⟩:=ay (e.low % 256);have i1:(e.low:Int)/16777216=(a1:Int):=O;have I:(e.low:Int)/65536 % 256=(a2:Int):=O;have M:(e.low:Int)/256 % 256=(a3:Int):=O;have Q:(e.low:Int) % 256=(a4:Int):=O;have a9:a1<256:=O;have l2:a2<256:=O;have b0:a3<256:=O;have l4:a4<256:=O;obtain⟨u,y,z,B⟩:=dm h1 k l p;clear h1 k l p;have H:=J h;clear h;go_in;go_wp2;go_region;have g:dT (w.alloc (.cells #[.int .u8 (a1:Int),.int .u8 (a2:Int),.int .u8 (a3:Int),.int .u8 (a4:Int)] 253)).drew b dv e:=(H.o.below ((bi _ _).alloc aW _)).drew;have E:Below w w (w.alloc (.cells #[.int .u8 (a1:Int),.int .u8 (a2:Int),.int .u8 (a3:Int),.int .u8 (a4:Int)] 253)).drew:=((bi _ _).alloc aW _).drew;have t:Bk (w.alloc (.cells #[.int .u8 (a1:Int),.int .u8 (a2:Int),.int .u8 (a3:Int),.int .u8 (a4:Int)] 253)).drew w 253 #[.int .u8 (a1:Int),.int .u8 (a2:Int),.int .u8 (a3:Int),.int .u8 (a4:Int)]:=Bk.new _ _ _;generalize (w.alloc (.cells #[.int .u8 (a1:Int),.int .u8 (a2:Int),.int .u8 (a3:Int),.int .u8 (a4:Int)] 253)).drew=W at*;have d0:=g.1.cell 0;simp at d0;have S:∀n,(convert 88 9 dv).run prog (W.drewN n)=.ok (.string (bs e.out)) (W.drewN n):=λn=>Vp 88 9 5 underlying88 underlying5 underlying9 (g.drewN n).2;have a0:∀n,(convert 88 9 (.slice (some (w,0)) 4 4)).run prog (W.drewN n)=.ok (.string (bs [UInt8.ofNat a1,UInt8.ofNat a2,UInt8.ofNat a3,UInt8.ofNat a4])) (W.drewN n):=λn=>by refine run_convert_bytes_back (W.drewN n) 88 9 5 ⟨w,0,none⟩ 4 [UInt8.ofNat a1,UInt8.ofNat a2,UInt8.ofNat a3,UInt8.ofNat a4] underlying88 underlying5 underlying9 (λj F=> ?_);have R:j<4:=F;rw[Go.WideShapes.add_plain,jW,(t.drewN n).cell];exact OC
 have a5:(bs e.out).size<=1000000:=(by rw[Z0];exact G);have a8:(bs [UInt8.ofNat a1,UInt8.ofNat a2,UInt8.ofNat a3,UInt8.ofNat a4]).size=4:=rfl;have D:=J (show bs e.out++bs [UInt8.ofNat a1,UInt8.ofNat a2,UInt8.ofNat a3,UInt8.ofNat a4]=bs (ji e) from by rw[Z8,ji,MX,<-u.o,<-y.o,<-z.o,<-B.o];exact OB);generalize bs e.out=s1 at*;generalize bs [UInt8.ofNat a1,UInt8.ofNat a2,UInt8.ofNat a3,UInt8.ofNat a4]=s2 at*;clear g t c0 c1 i1 I M Q;go_wp2;go_quiet (fail);go_wp2;go_ret;exact⟨Bj D.o,mU E _⟩
def xS:Nat->ax->De
 |0,s=>⟨s,0,4294967295,false,false⟩
 |k+1,s=>Xx (xS k s)
theorem Ziv (k:Nat) (s:ax):xS (k+1) s=Xx (xS k s):=rfl
theorem Vt (s:ax) (w:au):
  Calls prog 214 #[bs s] w λx w'=>x=.returned (w,0)/\dA w' w (d0 s)/\Below w w w':=by
 go_in;go_wp2;go_loopw [7] (λi wr=>∃k:Nat,k<=4/\i=k/\dA wr w (xS k s)/\Below w w wr) (λi _=>(4-intOf i).toNat);exact⟨0,O,rfl,Bk.new _ _ _,(bi _ _).alloc aW _⟩;obtain⟨k,G,rfl,hd,g⟩:=hrel;by_cases ab:k<4;.have Hd:=J (TN hd);have y:=J (Ziv k s);clear hd;go_wp21;refine aO Hd.o λw1 ⟨z,t⟩=>?_;go_wp2;go_roundw;exact⟨k+1,O,ck,by rw[y.o];exact z,g.trans (t.toBelow' g.size (λj F e=>Jm))⟩;simp[intOf]<;>omega
 have B:k=4:=O;subst B;have l:=J (show d0 s= { xS 4 s with full:=decide ((xS 4 s).code=(xS 4 s).size) } from rfl);obtain⟨D,q⟩:=ay (xS 4 s);have Hd:=J hd;rw[q] at l Hd hd;clear q;have q1:=Bk.cell hd 1;have q2:=Bk.cell hd 2;have q4:=Bk.cell hd 4;have I:=Bk.frozen hd 4;simp at q1 q2 q4;have E:((D.code:Int)==D.size)=decide (D.code=D.size):=by rw[lO,beq_iff_eq,fE];omega
 clear hd;go_wp2;go_region;go_wp2;go_ret;rw[l.o];exact⟨rfl,by have u:=Hd.o.put4 (decide (D.code=D.size));exact u.drew,(g.setCell (p:=⟨w,4,none⟩) aW _).drew⟩
def BE (d:De):Int:=if pL d=true then 0 else 12
theorem Me {d:De} (h:pL d=true):BE d=0:=by unfold BE;rw[aP h]
theorem GY {d:De} (h:pL d=false):BE d=12:=by unfold BE;rw[h];rfl
theorem Ziq {d:De} (h:dA w b d):
  Calls prog 248 #[(b,0)] w λx w'=>x=.returned (BE d:Int)/\w=w':=by
 have c0:=Bk.cell h 0;have c1:=Bk.cell h 1;have u:=Bk.cell h 3;have y:=Bk.cell h 4;simp at c0 c1 u y;have hd:pL d=(!d.miss&& !d.full&&d.rest.isEmpty&&d.code==0):=rfl;have p:∀s:ax,(bs s).toList.isEmpty=s.isEmpty:=λs=>by rcases s with _|⟨a,t⟩;exact H7 rfl;exact H6 CH
 have G:=p d.rest;generalize q:d.rest.isEmpty=E at*;generalize D:d.miss=ms at*;generalize F:d.full=B at*;generalize bs d.rest=s at*;have Hd:=J hd;clear h p q D F hd;cases ms
 .cases B
  .cases E;exact I1;by_cases g:d.code=0;.have z:((d.code:Int) !=0)=false:=(by rw[g];rfl);have k:=J g;clear g;go_in;go_wp2;go_ret;exact⟨ZY (Me (by rw[Hd.o,k.o];rfl)).symm,rfl⟩
   have z:((d.code:Int) !=0)=true:=fb;have l:(d.code==0)=false:=(by rw[lN];exact g);have k:=J l;clear g l;go_in;go_wp2;go_ret;exact⟨ZY (GY (by rw[Hd.o,k.o];rfl)).symm,rfl⟩
  exact I1
 exact I1
theorem B_ (a b:Nat) (k:a<9223372036854775808) (hb:b<9223372036854775808):bits .or .i64 (a:Int) (b:Int)=((a|||b:Nat):Int):=by have h1:(BitVec.ofInt 64 (a:Int)).toNat=a:=ofInt_u64 a O;have g:(BitVec.ofInt 64 (b:Int)).toNat=b:=ofInt_u64 b O;show IntKind.i64.wrap ((BitVec.ofInt 64 (a:Int)|||BitVec.ofInt 64 (b:Int)).toNat:Nat)=_;rw[BitVec.toNat_or,h1,g];have:=Nat.or_lt_two_pow (x:=a) (y:=b) (n:=63) O O;exact lP
theorem Zdt (m:Nat):∀(a:Nat) (d:De),(lr (m+1) a d)=(2*(lr m a d).1+iO 1024 (lr m a d).2,qh 1024 (lr m a d).2):=by
 induction m with
 |zero=>intro a d;rfl
 |succ m ih=>intro a d;rw[lr,ih];rfl
theorem ze (p:Nat) (d:De):iO p d<=1:=by unfold iO;split<;>omega
theorem Mi (m:Nat):∀(a:Nat) (d:De),DV 0 d->DV 0 (lr m a d).2/\(lr m a d).1<(a+1)*2 ^ m:=by
 induction m with
 |zero=>intro a d h;exact⟨h,by simp[lr]⟩
 |succ m ih=>intro a d h;obtain⟨h1,g⟩:=ih (2*a+iO 1024 d) (qh 1024 d) (DN h O O);rw[lr];refine⟨h1,eD g ?_⟩;have:=ze 1024 d;exact Aq
theorem or1 (v y:Nat) (g:v<4611686018427387904) (k:y<2):bits .or .i64 ((v:Int)*2) (y:Int)=((2*v+y:Nat):Int):=by rw[show(v:Int)*2=((2*v:Nat):Int) from by exact O];rw[B_ _ _ O O,nat_join 1 _ _ O O]
theorem Z8c {d:De} (h:dA w b d) (G:DV 0 d) (n:Nat) (S:n<=62):
  Calls prog 247 #[(b,0),n] w λx w'=>x=.returned (((lr n 0 d).1:Nat):Int)/\dA w' b (lr n 0 d).2/\Fr (only b) w w':=by
 go_in;go_wp2;go_loopw [5,13] (λv i wr=>∃k:Nat,k<=n/\i=k/\v=.int .i64 ((lr k 0 d).1:Nat)/\dA wr b (lr k 0 d).2/\Fr (only b) w wr) (λ_ i _=>(n-intOf i).toNat);exact⟨0,O,rfl,rfl,h,Fr.refl _ _⟩;obtain⟨k,R,rfl,rfl,hd,z⟩:=hrel;by_cases ab:k<n
 .have g:=Zdt k 0 d;obtain⟨l,u⟩:=Mi k 0 d G;have F:(0+1)*2 ^ k<=2305843009213693952:=by rw[jW,ED];exact pT (n:=2) O (show k<=61 by omega)
  generalize lr k 0 d=D at*;obtain⟨v,D⟩:=D;simp only at g l u hd⊢;have p:=J (KM hd l 1024 O O);have I:=ze 1024 D;obtain⟨y,t⟩:=ay (iO 1024 D);rw[t] at p g I;have B:v<2305843009213693952:=O;have Q:=J (or1 v y O O);have q:=J g;clear g l u F hd t;go_wp21;refine aO p.o λw1 ⟨M,E⟩=>?_;go_wp2;go_roundw;exact⟨k+1,O,ck,by rw[Q.o,q.o],by rw[q.o];exact M,z.trans E⟩;simp[intOf]<;>omega
 have:k=n:=O;subst this;go_wp2;go_ret;exact⟨rfl,hd,z⟩
end
variable{b eb g m:Nat}{dv x:aJ}{t:List Nat}{w w' w1:au}
theorem ZbG (p:Int) (h1:1<=p) (g:p<=2047) (w:au):
  Calls prog 210 #[p] w λx w'=>x=.returned p/\w=w':=Cr
theorem F2 (z b:Nat) (h1:1<=z) (p:z<=2047) (hb:b<2) (w:au):
  Calls prog 163 #[z,b] w λx w'=>x=.returned ((Yc z b:Nat):Int)/\w=w':=by have g:=J (ZbG (z:Int) O O);have k:b=0\/b=1:=O;rcases k with rfl|rfl;have M:=J (show Yc z 0=z+(2048-z)/32 by unfold Yc;rw[aP rfl]);exact Pr;have M:=J (show Yc z 1=z-z/32 by unfold Yc;rw[az O]);have l:(((1:Nat):Int)==0)=false:=rfl;exact Pr
def nc (t:List Nat):Array aJ:=(t.map λn:Nat=>(Value.int .i64 (n:Int))).toArray
theorem Xm (t:List Nat) (i:Nat) (h:i<t):(nc t)[i]? =some (.int .i64 (t.getD i 0:Nat)):=by have:t.getD i 0=t[i]:=(by simp[List.getD,h]);rw[this];simp[nc,fD h]
theorem vg (t:List Nat) (i z:Nat):(nc t).setIfInBounds i z=nc (t.set i z):=by apply pV.1;simp[nc,List.map_set]
def fz (w:au) (b g:Nat) (t:List Nat):Prop:=Bk w b 252 #[(6:Int),.slice (some ⟨g,0,none⟩) 64 64]/\Bk w g 3 (nc t)
theorem fz.drewN (h:fz w b g t) (n:Nat):fz (w.drewN n) b g t:=h
theorem fz.drew (h:fz w b g t):fz w.drew b g t:=h
theorem fz.fr {S:Nat->Prop} (h:fz w b g t) (k:Fr S w w') (h1:¬S b) (l:¬S g):fz w' b g t:=⟨h.1.fr k h1,h.2.fr k l⟩
theorem fz.below (h:fz w b g t) (hb:Below w w w'):fz w' b g t:=⟨h.1.below hb h.1.lt,h.2.below hb h.2.lt⟩
theorem fz.put (h:fz w b g t) (m z:Nat):fz (w.setCell (g,m) z) b g (t.set m z):=by have k:b≠g:=Bk.apart h.1 h.2 aZ;refine⟨h.1.off (p:=⟨g,m,none⟩) k _,?_⟩;have:=h.2.put m z;rwa [vg] at this
theorem fz.foot {e:En} (h:fz w b g t) (l:dT w eb dv e):¬foot eb dv b/\¬foot eb dv g:=by refine⟨λk=> ?_,λk=> ?_⟩;rcases k with k|k;exact Bk.apart h.1 l.1 aZ k;exact Z1 l.2 h.1 aZ k;rcases k with k|k;exact Bk.apart h.2 l.1 aZ k;exact Z1 l.2 h.2 aZ k
theorem fz.onl {d:De} (h:fz w b g t) (l:dA w eb d):¬only eb b/\¬only eb g:=
 ⟨λk=>Bk.apart h.1 l aZ k,λk=>Bk.apart h.2 l aZ k⟩
def tc (g eb:Nat) (dv:aJ):Nat->Prop:=λk=>k=g\/foot eb dv k
def vp (g eb:Nat):Nat->Prop:=λk=>k=g\/k=eb
theorem K4 {t:au} {q:aJ} (h:Fr (tc g eb dv) w w1) (k:Fr (foot eb q) w1 t) (p:Zu w dv q):Fr (tc g eb dv) w t:=
 h.trans' k (λi hi l=>by rcases l with l|l;exact .inr (.inl l);rcases p with p|p;exact .inr (.inr (p▸l));have:=p i l;omega)
theorem f_ (h:Fr (tc g eb dv) w w1):Fr (tc g eb dv) w (w1.setCell (g,m) x):=h.setCell (p:=⟨g,m,none⟩) (.inl (.inl rfl)) x
theorem dT.off {e:En} (l:dT w eb dv e) (h:fz w b g t):dT (w.setCell (g,m) x) eb dv e:=
 l.fr (S:=only g) ((Fr.refl (only g) w).setCell (p:=⟨g,m,none⟩) (.inl rfl) x) (λe=>(h.foot l).2 (.inl e.symm)) (λk q e=>(h.foot l).2 (.inr (by rw[q];exact congrArg some e)))
theorem dA.off {d:De} (k:dA w eb d) (h:fz w b g t):dA (w.setCell (g,m) x) eb d:=
 k.fr (S:=only g) ((Fr.refl (only g) w).setCell (p:=⟨g,m,none⟩) (.inl rfl) x) (λe=>(h.onl k).2 e.symm)
theorem Vc (n m:Nat) (t:List Nat) (d:De):er (n+1) m t d=er n (2*m+iO (t.getD m 0) d) (t.set m (Yc (t.getD m 0) (iO (t.getD m 0) d))) (qh (t.getD m 0) d):=rfl
theorem DO (n:Nat):∀(m:Nat) (t:List Nat) (d:De),iU t->(m+1)*2 ^ n<=2*t.length->DV 0 d->iU (er n m t d).2.1/\(er n m t d).2.1=t.length/\DV 0 (er n m t d).2.2/\m*2 ^ n<=(er n m t d).1/\(er n m t d).1<(m+1)*2 ^ n:=by
 induction n with
 |zero=>intro m t d h1 _ g;exact⟨h1,rfl,g,by simp[er],by simp[er]⟩
 |succ n ih=>intro m t d h1 l g;have k:=Qt h1 (Xn l);have hb:=ze (t.getD m 0) d;obtain⟨a,b,c,p,q⟩:=ih (2*m+iO (t.getD m 0) d) _ (qh (t.getD m 0) d) (Qu h1 m (X1 (b:=iO (t.getD m 0) d) k)) (by rw[og];exact Y5 O l) (DN g k.1 k.2);rw[er];refine⟨a,by rw[b,og],c,cp ?_ p,eD q ?_⟩;exact Aq;exact Aq
theorem Zkh {d:De} (h:fz w b g t) (ht:lM t) (b0:dA w eb d) (a3:DV 0 d):
  Calls prog 215 #[(b,0),(eb,0)] w λx w'=>x=.returned (((er 6 1 t d).1-64:Nat):Int)/\fz w' b g (er 6 1 t d).2.1/\dA w' eb (er 6 1 t d).2.2/\Fr (vp g eb) w w':=by
 have c0:=h.1.cell 0;simp at c0;have l:=(DO 6 1 t d ht.1 vV a3).2.2.2;go_in;go_wp2;go_loopw [5,11] (λb9 i wr=>∃(j m:Nat) (u:List Nat) (x:De),j<=6/\i=j/\b9=m/\(m+1)*2 ^ (6-j)<=128/\fz wr b g u/\lM u/\dA wr eb x/\DV 0 x/\Hid (er (6-j) m u x=er 6 1 t d)/\Fr (vp g eb) w wr) (λ_ i _=>(6-intOf i).toNat);exact⟨0,1,t,d,O,rfl,rfl,aZ,h,ht,b0,a3,J rfl,Fr.refl _ _⟩;clear c0 h ht b0 a3;obtain⟨j,m,u,x,d2,rfl,rfl,hm,hu,I,D,a1,a5,E⟩:=hrel;by_cases ab:j<6
 .obtain⟨k,b1⟩:∃k,6-j=k+1:=⟨5-j,O⟩;have a7:6-(j+1)=k:=O;rw[b1] at hm a5;have S:m<u:=Xn (by rw[I.2];exact hm);have R:=Vc k m u x;have q:=Qt I.1 S;have a9:=ze (u.getD m 0) x;have q1:=hu.1.cell 1;have a0:=hu.2.cell m;rw[Xm u m S] at a0;simp at q1;obtain⟨z,b2⟩:=ay (u.getD m 0);rw[b2] at R a9 a0 q;obtain⟨y,a4⟩:=ay (iO z x);rw[a4] at R a9;have b3:y<2:=O;have c6:(2*m+y+1)*2 ^ k<=128:=Y5 (L:=64) b3 hm;have c9:(m:Int)<64:=(by rw[I.2] at S;omega);have Q:=KM D a1 z q.1 q.2;rw[a4] at Q;have Q:=J Q;have Ha:=J (F2 z y q.1 q.2 b3);have b8:=DN a1 q.1 q.2;have b5:=hu.onl D;have c3:lM (u.set m (Yc z y)):=⟨Qu I.1 m (X1 q),by rw[og];exact I.2⟩;obtain⟨b6,a8,a6⟩:=bF R hu a7;clear R hu a4 b2 D a1 I hm S b1 a7 l;go_wp21;refine aO Q.o λw1 ⟨b7,an⟩=>?_;have M:=a8.o.fr an b5.1 b5.2;have c5:=M.1.cell 1;have c7:=M.2.cell m;have d1:=M.2.frozen m;have b4:(nc u)[m]? =z:=(a8.o.2.cell m).symm.trans a0;rw[b4] at c7;simp at c5;clear q1 a0 b4;go_wp2;go_region_with ((go_at_call 163;refine(Ha.o _).mono ?_;rintro r d4 ⟨rfl,rfl⟩))
  all_goals
   go_wp2;go_roundw;exact⟨j+1,2*m+y,u.set m (Yc z y),qh z x,O,ck,by congr 1,by rw[a6.o];exact c6,(M.put m _).drew,c3,(b7.off M).drew,b8,J (by rw[a6.o,<-b6.o];exact a5.o),((E.trans' an (λi hi e=>.inr e)).setCell (p:=⟨g,m,none⟩) (.inl (.inl rfl)) _).drew⟩;simp[intOf]<;>omega
 have a2:j=6:=O;subst a2;have B:=a5.o;rw[fv,er] at B;have c4:=hu.1.cell 0;simp at c4;have F:(er 6 1 t d).1=m:=(by rw[<-B]);rw[F] at l;have c8:64<=m:=l.1;have d3:m<128:=by have:m<=127:=(by simpa using hm);omega
 have G:=J B;exact Pt
theorem Uu (n v m:Nat) (t:List Nat) (e:En):fY (n+1) v m t e=fY n v (2*m+v/2 ^ n % 2) (t.set m (Yc (t.getD m 0) (v/2 ^ n % 2))) (nP (t.getD m 0) (v/2 ^ n % 2) e):=rfl
theorem Zki {e:En} (h:fz w b g t) (a6:lM t) (a5:dT w eb dv e) (a7:dB 0 e) (v:Nat) (c9:v<=9223372036854775807) (d5:e.out.length<=800000):
  Calls prog 118 #[(b,0),(eb,0),v] w λx w'=>x=.returned (.tuple #[])/\fz w' b g (fY 6 v 1 t e).1/\∃a4,dT w' eb a4 (fY 6 v 1 t e).2/\Fr (tc g eb dv) w w'/\Zu w dv a4:=by
 have d3:=HS;have c0:=h.1.cell 0;simp at c0;go_in;go_wp2;go_loopw [6,7] (λb9 i wr=>∃(j m:Nat) (E:aJ) (u:List Nat) (x:En),j<=6/\i=((j:Int)-1:Int)/\b9=m/\(m+1)*2 ^ j<=128/\fz wr b g u/\lM u/\dT wr eb E x/\dB 0 x/\Hid (fY j v m u x=fY 6 v 1 t e)/\Fr (tc g eb dv) w wr/\Zu w dv E/\x.out.length<=e.out.length+2*(6-j)) (λ_ i _=>(intOf i+1).toNat);exact⟨6,1,dv,t,e,O,rfl,rfl,aZ,h,a6,a5,a7,J rfl,Fr.refl _ _,.inl rfl,O⟩;clear c0 h a6 a5 a7;obtain⟨j,m,E,u,x,d4,rfl,rfl,a0,q,B,F,R,a8,S,Q,d1⟩:=hrel;by_cases ab:0<j
 .obtain⟨k,rfl⟩:∃k,j=k+1:=⟨j-1,O⟩;have G:m<u:=Xn (by rw[B.2];exact a0);have M:=Uu k v m u x;have i1:((k+1:Nat):Int)-1=(k:Int):=O;rw[i1];obtain⟨y,l⟩:=ay (v/2 ^ k % 2);have a2:y<2:=O;have d6:(v:Int)/2 ^ k % 2=(y:Int):=I0;have p:=Qt B.1 G;have c5:(2*m+y+1)*2 ^ k<=128:=Y5 (L:=64) a2 a0;have q1:=q.1.cell 1;have I:=q.2.cell m;rw[Xm u m G] at I;simp at q1;obtain⟨z,a1⟩:=ay (u.getD m 0);rw[l,a1] at M;rw[a1] at I p;have c8:(m:Int)<64:=(by rw[B.2] at G;omega);have b2:=J (KT F R z y p.1 p.2 a2 O);have Ha:=J (F2 z y p.1 p.2 a2);have c7:=F7 z y x;have b5:=XB R (b:=y) p.1 p.2;have b0:=q.foot F;have c3:lM (u.set m (Yc z y)):=⟨Qu B.1 m (X1 p),by rw[og];exact B.2⟩;have b3:=J M;have a3:=J q;clear M q l a1 F R B a0 G;go_wp21;refine aO b2.o λw1 ⟨b1,b4,an,b6⟩=>?_;have D:=a3.o.fr an b0.1 b0.2;have c4:=D.1.cell 1;have c6:=D.2.cell m;have d2:=D.2.frozen m;have a9:(nc u)[m]? =z:=(a3.o.2.cell m).symm.trans I;rw[a9] at c6;simp at c4;clear q1 I a9;have b7:=S.size;go_wp2;go_region_with ((go_at_call 163;refine(Ha.o _).mono ?_;rintro r d7 ⟨rfl,rfl⟩))
  all_goals
   go_wp2;go_roundw;exact⟨k,2*m+y,b1,u.set m (Yc z y),nP z y x,O,rfl,by congr 1,c5,(D.put m _).drew,c3,(b4.off D).drew,b5,J (by rw[<-b3.o];exact a8.o),(f_ (K4 S an Q)).drew,Q.trans b6 b7,O⟩;simp[intOf]<;>omega
 have b8:j=0:=O;subst b8;go_wp2;go_end0;have:=a8.o;rw[fY] at this;rw[<-this];exact⟨rfl,q,E,F,S,Q⟩
