import Derived.Test.YtnjkjoklnephcaaGreatDoorF43
set_option linter.all false
set_option maxRecDepth 100000
set_option maxHeartbeats 0
theorem NF{P:Prop}(h:P:=by go_quiet (fail);go_wp2;go_meet;case rel=>exact⟨by rw[l.o],u _⟩):P:=h
theorem vx{P:Prop}(h:P:=by go_quiet (fail);go_wp2;go_meet;case rel=>exact⟨by rw[d.o],u _⟩):P:=h
theorem EK{P:Prop}(h:P:=by go_wp2;refine⟨⟨i+1,a1,by go_num,E,(by first|trivial|rfl)⟩,?_⟩;simp[intOf]<;>omega):P:=h
namespace Wv
open Go.Proofs.Tryz Go.Proofs.Y
def gR (v:aT):Bool:=(aH v).all λc=>decide (c=120)
def gv (st:List (Int×Int)) (c:eS) (g:Int×Int) (k:Nat):Bool:= !decide ((jI st k).1=0)||(gR (ti (jU c.vs k) (fG c.ch k) g.1)&&(fG c.ch k).all λx=> !(decide (g.1<x.1)&&decide (x.1<g.2)))
def hT (st:List (Int×Int)) (c:eS) (g:Int×Int):Bool:=(List.range st).all (gv st c g)
def jq (st:List (Int×Int)) (c:eS):Bool:=su c.f c.t c.f c.gaps&&c.gaps.all (hT st c)&&decide (c.gaps.length<=16)
def fQ (c:eS):Nat:=(c.ch.map List.length).sum
def yF (st:List (Int×Int)) (c:eS):Bool:=
 (hQ Z3 st c.vs&&(decide (-1<=c.f)&&(decide (c.f<1099511627776)&&(decide (c.f<c.t)&&(decide (c.t<=1099511627776)&&decide (c.ch=st.length))))))&&
 ((List.range st).all (λi=>eE (jI st i) c.f c.t (jU c.vs i) (fG c.ch i))&&(decide (fQ c<=4096)&&jq st c))
theorem Zrv {w:Int} {v:ax} (h:fO Z3 (0,w) v=true):(v.length:Int)=w:=by unfold fO sD at h;unfold vld at h;grind
theorem KS (t:Int):∀(l:List dO) (b:aT),ti b l t=b\/∃x∈l,ti b l t=x.2
 |[],b=>.inl rfl
 |c::l,b=>by rw[ti];rcases KS t l (if c.1<=t then c.2 else b) with h|⟨x,d,h⟩;exact aO;grind
theorem ZrD {s:Int×Int} {f t:Int} {b:aT} {l:List dO} (h:eE s f t b l=true) (h0:s.1=0) (g:Int):((aH (ti b l g)).length:Int)=s.2:=by obtain⟨k,w⟩:=s;subst h0;rw[ZrB] at h;simp only[gm,uI] at h;rcases KS g l b with e|⟨x,d,e⟩;rw[e];exact Zrv h.1.1.2;rw[e];exact Zrv (h.2 x d)
theorem Zrw {v:aT} {n:Nat} (h:(aH v)=n):gR v=decide (v=bs (List.replicate n 120)):=by rw[lN,fq];unfold gR;rw[uI];constructor;intro g;have:aH v=List.replicate n 120:=List.eq_replicate_iff.2 ⟨h,λc d=>of_decide_eq_true (g c d)⟩;rw[<-this,Zc];intro e c d;rw[e,Zm] at d;grind
theorem Zro {st:List (Int×Int)} {c:eS} {i:Nat} (h:eE (jI st i) c.f c.t (jU c.vs i) (fG c.ch i)=true):c.gaps.all (λg=>gv st c g i)=Br c.gaps (jI st i) (jU c.vs i) (fG c.ch i):=by unfold Br gv;by_cases h0:(jI st i).1=0;rw[dd h0,Bool.not_true,Bool.false_or];congr 1;funext g;have:=ZrD h h0 g.1;rw[Bool.false_or,Zrw (show _=(jI st i).2.toNat by omega)];grind
theorem Zrz (st:List (Int×Int)) (c:eS):yF st c=jh st c:=by
 rw[lN,XM,Yi];unfold yF jq mQ;simp only[gm,fq,uI,List.mem_range];have u:c.ch=st.length->fQ c=mv c.ch st.length:=λh=>by unfold fQ mv;grind
 constructor;rintro⟨⟨a1,a2,a3,a4,a5,a6⟩,b1,b2,⟨b3,p⟩,d⟩;refine⟨⟨a2,a4,a5,a1,a6,b3,d⟩,λi hi=> ?_,O⟩;unfold yc;rw[b1 i hi,Bool.true_and,<-Zro (b1 i hi),uI];intro g j;have:=p g j;unfold hT at this;grind;rintro⟨⟨a2,a4,a5,a1,a6,b3,d⟩,b1,b2⟩;have k:∀i,i<st.length->eE (jI st i) c.f c.t (jU c.vs i) (fG c.ch i)=true:=λi hi=>by have:=b1 i hi;unfold yc at this;grind
 refine⟨⟨a1,a2,O,a4,a5,a6⟩,k,O,⟨b3,λg j=> ?_⟩,d⟩;unfold hT;rw[uI];intro i hi;have l:=List.mem_range.1 hi;have h1:=b1 i l;unfold yc at h1;rw[gm] at h1;have q:=h1.2;rw[<-Zro (k i l),uI] at q;grind
end Wv
namespace Go.Proofs.Y
open Tryz Wv Go.RowKit
variable{A1 A2 A3:bN}{g:Int×Int}{k k1 k2 k3:Nat}{st:List (Int×Int)}{v:aT}{w:aq}
theorem Zrx (h:k<v.size) (d:¬v[k]=120):gR v=false:=by unfold gR;rw[IC];refine⟨v[k],List.mem_of_getElem? (nf v k h),?_⟩;simp[d]
theorem Zrr (h:∀k (d:k<v.size),v[k]=120):gR v=true:=by unfold gR;rw[uI];intro c j;obtain⟨k,d,rfl⟩:=List.getElem_of_mem j;have g:k<v.size:=(by rw[<-Z2];exact d);have:=nf v k g;rw[fb d] at this;injection this with this;rw[this,h k g];rfl
theorem Zrn {c:eS} (d:k<st) (h:gv st c g k=false):hT st c g=false:=by unfold hT;rw[IC];exact⟨k,List.mem_range.2 d,by rw[h];decide⟩
theorem Zrs {c:eS} (h:∀k,k<st.length->gv st c g k=true):hT st c g=true:=by unfold hT;rw[uI];exact λk d=>h k (List.mem_range.1 d)
theorem Zrt {c:eS} (h:¬(jI st k).1=0):gv st c g k=true:=by unfold gv;rw[cI h];rfl
theorem Zry {c:eS} (h:(jI st k).1=0):gv st c g k=(gR (ti (jU c.vs k) (fG c.ch k) g.1)&&(fG c.ch k).all λx=> !(decide (g.1<x.1)&&decide (x.1<g.2))):=by unfold gv;rw[dd h];rfl
theorem Zrq (v : aT) (F : v.size <= 1099511627776) (w : aq) :
    Calls prog 65 #[v] w λx w'=>x=.returned (gR v)/\w=w':=by
  have D:=J (λk h d=>Zrx (v:=v) (k:=k) h d);have u:=J (Zrr (v:=v));obtain⟨N,t⟩:=ay v.size;have I:=J t;rw[t] at F;go_in;go_wp2;go_loopw [3] (λl wr=>∃k:Nat,k<=N/\l=(k:Int)/\Hid (∀j (g:j<v.size),j<k->v[j]=120)/\wr=w) (λl _=>(N-intOf l).toNat);exact⟨0,O,rfl,J (λj _ h=>absurd h (vL _)),rfl⟩;obtain⟨k,M,rfl,p,rfl⟩:=hrel;by_cases ab:k<N
  . have G:k<v.size:=O;have L:(0:Int)<=k:=O;have R:(k:Int)<v.size:=O;obtain⟨C,q⟩:=ay ((v[k]).toNat);have Q:(C:Int)<256:=(by have:=v[k].toNat_lt;omega);by_cases d:(C:Int)=120;. have y : Hid (∀ j (g : j < v.size), j < k + 1 -> v[j] = 120) := J (λj g h => by by_cases e:j=k;subst e;exact UInt8.toNat_inj.1 (by rw[q];show C=120;omega);exact p.o j g O);have B:((C:Int) !=120)=false:=(by rw[d];rfl);go_wp2;refine⟨⟨k+1,ab,ci,y,Fv⟩,?_⟩;simp[intOf]<;>omega
    have E:=J (D.o k G (λh=>d (by rw[<-q,h];rfl)));have B:((C:Int) !=120)=true:=(by rw[kx];exact d);exact vV
  have z:k=N:=O;have E:Hid (gR v=true):=J (u.o (λj g=>p.o j g O));subst z;exact vV
theorem Zrj {c:eS} (F:pN w A2 c.ch) (a3:c.ch.length<=1000000) (p:∀l∈c.ch,l.length<=4096):
  Calls prog 30 #[.agg (iC c.f c.t A1 c.vs k1 A2 c.ch k2 A3 c.gaps k3)] w (bM w ((fQ c:Nat):Int)):=by
 obtain⟨f,t,vs,ch,g⟩:=c;simp only[iC] at*;have j:=(bf w w).alloc aU (.cells (iC f t A1 vs k1 A2 ch k2 A3 g k3) 27);obtain⟨z,E,Q⟩:=bD (F.below j) j p;have B:Hid (fQ ⟨f,t,vs,ch,g⟩=mv ch ch):=J (by unfold fQ mv;rw[d' aU]);generalize fQ ⟨f,t,vs,ch,g⟩=R at*;obtain⟨nc,u⟩:=ay ch.length;have a0:=J u
 have M:Hid (∀k,k<=nc->mv ch k<=4096*k):=J (λk L=>by
  induction k with
  |zero=>simp[mv]
  |succ k ih=>have d:k<ch.length:=O;rw[UW d];have:=ih O;have:=p _ (dt d);rw[show fG ch k=ch[k] from ZO _ d];omega);rw[u] at a3 z E B⊢;clear F j p u;go_in;go_wp2;go_loopw [3,4] (λa5 y wr=>∃k:Nat,k<=nc/\y=(k:Int)/\a5=.int .i64 ((mv ch k:Nat):Int)/\wr=w.alloc (.cells (iC f t A1 vs k1 A2 nc k2 A3 g k3) 27)) (λ_ y _=>(nc-intOf y).toNat);exact⟨0,cf _,rfl,by unfold mv;rfl,rfl⟩;obtain⟨k,L,rfl,rfl,rfl⟩:=hrel;by_cases ab:k<nc;.have d:k<ch.length:=(by rw[a0.o];exact ab);obtain⟨a6,b1,G,b0,rfl,l2,c2,a2⟩:=z.o k d;have a7:(0:Int)<=k:=O;have a8:(k:Int)<nc:=O;have q:=UW d;rw[show fG ch k=ch[k] from ZO _ d] at q;have a4:=M.o k L;have a9:=Q.o _ (dt d);have D:=J q;clear q a2;generalize ch[k].length=nl at*;obtain⟨S,I⟩:=ay (mv ch k);rw[I] at D a4⊢;clear I;go_wp2;refine⟨⟨k+1,ab,ci,by rw[D.o];go_num,Fv⟩,?_⟩;simp[intOf]<;>omega
 have a1:k=nc:=O;subst a1;rw[<-B.o];go_wp2;go_returns;exact⟨rfl,E.o⟩
theorem Zrm {c:eS} (j:wJ c) (h1:k<c.vs) (d:k<c.ch) (g:Int):(ti (jU c.vs k) (fG c.ch k) g).size<=1099511627776:=by rw[show jU c.vs k=c.vs[k] from ZO _ h1,show fG c.ch k=c.ch[k] from ZO _ d];rcases KS g c.ch[k] c.vs[k] with e|⟨x,l,e⟩;rw[e];exact j.vs _ (dt h1);rw[e];exact(j.ch _ (dt d)).2 _ l
theorem Zrk {A:bN} (a8:At w A (pv st)) (n cap:Nat) (m6:n=st.length) (s3:n<=64) {c:eS} (h1:At w A1 (eN c.vs)) (b9:pN w A2 c.ch) (m1:At w A3 (pv c.gaps)) (j6:wJ c) (m7:c.vs.length=n) (m5:c.ch.length=n) (f1: -1<=c.f) (o7:c.f<=1099511627776) (o8: -1<=c.t) (o9:c.t<=1099511627776):
  Calls prog 31 #[(A,n,cap),.agg (iC c.f c.t A1 c.vs k1 A2 c.ch k2 A3 c.gaps k3)] w (bM w (jq st c)):=by
 have a4:=(bf w w).alloc aU (.cells (iC c.f c.t A1 c.vs k1 A2 c.ch k2 A3 c.gaps k3) 27);have f9:wG (w.alloc (.cells (iC c.f c.t A1 c.vs k1 A2 c.ch k2 A3 c.gaps k3) 27)) w c A1 k1 A2 k2 A3 k3:=⟨Bk.new w _ _,h1.below a4,b9.below a4,m1.below a4⟩;obtain⟨d8,a2,l1,I,h0⟩:=ii f9 a4 j6 m6 (a8.below a4);have m9:=f9.bk.lt;have q8:=j6.g;have t9:IntKind.i64.wrap (c.f+1)=c.f+1:=lO;have u0:IntKind.i64.wrap (c.t+1)=c.t+1:=lO;obtain⟨F,c7⟩:=ay c.gaps.length;obtain⟨c9,l5,l2⟩:=bD c7 m7 m5;have b3:Hid (jq st c=(su c.f c.t c.f c.gaps&&c.gaps.all (hT st c)&&decide (F<=16))):=J (by unfold jq;rw[c7]);obtain⟨R,m4⟩:=ay (jq st c);rw[m4] at b3⊢;rw[c7] at q8 h0 a2;obtain⟨X,j5⟩:=ay (w.alloc (.cells (iC c.f c.t A1 c.vs k1 A2 c.ch k2 A3 F k3) 27));rw[c7] at d8 m9⊢;rw[j5] at d8 m9 h0 a2;have D:=J j5;clear a8 h1 b9 m1 a4 f9 j6 m6 c7 j5 m4 f1 o7 o8 o9 m7 m5;go_in;go_wp2;rw[D.o];clear D;go_loopw [5] (λk0 wr=>∃(k:Nat) (q:Int),k<=F/\k0=k/\Hid (k=0->q=c.f)/\Hid (∀m,k=m+1->∃h:m<c.gaps.length,c.gaps[m].2=q)/\Hid (su c.f c.t c.f c.gaps=su c.f c.t q (c.gaps.drop k))/\Hid ((c.gaps.take k).all (hT st c)=true)/\Hid (Below X X wr)) (λk0 _=>(F-intOf k0).toNat);exact⟨0,c.f,cf _,rfl,J (λ_=>rfl),J (λm h=>O),J rfl,J rfl,J (bf _ _)⟩;obtain⟨k,q,f9,rfl,n4,c4,g8,i5,hb⟩:=hrel;have a7:=d8.o.below hb.o;have q4:=a7.bk.cell 4;simp at q4;rw[c9.o] at q4;have p8:=a7.bk.lt;by_cases ab:k<F
 .have b5:k<c.gaps:=(by rw[c9.o];exact ab);obtain⟨o0,q9,r6,u9,c0,c1⟩:=ZV a7.g k b5;subst r6;have f5:=NN (f:=c.f) (t:=c.t) (a:=q) b5;have j4:=λh=>Gh (p:=hT st c) b5 i5.o h;have hF:=λh=>HA (p:=hT st c) b5 h;have b0:=(bf wr wr);obtain⟨⟨x,y⟩,a9⟩:=ay c.gaps[k];have n7:Hid (∀m,k+1=m+1->∃h:m<c.gaps.length,c.gaps[m].2=y):=J (λm e=>by obtain rfl:m=k:=O;exact⟨b5,by rw[a9]⟩);rw[a9] at c0 c1 j4 hF f5;simp only at c0 c1 f5;have j8:=g8.o.trans f5;have t2:(0:Int)<=k:=O;have t3:(k:Int)<F:=O;have b0:=(bf wr wr).alloc aU (.cells #[x,y] 77);obtain⟨i4,a0,c8⟩:=bD (hb.o.trans (b0.mono hb.o.size)) (Bk.new wr 77 #[x,y]) (a7.below b0)
  have j7:∃m:Nat,Hid (k=0/\q=c.f\/k=m+1/\(wr.alloc (.cells #[x,y] 77)).cell? ⟨o0,q9+m*2+1,none⟩=some (.int .i64 q)):=by
   cases k with
   |zero=>exact⟨0,J (.inl ⟨rfl,n4.o rfl⟩)⟩
   |succ m=>obtain⟨j7,e⟩:=c4.o m rfl;obtain⟨s4,u4,i8,_,_,M⟩:=ZV (a7.below b0).g m j7;injection i8 with i8;injection i8 with f7 f8;subst f7 f8;rw[e] at M;exact⟨m,J (.inr ⟨rfl,M⟩)⟩
  obtain⟨m,l3⟩:=j7;obtain⟨G,j0⟩:∃G,(decide (c.f+1<=x)&&decide (x<y)&&decide (y<=c.t+1)&&decide (q<x))= !G:=⟨!_,(Bool.not_not _).symm⟩;rw[j0] at j8;obtain⟨i2,d7,r8,n3⟩:=dc j8 j0 (j4) (hF);clear j4 hF a9 f5 j8 j0 a7 n4 c4 g8 i5 b0;go_upto_region 5 with fail;clear q4 c0 c1;generalize wr.alloc (.cells #[x,y] 77)=W1 at*;generalize wr.heap.size=gb at*;go_cut [58] (λs wx=>s=.bool G/\Hid (Below W1 W1 wx))
  case first=>
   have r1:=c8.o.bk.cell 0;have r4:=c8.o.bk.cell 1;have n2:=c8.o.bk.cell 4;simp at r1 r4 n2;rw[c9.o] at n2;have b6:=a0.o.cell 0;have b7:=a0.o.cell 1;simp at b6 b7;have s1:=c8.o.bk.lt;have lg:=a0.o.lt;have u:=λn=>J (Xc W1 n)
   have h4:=λ(h:¬(c.f+1<=x/\x<y/\y<=c.t+1/\q<x))=>(show Hid (G=true) from J (by
    cases G with
    |true=>rfl
    |false=>have e:=d7.o;simp only[Bool.not_false,gm,fq] at e;exact absurd ⟨e.1.1.1,e.1.1.2,e.1.2,e.2⟩ h));by_cases f7:x<c.f+1;have d:=h4 O;have M:decide (x<c.f+1)=true:=dd f7;exact vx;have M:decide (x<c.f+1)=false:=cI f7;by_cases f8:y<=x;have d:=h4 O;have o2:decide (y<=x)=true:=dd f8;exact vx;have o2:decide (y<=x)=false:=cI f8;by_cases l7:c.t+1<y;have d:=h4 O;have o3:decide (c.t+1<y)=true:=dd l7;exact vx;have o3:decide (c.t+1<y)=false:=cI l7;rcases l3.o with ⟨i3,p5⟩|⟨i3,u8⟩;have l:Hid (G=false):=J (by rw[<-Bool.not_not G,<-d7.o,dd (show c.f+1<=x by omega),dd (show x<y by omega),dd (show y<=c.t+1 by omega),dd (show q<x by omega)];rfl);have o4:decide ((0:Int)<k)=false:=cI O;have o6:decide (0<k)=false:=cI O;clear i3 p5;exact NF;have o4:decide ((0:Int)<k)=true:=dd O;have o6:decide (0<k)=true:=dd O;have t4:(0:Int)<=m:=O;have t6:(m:Int)<F:=O;have u1:IntKind.i64.wrap ((k:Int)-1)=(m:Int):=pn;have b2:Hid (G= !decide (q<x)):=J (by rw[<-Bool.not_not G,<-d7.o,dd (show c.f+1<=x by omega),dd (show x<y by omega),dd (show y<=c.t+1 by omega)];rfl);clear i3;by_cases l8:x<=q;have o5:decide (x<=q)=true:=dd l8;have d:Hid (G=true):=J (by rw[b2.o,cI (show ¬q<x by omega)];rfl);exact vx;have o5:decide (x<=q)=false:=cI l8;have l:Hid (G=false):=J (by rw[b2.o,dd (show q<x by omega)];rfl);exact NF
  obtain⟨rfl,i1⟩:=hcut;have a6:=J (i4.o.trans (i1.o.mono i4.o.size));have b4:=J (a0.o.below i1.o a0.o.lt);clear l3 d7 a0 c8 i1 i4;generalize wc=w5 at*;cases G with
  |true=>have E:Hid (R=false):=J (by rw[b3.o,i2.o];rfl);exact NE
  |false=>
   have o1:Hid (su c.f c.t c.f c.gaps=su c.f c.t y (c.gaps.drop (k+1))):=J (by rw[i2.o];rfl);clear i2;go_wp2;go_loopw [7] (λk4 p6=>∃j:Nat,j<=n/\k4=j/\Hid (∀i,i<j->gv st c (x,y) i=true)/\Hid (Below w5 w5 p6)) (λk4 _=>(n-intOf k4).toNat);exact⟨0,cf _,rfl,J (λi h=>absurd h (vL _)),J (bf _ _)⟩;obtain⟨j,t8,rfl,g7,a5⟩:=hrel;have e8:=J (a6.o.trans (a5.o.mono a6.o.size));by_cases b8:j<n
   .have f6:j<st:=(by rw[<-I.o];exact b8);have k6:j<c.vs:=(by rw[l5.o];exact b8);have g2:j<c.ch:=(by rw[l2.o];exact b8);obtain⟨s9,u6,rfl,q0,k9,l0⟩:=ZV (h0.o.below e8.o) j f6;obtain⟨⟨a,b⟩,aF⟩:=ay st[j];rw[aF] at k9 l0;simp only at k9 l0;have g9:jI st j=(a,b):=(ZO _ f6).trans aF;have t7:(0:Int)<=j:=O;have s2:(j:Int)<n:=O;by_cases a8:a=0
    .subst a8;have D:=J (Zry (c:=c) (g:=(x,y)) (k:=j) (by rw[g9]));have g5:=Zrm l1.o k6 g2 x;have S:=d8.o.below e8.o;have j9:=S.bk.cell 2;have g4:=S.bk.cell 3;simp at j9 g4;rw[l5.o] at j9;rw[l2.o] at g4;have e9:=b4.o.below a5.o b4.o.lt;have b6:=e9.cell 0;have b7:=e9.cell 1;simp at b6 b7;have c5:=S.bk.lt;have c6:=e9.lt;obtain⟨t1,u7,rfl,q6,s0⟩:=QB S.v j k6;obtain⟨i6,n1,n6,m8,rfl,n0,g6,e7⟩:=S.h j g2;have k7:=(l1.o.ch _ (dt g2)).1;rw[show jU c.vs j=c.vs[j] from ZO _ k6,show fG c.ch j=c.ch[j] from ZO _ g2] at D g5;generalize c.vs[j]=V at*;obtain⟨L,m2⟩:=ay c.ch[j];rw[m2] at D g5 g6 e7 k7;obtain⟨Q,g3⟩:=ay L.length;rw[g3] at g6 k7;obtain⟨h7,e6,i0,b1,l6⟩:=ii (λq=>ZrA (e7.below (Xc wr q)) Q m8 g3.symm k7 x (b:=V)) (λq=>Zrq (ti V L x) g5 (wr.drewN q)) (λq=>a5.o.trans ((Xc wr q).mono a5.o.size)) e7 g3;obtain⟨AX,c3⟩:=ay (gR (ti V L x));rw[c3] at e6 D;generalize ti V L x=SV at*;clear m2 g3 aF g9 S e9 e7 g5 c3;cases AX;.go_wp2;go_quiet ((first|(go_at_call 66;with_reducible exact zv (h7.o _))|(go_at_call 65;with_reducible exact zv (e6.o _))));have E:Hid (R=false):=J (by rw[b3.o,n3.o (Zrn f6 (by rw[D.o];rfl))];simp);have h6:=J (a2.o.trans ((a6.o.trans ((i0.o nq).mono a6.o.size)).mono a2.o.size));go_wp2;go_returns;exact⟨Z4 E.o.symm,h6.o⟩
     go_wp2;go_quiet ((first|(go_at_call 66;with_reducible exact zv (h7.o _))|(go_at_call 65;with_reducible exact zv (e6.o _))));have l9:=J (i0.o nq);have r9:(wr.drewN nq).cell? (i6,n1+j)=(n6,Q,m8):=g6;have r5:(wr.drewN nq).cell? (w,3)=some (.slice (some (i6,n1)) n k2):=g4;have p2:(wr.drewN nq).cell? (gb,0)=x:=b6;have p3:(wr.drewN nq).cell? (gb,1)=y:=b7;have p9:i6<(wr.drewN nq):=n0;have p7:w<(wr.drewN nq).heap.size:=c5;have q7:gb<(wr.drewN nq):=c6;have h5:=J (b1.o.below (Xc wr nq));clear h7 e6 k9 l0 s0 b6 b7 j9 g4 g6 q0 q6 n0 c5 c6 i0 b1 a5 e8;go_wp2;generalize wr.drewN nq=w8 at*;go_loopw [8] (λk5 k8=>∃i:Nat,i<=Q/\k5=(i:Int)/\Hid ((L.take i).all (λz=> !(decide (x<z.1)&&decide (z.1<y)))=true)/\k8=w8) (λk5 _=>(Q-intOf k5).toNat);exact yw;obtain⟨i,hi,rfl,i9,rfl⟩:=hrel;by_cases a1:i<Q
     .have h9:i<L.length:=(by rw[l6.o];exact a1);obtain⟨s6,u5,rfl,u3,d0,M⟩:=xx h5.o i h9;have e4:=λh=>Gh (p:=λz:dO=> !(decide (x<z.1)&&decide (z.1<y))) h9 i9.o h;have d9:=λh=>HA (p:=λz:dO=> !(decide (x<z.1)&&decide (z.1<y))) h9 h;obtain⟨⟨T,B⟩,a9⟩:=ay L[i];rw[a9] at d0 M e4 d9;simp only at d0 M e4 d9;have t5:(0:Int)<=i:=O;have v0:(i:Int)<Q:=O;have a3:=J e4;have n8:=J d9;clear a9 i9 e4 d9 M;by_cases h1:x<T
      .by_cases b9:T<y;.have E:Hid (R=false):=J (by rw[b3.o,n3.o (Zrn f6 (by rw[D.o,n8.o (by rw[dd h1,dd b9];rfl)];rfl))];simp);go_wp2;go_returns;exact⟨Z4 E.o.symm,a2.o.trans ((a6.o.trans (l9.o.mono a6.o.size)).mono a2.o.size)⟩
       have E:=J (a3.o (by rw[cI b9,Bool.and_false];rfl));exact EK
      have E:=J (a3.o (by rw[cI h1];rfl));exact EK
     have n5:i=Q:=O;have h8:=i9.o;rw[d' (by rw[l6.o];omega)] at h8;have n9:Hid (∀i,i<j+1->gv st c (x,y) i=true):=J (λi hi=>by by_cases e:i=j;rw[e,D.o,h8];rfl;exact g7.o i O);clear h8;subst n5;go_wp2;refine⟨⟨j+1,b8,ci,n9,l9⟩,?_⟩;simp[intOf]<;>omega
    have D:=J (Zrt (c:=c) (g:=(x,y)) (k:=j) (by rw[g9];exact a8));have u2:(a !=0)=true:=(by rw[kx];exact a8);have a3:Hid (∀i,i<j+1->gv st c (x,y) i=true):=J (λi hi=>by by_cases e:i=j;rw[e];exact D.o;exact g7.o i O);go_wp2;refine⟨⟨j+1,b8,ci,a3,a5⟩,?_⟩;simp[intOf]<;>omega
   have r7:j=n:=O;have a3:=J (r8.o (Zrs (λi hi=>g7.o i kG)));subst r7;go_wp2;refine⟨⟨k+1,y,ab,ci,J (λh=>O),n7,o1,a3,e8⟩,?_⟩;simp[intOf]<;>omega
 have i7:k=F:=O;have E:Hid (R=decide ((F:Int)<=16)):=J (by have h:=i5.o;rw[i7,d' (by rw[c9.o];exact aU)] at h;rw[b3.o,g8.o,i7,List.drop_of_length_le (by rw[c9.o];exact aU),h];show(true&&true&&decide (F<=16))=_;rw[Bool.and_self,Bool.true_and,decide_eq_decide];omega);subst i7;exact Ga
