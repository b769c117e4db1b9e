import Derived.Test.YtikecoijpkmnbaaGreatDoorJ41
import Derived.Lib.SliceRun
set_option linter.all false
set_option maxRecDepth 100000
set_option maxHeartbeats 0
open Go.Proofs.Tryz (prog underlying50)
section
variable{P Q:Prop}
theorem Ee(h:P:=by rw[h];simp):P:=h
theorem ER(h:P:=by rw[g];omega):P:=h
theorem KW(h:P:=by rw[l];decide):P:=h
theorem EN(h:P:=by rw[z.o,Q];rfl):P:=h
theorem O3(h:P:=by unfold WP;rw[Vah,rm]):P:=h
theorem W7i(h:P:=by rintro⟨i,hi,h0⟩;rw[Mi] at h0;exact h0 rfl):P:=h
theorem EZ(h:P:=by go_in;go_wp21;refine aP (p.o _) λw1 E=>?_;obtain⟨_,_,aa,_⟩:=a2.o _ E;go_wp2;go_returns;exact⟨_,rfl,λ_=>rfl,λh=>(by cases h),aa⟩):P:=h
theorem OC(h:P:=by subst z;clear hE Q g Rd F;go_in;go_wp21;refine aP (p.o _) λw1 E=>?_;have y:=J E;clear E;go_wp21;refine(l.o _).mono ?_;rintro x w2 ⟨v,rfl,q,aa⟩;obtain⟨u,z1,M,_⟩:=a2.o _ (y.o.trans (aa.mono y.o.size));clear aa q;go_wp2;go_returns;exact⟨_,rfl,λ_=>rfl,λh=>(by cases h),M⟩):P:=h
end
namespace Wv
variable{f k t:Int}{s:Int×Int}
theorem ZsO (h:(dS s&&sx f t)=false):jg s f t k=1:=by unfold jg;rw[Vag];cases h1:dS s;exact .inl rfl;rw[h1,Bool.true_and] at h;right;unfold nM;rw[Vag (.inl h)];omega
theorem Ztd (h:k<1):jg s f t k=1:=by unfold jg;rw[Vag];right;unfold nM;rw[Vag (.inr h)];omega
theorem Zte (h:nM f t k<0):jg s f t k=1:=by unfold jg;rw[Vag (.inr h)]
theorem ZsN (h:dS s=true) (g:0<=nM f t k) (l:s.1=3):jg s f t k=7:=by unfold jg;rw[Vae (by rw[h];simp;exact g),Vag l]
theorem ZsP (h:dS s=true) (g:0<=nM f t k) (l:s.1≠3):jg s f t k=0:=by unfold jg;rw[Vae (by rw[h];simp;exact g),Vae l]
end Wv
namespace Go.Proofs.Y
open Wv Go.RowKit
def NG (w:aq) (e:Nat) (m:List Int) (x:Ending) (w':aq):Prop:=∃v,x=.returned (.tuple #[v,e])/\(e≠0->v=.slice none 0 0)/\(e=0->M3 w' v m)/\Below w w w'
theorem ZrN (a c f t k:Int) (Q:mE k) (w:aq):
  Calls prog 51 #[.agg #[a,c],f,t,k] w λx w'=>NG w (jg (a,c) f t k) (ms f t k) x w':=by
 have p:=J (λW=>V2 a c f t W);have a2:=J (λW h=>Dc (w:=w) (W:=W) (a:=a) (c:=c) h);obtain⟨B,hE⟩:=ay (jg (a,c) f t k);rw[hE];cases D:(dS (a,c)&&sx f t);have z:B=1:=(by rw[<-hE];exact ZsO D);subst z;rw[D] at p;clear hE D Q;exact EZ;rw[D] at p;rw[gm] at D;obtain⟨g,Rd⟩:=D;by_cases R:k<1;have z:B=1:=(by rw[<-hE];exact Ztd R);subst z;clear hE Q g Rd;exact EZ;have l:=J (λW=>Zsv f t k Rd O Q W);by_cases F:0<=nM f t k;.rw[dd F] at l;by_cases G:a=3;subst G;have z:B=7:=(by rw[<-hE];exact ZsN g F rfl);exact OC;have z:B=0:=(by rw[<-hE];exact ZsP g F G);subst z;have S:(a==3)=false:=(by rw[lL];exact G);clear hE Q g Rd F G;go_in;go_wp21;refine aP (p.o _) λw1 E=>?_;have y:=J E;clear E;go_wp21;refine(l.o _).mono ?_;rintro x w2 ⟨v,rfl,q,aa⟩;have I:=J q;obtain⟨u,z1,M,_⟩:=a2.o _ (y.o.trans (aa.mono y.o.size));clear aa q;go_wp2;go_returns;exact⟨_,rfl,λh=>absurd rfl h,λ_=>I.o,M⟩
 rw[Vai F] at l;have z:B=1:=(by rw[<-hE];exact Zte O);exact OC
end Go.Proofs.Y
namespace Wv
open Go.Proofs.Y
variable{f k t:Int}{s:Int×Int}
theorem Ztc {l:List dO} {e:Nat} (h:jg s f t k=e) (g:e≠0):kE s f t k l=([],e):=by unfold kE;rw[h,Vag g]
theorem ZsX {l:List dO} (h:jg s f t k=0) (g:li s f t k l=false):kE s f t k l=([],1):=by unfold kE;rw[Vae Ee,Vag g]
theorem Zto {l:List dO} (h:jg s f t k=0) (g:li s f t k l=true):kE s f t k l=if l=[] then([],0) else rb [(oN s,(mZ s (l.map (·.2))).1)]:=by unfold kE;rw[Vae Ee,Vae (by rw[g];simp)]
theorem Nj {l:List dO} :li s f t k l=true↔l.length=(ms f t k)/\∀i (h:i<l.length) (g:i<(ms f t k).length),l[i].1=(ms f t k)[i]/\fO Z3 s (aH l[i].2)=true:=by unfold li;rw[gm,Vax,uI];constructor;rintro⟨h1,g⟩;have y:l=(ms f t k).length:=(by rw[<-h1,Vah]);refine⟨y,λi h p=>⟨?_,g _ (dt h)⟩⟩;have:(l.map (·.1))[i]'(by rw[Vah];exact h)=(ms f t k)[i]:=(by simp only[h1]);rw[<-this,uF];rintro⟨h1,g⟩;refine⟨Vco (by rw[Vah];exact h1) (λi p q=> ?_),λc u=> ?_⟩;rw[uF];exact(g i (by rw[Vah] at p;exact p) q).1;obtain⟨i,hi,rfl⟩:=List.getElem_of_mem u;exact(g i hi (by rw[<-h1];exact hi)).2
end Wv
namespace Go.Proofs.Y
open Wv Go.RowKit
variable{a c f k t:Int}{w:aq}
theorem Zsx (u:mE k) {e:Nat} (h:jg (a,c) f t k=e) (q:e≠0) (w:aq):
  cK 51 #[.agg #[a,c],f,t,k] w (bM w (.tuple #[.slice none 0 0,e])):=
 (ZrN a c f t k u w).mono λx w' g=>by unfold NG at g;rw[h] at g;obtain⟨v,h1,l,_,p⟩:=g;exact⟨by rw[h1,l q],p⟩
theorem ZsW (y:mE k) (h:jg (a,c) f t k=0) (w:aq):
  cK 51 #[.agg #[a,c],f,t,k] w λx w'=>∃A cap,x=.returned (.tuple #[.slice A (ms f t k) cap,(0:Int)])/\At w' A (bO (ms f t k))/\Below w w w':=
 (ZrN a c f t k y w).mono λx w' g=>by unfold NG at g;rw[h] at g;obtain⟨v,h1,_,l,p⟩:=g;obtain⟨A,cap,q,u⟩:=l rfl;exact⟨A,cap,by rw[h1,q];rfl,u,p⟩
theorem Zsn {W1 W:aq} {x:Int} {v:aT} (g:W1.heap=(w.alloc (.cells #[x,v] 68)).heap) (hb:Below W1 W1 W):W.cell? (w,0)=x/\W.cell? (w,1)=v:=by
 have h0:Bk W1 w 68 #[x,v]:=by unfold Bk;rw[g];exact Bk.new w 68 #[x,v]
 have h:=h0.below hb h0.lt;exact⟨h.cell 0,h.cell 1⟩
theorem Zsw {A:Wto} {l:List (Int×aT)} (b8:At w A (cv l)) (a c f t k:Int) (b9:mE k) (c9:rj a c w) (b1:∀x∈l,x.2.size<=1099511627776) (n cap:Nat) (a9:n=l) (d7:n<=9223372036854775807):
  Calls prog 26 #[.agg #[a,c],f,t,k,(A,n,cap)] w λx w'=>fZ w (kE (a,c) f t k l) x w':=by
 have S:=J (λW h=>Dc (w:=w) (W:=W) (a:=a) (c:=c) h);have Q:bs ([]:ax)=⟨#[]⟩:=rfl;obtain⟨R,a6⟩:=ay (kE (a,c) f t k l);rw[a6];unfold fZ;obtain⟨E,u⟩:=ay (jg (a,c) f t k);by_cases c6:E=0
 .subst c6;have F:=J (λW=>ZsW b9 u W);have i1:=Nh f t k;by_cases b5:n=(ms f t k)
  .obtain⟨Ha,a0,i5,j0,d4,g5⟩:=fA b8 a9 (λv h W e7=>c9 v h W e7) b1 (λ(W:aq) (hb:Below w w W) hs h5=>Zn9 (b8.below hb) n cap a9 O a c hs h5 b1) u;have b0:=J a6;have c3:n<=4096:=O;obtain⟨g7,j7,g8⟩:=Ex u;have ff:=J g7;have h8:=J g8;rw[<-b5] at F;have a1:=J b5;clear b8 a9 c9 b1 u a6 i1 b5 d7 g7 j7 g8 b9;go_in;go_wp21;refine(F.o _).mono ?_;rintro x w1 ⟨i4,i7,rfl,d1,I⟩;have h1:=J I;have i6:=J d1;clear I d1 F;go_wp2;go_loopw [35] (λd6 wr=>∃j:Nat,j<=n/\d6=j/\Hid (∀i (h:i<l.length) (c8:i<(ms f t k).length),i<j->l[i].1=(ms f t k)[i]/\fO Z3 (a,c) (aH l[i].2)=true)/\Hid (Below w1.heap.size w1 wr)) (λd6 _=>(n-intOf d6).toNat);exact⟨0,cf _,rfl,J (λi _ _ h=>absurd h (vL _)),J (bf _ _)⟩;obtain⟨j,k6,rfl,a8,hb⟩:=hrel;have e3:=J (h1.o.trans (hb.o.mono h1.o.size));obtain⟨i2,i3,a4,k5⟩:=S.o _ e3.o;by_cases ab:j<n
   .have b4:j<l:=iF;have GS:j<(ms f t k):=(by rw[<-a1.o];exact ab);obtain⟨k4,k7,rfl,k8,c0,c1⟩:=xx (Ha.o.below a4) j b4;obtain⟨d9,f5,rfl,e8,m0⟩:=O7 (i6.o.below hb.o) j GS;have q:=λ(h:¬(l[j].1=(ms f t k)[j]/\fO Z3 (a,c) (aH l[j].2)=true))=>(show R=([],1) by rw[<-b0.o];refine ZsX g5.o ?_;cases f3:li (a,c) f t k l;rfl;exact absurd ((Nj.1 f3).2 j b4 GS) h);have G:=λ(h:l[j].1=(ms f t k)[j]/\fO Z3 (a,c) (aH l[j].2)=true) i (hi:i<l.length) (c8:i<(ms f t k).length) (h5:i<j+1)=>(show l[i].1=(ms f t k)[i]/\fO Z3 (a,c) (aH l[i].2)=true by by_cases e:i=j;subst e;exact h;exact a8.o i hi c8 O);have b6:=j0.o l[j] (dt b4);obtain⟨⟨X,V⟩,hs⟩:=ay l[j];obtain⟨M,a5⟩:=ay ((ms f t k)[j]);rw[hs] at c0 c1 q G b6;rw[a5] at m0 q G;simp only at c0 c1 q G b6;have e1:=hb.o.alloc hb.o.size (.cells #[X,V] 68);have h7:=J e1;have a7:=J (e3.o.alloc e3.o.size (.cells #[X,V] 68));have h6:(0:Int)<=j:=O;have k3:(j:Int)<n:=O;by_cases y:X=M
    .subst y;have i8:(X !=X)=false:=yx _;obtain⟨B,e4⟩:=ay (fO Z3 (a,c) (aH V));rw[e4] at q G;have d3:=J (λW e7=>i5.o V b6 W e7);rw[e4] at d3;have g6:(wr.alloc (.cells #[X,V] 68)).drew=wr.heap.size+1:=(by simp);have f9:∀Y,Below (wr.alloc (.cells #[X,V] 68)).drew (wr.alloc (.cells #[X,V] 68)).drew Y->Y.cell? (wr,0)=some (.int .i64 X)/\Y.cell? (wr,1)=some (.string V)/\Y.cell? (w,0)=some (.int .i64 a)/\Y.cell? (w,1)=some (.int .i64 c)/\Y.cell? (d9,f5+j)=some (.int .i64 X):=λY h=>by have g:=S.o Y (a7.o.drew.trans (h.mono a7.o.drew.size));have h4:=Zsn (w:=wr) (W1:=(wr.alloc (.cells #[X,V] 68)).drew) (x:=X) (v:=V) rfl h;have j2:=(((bf wr wr).alloc aU (.cells #[X,V] 68)).drew).trans (h.mono (by rw[g6];omega));exact⟨h4.1,h4.2,g.1,g.2.1,SY j2 e8 m0⟩
     have h9:=J f9;have h0:=f9 _ (bf _ _);have g9:=J (d3.o _ (S.o _ a7.o.drew).2.2.1);clear f9 b6 hs a5 e1 hb a8 b4 GS e4 g6 d3 a4;cases B
     .have z:Hid (R=([],1)):=J (q (λh=>by cases h.2));clear q G;go_wp2
      go_region_held3 (λY=>Y.cell? (wr,0)=some (.int .i64 X)/\Y.cell? (wr,1)=some (.string V)/\Y.cell? (w,0)=some (.int .i64 a)/\Y.cell? (w,1)=some (.int .i64 c)/\Y.cell? (d9,f5+j)=some (.int .i64 X)) (first|with_reducible assumption) (first
       |(go_at_call 52;with_reducible refine(g9.o).mono ?_;rintro r j9 ⟨rfl,a3⟩;have e2:=h9.o _ a3;have b2:=J (a7.o.drew.trans (a3.mono a7.o.drew.size));clear a3));have c7:=(S.o _ b2.o).2.2.1;clear h0 e2;go_wp2;go_returns;exact⟨EN,c7⟩
     have j1:=J (G ⟨rfl,rfl⟩);clear q G;go_wp2
     go_region_held3 (λY=>Y.cell? (wr,0)=some (.int .i64 X)/\Y.cell? (wr,1)=some (.string V)/\Y.cell? (w,0)=some (.int .i64 a)/\Y.cell? (w,1)=some (.int .i64 c)/\Y.cell? (d9,f5+j)=some (.int .i64 X)) (first|with_reducible assumption) (first
      |(go_at_call 52;with_reducible refine(g9.o).mono ?_;rintro r j9 ⟨rfl,a3⟩;have e2:=h9.o _ a3;have b2:=J (h7.o.drew.trans (a3.mono h7.o.drew.size));clear a3));clear h0 e2;go_wp2;refine⟨⟨j+1,ab,ci,j1,b2⟩,?_⟩;simp[intOf]<;>omega
    have z:Hid (R=([],1)):=J (q (λh=>y h.1));have i8:(X !=M)=true:=(by rw[kx];exact y);have c7:=S.o _ a7.o;have b3:=J c7.2.2.1;clear q G b6 hs a5 e1 hb a8 b4 GS y c7 a4;go_wp2;go_quiet (fail);go_wp2;go_returns;exact⟨EN,⟨b3.o.1,b3.o.2,b3.o.3,b3.o.4,b3.o.5⟩⟩
   have j3:j=n:=O;subst j3;have c5:li (a,c) f t k l=true:=Nj.2 ⟨a0.o.symm.trans a1.o,λi h c8=>a8.o i h c8 (by rw[a0.o];exact h)⟩;have a2:=Zto g5.o c5;rw[b0.o] at a2;by_cases h0:l=[];.have z:Hid (R=([],0)):=J (by rw[a2,Vag h0]);have h6:j=0:=(by rw[a0.o,h0];rfl);subst h6;clear a2 c5 h0 a8;go_wp2;go_returns;exact⟨EN,a4⟩
   rw[Vae h0] at a2;have k2:((j:Int)==0)=false:=by rw[lL];intro e;exact h0 (ia W69)
   have f6:∀v∈l.map (·.2),fO Z3 (a,c) (aH v)=true:=λv j5=>by obtain⟨x,j6,rfl⟩:=Vbm.1 j5;obtain⟨i,hi,rfl⟩:=List.getElem_of_mem j6;exact((Nj.1 c5).2 i hi (by rw[<-a1.o,a0.o];exact hi)).2
   have f4:(l.map (·.2)).length<=4096:=(by rw[Vah,<-a0.o];exact c3);have f7:=Zkh ff.o f6 f4;have IS:=(Lm ff.o h8.o f6 f4).1;have c4:=J (d4.o wr a4 ff.o h8.o);rw[IS] at c4;obtain⟨D,e5⟩:=ay ((mZ (a,c) (l.map (·.2))).1);obtain⟨K,e6⟩:=ay (oN (a,c));have g0:K<16:=(by rw[<-e6];exact Zp3 _);rw[e5,e6] at c4 a2;rw[e5] at f7;have g4:=J (λ(W:aq) A2 (h:At W A2 (mP [(K,D)])) bd=>RX h (λp f2=>by rw[jv.1 f2];exact g0) (λp f2=>by rw[jv.1 f2];exact f7) 1 bd rfl aY);rw[<-a2] at g4;have g1:xM (K:Int) D 0=.tuple #[.agg #[K,bs D],(0:Int)]:=rfl;rw[g1] at c4;have i0:mP [(K,D)]=[.int .i64 (K:Int),.string (bs D)]:=rfl;have k0:=J i0;generalize bs D=S2 at*;generalize (K:Int)=KI at*;clear h0 a2 c5 f6 f4 f7 IS e5 e6 g0 g1 i0 a8;go_wp21;refine aP c4.o λf8 an=>?_;have d5:=a4.trans (an.mono a4.size);have d2:=d5.alloc d5.size (.cells #[KI,S2] 78);have b7:=d2.alloc d2.size (.cells #[KI,S2] 78);have j8:=J (g4.o ((f8.alloc (.cells #[KI,S2] 78)).alloc (.cells #[KI,S2] 78)) (some ⟨f8.heap.size+1,0,none⟩) (by rw[k0.o];have:=(Bk.new (f8.alloc (.cells #[KI,S2] 78)) 78 #[KI,S2]).at_;rw[Dv] at this;exact this) 1);have b2:=J b7;clear an d5 d2 b7;go_wp21;refine ij j8.o b2 λk9 i9=>?_;go_wp2;go_returns;exact⟨rfl,i9.o⟩
  have z:Hid (R=([],1)):=J (by rw[<-a6];refine ZsX u ?_;cases f3:li (a,c) f t k l;rfl;exact absurd ((Nj.1 f3).1) (by rw[<-a9];exact b5));have j4:((n:Int) !=((ms f t k).length:Int))=true:=eV;clear b8 c9 b1 a9 d7 u a6 i1 b5 b9;generalize (ms f t k)=m at*;go_in;go_wp21;refine(F.o _).mono ?_;rintro x w1 ⟨i4,i7,rfl,d1,I⟩;obtain⟨i2,i3,aa,_⟩:=S.o _ I;have d8:=J aa;clear I aa d1 F;go_wp2;go_returns;exact⟨EN,d8.o⟩
 have F:=J (λW=>Zsx b9 u c6 W);have z:Hid (R=([],E)):=J (by rw[<-a6];exact Ztc u c6);have k1:((E:Int) !=0)=true:=eV;clear b8 c9 b1 a9 d7 u a6 c6 b9;go_in;go_wp21;refine aP (F.o _) λw1 I=>?_;obtain⟨i2,i3,aa,_⟩:=S.o _ I;have d8:=J aa;clear I aa F;go_wp2;go_returns;exact⟨EN,d8.o⟩
end Go.Proofs.Y
namespace Wv
open Go.Proofs.Y
variable{d:ax}{f k t:Int}{s:Int×Int}
theorem Zt8 {e:Nat} (h:jg s f t k=e) (g:e≠0):Ih s f t k d=([],e):=by unfold Ih;rw[h,Vag g]
theorem ZsM (h:jg s f t k=0) (g:ms f t k=[]):Ih s f t k d=if d=[] then([],0) else([],12):=by unfold Ih;rw[Vae Ee,Vag g]
theorem Zt9 (h:jg s f t k=0) (l:ms f t k≠[]) (g:4096<d.length):Ih s f t k d=([],12):=by unfold Ih;rw[Vae Ee,Vae l,Vag g]
theorem Ztn (h:jg s f t k=0) (l:ms f t k≠[]) (g:¬4096<d.length) (p:jJ d=none):Ih s f t k d=([],12):=by unfold Ih;rw[Vae Ee,Vae l,Vae g,p]
theorem Zta (h:jg s f t k=0) (u:ms f t k≠[]) (p:¬4096<d.length) {fr:List (Nat×ax)} (z:jJ d=some fr) (g:fr.length≠1):Ih s f t k d=([],12):=by
 have l:=(Ex h).2.2
 have y:∀n,Yw s n fr=none:=λn=>by
  unfold Yw;rw[Vae l];match fr,g with
  |[],_=>rfl
  |[q],g=>exact absurd rfl g
  |_::_::_,_=>rfl
 unfold Ih;rw[Vae Ee,Vae u,Vae p,z];simp only[y]
theorem Ztb (h:jg s f t k=0) (p:ms f t k≠[]) (l:¬4096<d.length) {q:Nat} {C:ax} (u:jJ d=some [(q,C)]):Ih s f t k d=match vr s q C (ms f t k).length with
  |none=>([],12)
  |some vs=>if vs.all (λv=>fO Z3 s (aH v))=true then((ms f t k).zip vs,0) else([],12):=by have g:=(Ex h).2.2;unfold Ih;rw[Vae Ee,Vae p,Vae l,u];simp only[ZoV g];cases vr s q C (ms f t k).length<;>rfl
theorem ZsS {ts:List Int} {vs:a'} (h:ts=vs.length) {i:Nat} (hi:i<ts):(ts.zip vs).take (i+1)=(ts.zip vs).take i++[(ts[i],vs[i]'O)]:=by have g:i<(ts.zip vs):=(by rw[List.length_zip];omega);rw[dK g];congr 2;simp
end Wv
namespace Go.Proofs.Y
open Wv Go.RowKit
theorem ZsV {w:aq} {base e size n m cap:Nat} {A:Wto} {xs:List aI} (h:w.ownsRow base e size (.slice A m cap) n xs):∀b o,A=some ⟨b,o,none⟩->base<=b:=by intro b o k;rcases h.2 with ⟨h1,_⟩|⟨g,p,l,h1,hb,_⟩;injection h1 with h1;rw[h1] at k;cases k;injection h1 with h1;rw[h1] at k;injection k with k;injection k with k;omega
end Go.Proofs.Y
namespace Wv
open Go.Proofs.Y
theorem Zu5 {s:Int×Int} {f t k:Int} {d:ax} {l:List dO} (h:Ih s f t k d=(l,0)):jg s f t k=0/\((ms f t k=[]/\d=[]/\l=[])\/(ms f t k≠[]/\d.length<=4096/\∃q C vs,jJ d=some [(q,C)]/\vr s q C (ms f t k).length=some vs/\(∀v∈vs,fO Z3 s (aH v)=true)/\l=(ms f t k).zip vs)):=by
 by_cases g:jg s f t k=0;.refine⟨g,?_⟩;by_cases p:ms f t k=[];rw[ZsM g p] at h;grind;by_cases u:4096<d.length;rw[Zt9 g p u] at h;cases h;rcases B:jJ d with _|fr;rw[Ztn g p u B] at h;cases h;by_cases D:fr.length=1;obtain⟨⟨q,C⟩,rfl⟩:=List.length_eq_one_iff.1 D;rw[Ztb g p u B] at h;rcases y:vr s q C (ms f t k).length with _|vs;rw[y] at h;cases h;rw[y] at h;simp only at h;by_cases z:vs.all (λv=>fO Z3 s (aH v))=true;rw[Vag z] at h;injection h with h;exact .inr ⟨p,O,q,C,vs,rfl,y,uI.1 z,h.symm⟩;rw[Vae z] at h;cases h;rw[Zta g p u B D] at h;cases h
 rw[Zt8 rfl g] at h;injection h with _ h;exact absurd h g
end Wv
namespace Go.Proofs.Y
open Wv Go.RowKit
theorem ZtR {w:aq} (a c f t k:Int) (c8:mE k) (d3:rj a c w) (d:ax) (hd:d.length<=1000000000) {l:List (Int×aT)} (h:Ih (a,c) f t k d=(l,0)):
  Calls prog 32 #[.agg #[a,c],f,t,k,bs d] w λx w'=>yg w (l,0) x w':=by
 have D:=J (λW h=>Dc (w:=w) (W:=W) (a:=a) (c:=c) h);unfold yg;obtain⟨a5,h8⟩:=Zu5 h;have E:=J (λW=>ZsW c8 a5 W);have i9:=Nh f t k;have Q:(bs d).size=d:=Z0 d;clear h hd;rcases h8 with ⟨M,rfl,rfl⟩|⟨M,a4,q,C,vs,d2,c7,f7,rfl⟩;.rw[M] at E;simp only[xa] at E;rw[show bs ([]:ax)=⟨#[]⟩ from rfl];clear d3 a5 i9 Q M c8;go_in;go_wp21;refine(E.o _).mono ?_;rintro x w1 ⟨g8,h7,rfl,a7,G⟩;obtain⟨k9,l0,aa,_⟩:=D.o _ G;have i0:=J aa;clear G aa a7 E;go_wp2;go_returns;exact⟨_,rfl,qv.nil _ _,i0.o⟩
 have j7:(((ms f t k).length:Int)==0)=false:=by rw[lL];intro e;exact M (ia O)
 have k1:¬(4096:Int)<((bs d).size:Int):=O;have b1:=J (λW=>WN O d2 W);have g7:=KT d2 (q,C) fi;obtain⟨e4,j0,e5⟩:=Ex a5;have e3:=J (λW=>ZpC (w:=W) a c (q:Int) (ms f t k) C e4 e5 (by show C.length<=_;have:C.length<=4096:=g7;omega));obtain⟨f3,f9⟩:=Zm4 c7;rw[c7] at e3;obtain⟨a9,j3,i2,h1⟩:=dc f3 f9 f7 (λv h W i6=>d3 v h W i6);simp only[gd,xa] at b1;have I:mP [(q,C)]=[.int .i64 (q:Int),.string (bs C)]:=rfl;rw[I] at b1;generalize bs d=S at*;generalize bs C=SC at*;generalize (q:Int)=qI at*;generalize ms f t k=m at*;clear d3 a5 Q M c8 a4 d2 c7 e4 j0 e5 g7 I f3 f9 f7;go_in;go_wp21;refine(E.o _).mono ?_;rintro x w1 ⟨g8,h7,rfl,a7,G⟩;have e9:=J G;have h3:=J a7;clear G a7 E;go_wp21;refine(b1.o _).mono ?_;rintro x b0 ⟨A2,j9,rfl,b9,aa⟩;have u:=J (e9.o.trans (aa.mono e9.o.size));have j4:=J (h3.o.below aa);obtain⟨R,a8,rfl,b5,d0⟩:=b9.get 0 qI rfl;obtain⟨i1,j2,c5,_,f5⟩:=b9.get 1 (.string SC) rfl;injection c5 with c5;injection c5 with i3 i4;subst i3;subst i4;simp at d0;have z:∀X,Below b0.drew b0.drew X->X.cell? (w,0)=some (.int .i64 a)/\X.cell? (w,1)=some (.int .i64 c)/\X.cell? (R,a8)=some (.int .i64 qI)/\X.cell? (R,a8+1)=some (.string SC):=λX h=>by have g:=D.o X (u.o.drew.trans (h.mono u.o.drew.size));have a3:=((bf b0 b0).drew).trans h;exact⟨g.1,g.2.1,SY a3 b5 d0,SY a3 b5 f5⟩
 have d5:=J z;have h0:=z _ (bf _ _);clear z b9 aa d0 f5;go_wp2
 go_region_held3 (λX=>X.cell? (w,0)=some (.int .i64 a)/\X.cell? (w,1)=some (.int .i64 c)/\X.cell? (R,a8)=some (.int .i64 qI)/\X.cell? (R,a8+1)=some (.string SC)) (first|with_reducible assumption) (first
  |(go_at_call 60;with_reducible refine(e3.o _).mono ?_;rintro r j5 ⟨A4,j1,k2,rfl,a4,b8⟩;have d8:=J a4;have a1:=d5.o _ b8;have f4:=J b8;clear a4 b8));have d6:=J (u.o.drew.trans (f4.o.mono u.o.drew.size));have h5:=J (j4.o.drew.below f4.o);clear h0 a1 b5;obtain⟨g6,d9⟩:=d8.o vs rfl;have h6:=J d9;have h2:j1=m:=g6.trans a9.o;subst h2;clear g6 d9 d8;go_wp2;generalize j5=wL at*;go_loopw [17,65] (λg9 b6 wr=>∃i:Nat,i<=m/\b6=i/\Hid (wr.ownsRow wL 68 2 g9 i (cv ((m.zip vs).take i)))/\Hid (Below wL wL wr)) (λ_ b6 _=>(m.length-intOf b6).toNat);exact EO;obtain⟨i,hi,rfl,F,hb⟩:=hrel;obtain⟨j6,k3,rfl,a0⟩:=Zh F.o;have a2:=J (d6.o.trans (hb.o.mono d6.o.size));by_cases ab:i<m
 .have y:i<vs:=(by rw[a9.o];exact ab);obtain⟨j8,k4,rfl,i7,t0⟩:=O7 (h5.o.below hb.o) i ab;obtain⟨f2,g4,rfl,c9,d7⟩:=Zkw (h6.o.below hb.o) i y;have a6:=ZsS (ts:=m) (vs:=vs) a9.o.symm ab;have d4:=i2.o _ (dt y);have Q:=j3.o _ (dt y);obtain⟨X,g1⟩:=ay m[i];obtain⟨V,g0⟩:=ay (vs[i]'y);rw[g1] at t0 a6;rw[g0] at d7 a6 d4 Q;have e6:=J (h1.o V O wr.drew (D.o _ a2.o.drew).2.2.1);rw[d4] at e6;have z:∀Y,Below wr.drew wr.drew Y->Y.cell? (w,0)=some (.int .i64 a)/\Y.cell? (w,1)=some (.int .i64 c)/\Y.cell? (f2,g4+i)=some (.string V):=λY h=>by have g:=D.o Y (a2.o.drew.trans (h.mono a2.o.drew.size));have a3:=((bf wr wr).drew).trans h;exact⟨g.1,g.2.1,SY a3 c9 d7⟩
  have d5:=J z;have h0:=z _ (bf _ _);have k0:(0:Int)<=i:=O;have k6:(i:Int)<m:=O;have b4:=J a6;clear z a6 g1 g0 a0 d7 d4;go_wp2
  go_region_held3 (λY=>Y.cell? (w,0)=some (.int .i64 a)/\Y.cell? (w,1)=some (.int .i64 c)/\Y.cell? (f2,g4+i)=some (.string V)) (first|with_reducible assumption) (first
   |(go_at_call 52;with_reducible refine(e6.o).mono ?_;rintro r k7 ⟨rfl,c4⟩;have a1:=d5.o _ c4;have f6:=J c4;clear c4));have k8:=a1.2.2;have c6:=hb.o.drew.trans (f6.o.mono hb.o.drew.size);have g3:=Z6 (Z6 F.o (Fr.of_below (S:=nob) ((bf wr wr).drew)) (λ_ _ f=>f)) (Fr.of_below (S:=nob) f6.o) (λ_ _ f=>f);obtain⟨k5,W',e8,c3,e7⟩:=xZ g3 c6 c6.size O (X,V);rw[<-b4.o] at c3;obtain⟨b7,p,B⟩:=bD e8 c3 e7;clear h0 a1 e8 c3 e7 g3 c6 F hb;exact uY
 have h9:i=m:=O;subst h9;rw[d' (by rw[List.length_zip];omega)] at a0;have g5:(m.zip vs)=m.length:=(by rw[List.length_zip,a9.o];omega);obtain⟨i5,b2,b3⟩:=bD a0 (λb o e=>co (D.o _ d6.o).2.2.1.size (ZsV F.o b o e)) g5;have i8:=J (D.o _ a2.o).2.2.1;clear F a0 g5;go_wp2;go_returns;exact⟨_,rfl,⟨_,_,by rw[b3.o];rfl,i5.o,b2.o⟩,i8.o⟩
theorem Zsk (f t k:Int) (F: -1<=f) (R:f<t) (M:t<=1099511627776) (G:1<=k) (w:aq):
  Calls prog 20 #[f,t,k] w λx w'=>x=.returned (Ed t k-Ed f k:Int)/\∃q,w'=w.drewN q:=by
 have h0:0<=t/k:=Ao O O;have h1:t/k<=t:=Int.ediv_le_self _ O;have Q:(k==0)=false:=W4P;have u:t.tdiv k=t/k:=IR O;have B:¬k= -1:=O;by_cases I:f<0;.have g:Hid (Ed t k-Ed f k=t/k+1):=J (by unfold Ed;rw[Vag O,Vae O];omega);have l:IntKind.i64.wrap (t/k)=t/k:=lO;have p:IntKind.i64.wrap (t/k+1)=t/k+1:=lO;rw[g.o];go_in;go_wp2;go_returns;exact⟨ZZ (by simp[u,l,p]),0,rfl⟩
 have D:0<=f/k:=Ao O O;have E:f/k<=f:=Int.ediv_le_self _ O;have y:f.tdiv k=f/k:=IR O;have g:Hid (Ed t k-Ed f k=t/k-f/k):=J (by unfold Ed;rw[Vag O,Vag O];omega);have l:IntKind.i64.wrap (t/k)=t/k:=lO;have p:IntKind.i64.wrap (f/k)=f/k:=lO;have z:IntKind.i64.wrap (t/k-f/k)=t/k-f/k:=lO;rw[g.o];go_in;go_wp2;go_quiet (fail);go_wp2;go_returns;exact⟨ZZ (by simp[u,y,l,p,z]),_,rfl⟩
theorem ZrS (t:Int) (v:aT) (q:0<=t) (I:t<=1099511627776) {k:Int} (B:1<=k) (y:k<=1099511627776) {w:aq} {K:Nat} (h:Bk w K 3 #[k]):
  Calls prog 25 #[.agg #[t,v],(K,0)] w (bM w (.bool (!decide (t % k=0)))):=by have g:=(bf w w).alloc aU (.cells #[t,v] 68);have h1:=h.below g h.lt;have u:=h1.cell 0;simp at u;have p:=J g;have E:(k==0)=false:=W4P;have D:t.tmod k=t % k:=Nc q;have e0:=CD t (show k≠0 by omega);have z:=zH t (show 0<k by omega);have F:IntKind.i64.wrap (t % k)=t % k:=lO;have l:Hid ((t % k !=0)= !decide (t % k=0)):=J rfl;have G:=h1.lt;clear h h1 g;go_in;go_wp2;go_returns;exact⟨Z4 l.o,p.o⟩
end Go.Proofs.Y
namespace Wv
open Go.Proofs.Y
variable{data:ax}{st:List (Int×Int)}
theorem Ztu {c:eS} (h:ka st c=(data,0)):∃n zs,nV st data=some (qh c.f c.t 0 0 c.gaps (dW c) n (ei Z3 st c.vs).1 zs,c):=by obtain⟨x,_,_,_,k⟩:=PL h;obtain⟨hd,h1,g,_⟩:=Zr8 h;grind
theorem Mi (st:List (Int×Int)) (h:Hd) (c:eS) (step:Int) (i:Nat):thX st h c 2 step i=([],0):=by unfold thX;rw[Vag (by unfold hasS;grind)]
theorem xw {h:Hd} {c:eS} {level step:Int} (k:fN st=true) (g:(level=1/\1<=step/\step<=1099511627776)\/(level=2/\step=0)) (l:nV st data=some (h,c)):
  jq st data level step=if h.lv=2\/h.lv=1/\step % h.sp≠0 then([],10)
   else if level=1/\4096<Ed h.t step-Ed h.f step then([],9)
   else if(ei Z3 st c.vs).2≠0 then([],9)
   else if ∃i,i<st.length/\(thX st h c level step i).2≠0 then([],9)
   else oj st h.f h.t level.toNat step.toNat h.gaps h.quiet (ei Z3 st c.vs).1 (WP st h c level step):=by unfold jq;grind
theorem Zs4 {c:eS} {one:ax} {a b:Int} (h:ka st c=(data,0)) (a0:1<=a) (e9:a<=1099511627776) (hb:1<=b) (h1:jq st data 1 a=(one,0)):
  jq st one 1 (a*b)=jq st data 1 (a*b)/\jq st one 2 0=jq st data 2 0/\(jq st data 2 0).2=0/\(∀s,1<=s->s<=1099511627776->s % a≠0->(jq st one 1 s).2=10)/\(∀e,jq st data 2 0=(e,0)->(jq st e 2 0).2=10)/\HJ st one=(none,14):=by
 obtain⟨e7,a1,g3,_⟩:=Yr h;obtain⟨d8,_⟩:=XM.1 e7;obtain⟨f1,b1,S,c9,f5,b2⟩:=Yi.1 d8;obtain⟨k,n4,_⟩:=yX c9;have b7:(dW c)=st.length:=Fk;have a3:ei Z3 st c.vs=((ei Z3 st c.vs).1,0):=Prod.ext rfl a1;obtain⟨n,zs,I⟩:=Ztu h;generalize a8:(ei Z3 st c.vs).1=snap at*;obtain⟨D,hD⟩:=ay (qh c.f c.t 0 0 c.gaps (dW c) n snap zs);have u:D.f=c.f:=rU;have y:D.t=c.t:=rU;have g:D.lv=0:=rU;have M:D.gaps=c.gaps:=rU;have q:D.quiet=dW c:=rU;rw[hD] at I;clear hD
 -- the first thinning
 rw[xw k (.inl ⟨rfl,a0,e9⟩) I,Vae ER] at h1;have f9:¬(4096<Ed D.t a-Ed D.f a):=by intro d6;rw[Vag ⟨rfl,d6⟩] at h1;simp at h1
 rw[Vae (λh=>f9 h.2),Vae (by rw[a1];omega)] at h1;have a4:∀i,i<st.length->(thX st D c 1 a i).2=0:=by intro i hi;rcases rS (thX st D c 1 a i).2 with h0|h0;exact h0;rw[Vag ⟨i,hi,O⟩] at h1;simp at h1
 rw[Vae (by rintro⟨i,hi,h0⟩;exact h0 (a4 i hi)),a8,u,y,M,q,show(1:Int).toNat=1 from rfl] at h1;have Rd:sx c.f c.t=true:=Hb.2 ⟨f1,O,S⟩;have c8:NE st c.f c.t 1 a.toNat c.gaps (dW c) (WP st D c 1 a):=⟨f1,b1,S,O,O,O,b2,n4,b7,O3⟩;have c7:∀i,i<st.length->hasS (jI st i) ((dW c).getD i false) 1=true->thX st D c 1 a i=kE (jI st i) c.f c.t a (vx c.f c.t a (jU c.vs i) (fG c.ch i)):=by intro i hi l;unfold thX;rw[q,Vae KW,u,y,Vag g]
 have f8:∀i,i<st.length->hasS (jI st i) ((dW c).getD i false) 1=true->jg (jI st i) c.f c.t a=0:=by intro i hi l;have h0:=a4 i hi;rw[c7 i hi l] at h0;unfold kE at h0;rcases rS (jg (jI st i) c.f c.t a) with c6|c6;exact c6;rw[Vag O] at h0;simp only at h0;omega
 have G:(a.toNat:Int)=a:=O
 obtain⟨n1,b3,z⟩:=ZsA (vs:=c.vs) h1 c8 a3 aY (λi=>if(dW c).getD i false=true then[] else if hasS (jI st i) false 1=false then[] else vx c.f c.t a (jU c.vs i) (fG c.ch i)) (by
  intro i hi gP a5;cases p:(dW c).getD i false with
  |true=>left;exact⟨rfl,by rw[Vag rfl]⟩
  |false=>right;rw[p] at a5;rw[Vae aY];cases l:hasS (jI st i) false 1;left;exact⟨rfl,rfl,by rw[Vag rfl]⟩;right;rw[Vae aY];have b6:hasS (jI st i) ((dW c).getD i false) 1=true:=(by rw[p];exact l);refine⟨rfl,rfl,_,a5 l,?_⟩;have e:(WP st D c 1 a).getD i []=(thX st D c 1 a i).1:=Tf _ _ hi;rw[e,G];have h0:=a4 i hi;rw[c7 i hi b6] at h0⊢;exact(ZtB (Prod.ext rfl h0)).1);generalize d7:(λi=>if(dW c).getD i false=true then([]:List dO) else if hasS (jI st i) false 1=false then[] else vx c.f c.t a (jU c.vs i) (fG c.ch i))=L at z;generalize zsT ((1:Nat):Int) st (dW c) (WP st D c 1 a)=zs1 at b3 z;obtain⟨E,hE⟩:=ay (qh c.f c.t 1 a.toNat c.gaps (dW c) n1 snap zs1);have a9:E.f=c.f:=D8;have b0:E.t=c.t:=D8;have Q:E.lv=1:=D8;have c3:E.gaps=c.gaps:=D8;have R:E.quiet=dW c:=D8;have c4:E.sp=a.toNat:=D8;rw[hE] at z b3;clear hE;obtain⟨c1,a6⟩:∃c1:eS,(⟨c.f,c.t,c.vs,(List.range st).map L,c.gaps⟩:eS)=c1:=⟨_,rfl⟩;have c5:c1.vs=c.vs:=(by rw[<-a6]);have d3:∀i,i<st.length->fG c1.ch i=L i:=(by intro i hi;rw[<-a6];exact Tf _ _ hi);rw[a6] at z;refine⟨?_,?_,?_,?_,?_,?_⟩
 .by_cases a2:a*b<=1099511627776
  .obtain⟨b9,f7⟩:=LD a0 hb;have A:=xw k (.inl ⟨rfl,b9,a2⟩) z;have B:=xw k (.inl ⟨rfl,b9,a2⟩) I;rw[Vae (by rw[Q,c4,G];rintro(h|⟨_,h⟩);exact O;exact h (Int.mul_emod_right a b)),a9,b0,c3,R,c5] at A;rw[Vae ER,u,y,M,q] at B;rw[A,B]
   have b8:∀i,i<st.length->thX st E c1 1 (a*b) i=thX st D c 1 (a*b) i:=by
    intro i hi;cases l:hasS (jI st i) ((dW c).getD i false) 1;have A:thX st E c1 1 (a*b) i=([],0):=(by unfold thX;rw[R,Vag l]);have B:thX st D c 1 (a*b) i=([],0):=(by unfold thX;rw[q,Vag l]);rw[A,B];have A:thX st E c1 1 (a*b) i=kE (jI st i) c.f c.t (a*b) ((L i).filter (λx=>decide (x.1 % (a*b)=0))):=by unfold thX;rw[R,Vae KW,a9,b0,Vae (by rw[Q];decide),d3 i hi]
    have B:thX st D c 1 (a*b) i=kE (jI st i) c.f c.t (a*b) (vx c.f c.t (a*b) (jU c.vs i) (fG c.ch i)):=by unfold thX;rw[q,Vae KW,u,y,Vag g]
    have p:(dW c).getD i false=false:=by cases p:(dW c).getD i false;rfl;rw[p] at l;cases l
    have d9:=f8 i hi l;rw[p] at l;have b4:L i=vx c.f c.t a (jU c.vs i) (fG c.ch i):=by rw[<-d7];simp only;rw[p,Vae aY,Vae KW]
    rw[A,B,b4,ZsL a0 hb Rd (Ex d9).2.1]
   have a7:WP st E c1 1 (a*b)=WP st D c 1 (a*b):=by unfold WP;apply List.map_congr_left;intro i hi;rw[b8 i (List.mem_range.1 hi)]
   have F:(∃i,i<st.length/\(thX st E c1 1 (a*b) i).2≠0)↔(∃i,i<st.length/\(thX st D c 1 (a*b) i).2≠0):=by constructor;rintro⟨i,hi,h0⟩;exact⟨i,hi,by rw[<-b8 i hi];exact h0⟩;rintro⟨i,hi,h0⟩;exact⟨i,hi,by rw[b8 i hi];exact h0⟩
   rw[a7];simp only[F]
  obtain⟨b9,f7⟩:=LD a0 hb;unfold jq;rw[Vag (.inr ⟨λh=>a2 h.2.2,λh=>O⟩),Vag (.inr ⟨λh=>a2 h.2.2,λh=>O⟩)]
 .have A:=xw k (.inr ⟨rfl,rfl⟩) z;have B:=xw k (.inr ⟨rfl,rfl⟩) I;rw[Vae (by rw[Q];rintro(h|⟨_,h⟩);exact O;exact h (Int.zero_emod _)),a9,b0,c3,R,c5] at A;rw[Vae ER,u,y,M,q] at B;rw[A,B];have a7:WP st E c1 2 0=WP st D c 2 0:=by unfold WP;apply List.map_congr_left;intro i hi;rw[Mi,Mi]
  rw[a7];have F:(∃i,i<st.length/\(thX st E c1 2 0 i).2≠0)↔(∃i,i<st.length/\(thX st D c 2 0 i).2≠0):=by constructor<;>(rintro⟨i,hi,h0⟩;rw[Mi] at h0;exact absurd rfl h0)
  simp only[F]
 .rw[xw k (.inr ⟨rfl,rfl⟩) I,Vae ER,Vae (λh=>by cases h.1),Vae (by rw[a1];omega),Vae W7i];rw[a8,u,y,M,q];exact ZcK ⟨f1,b1,S,O,O,O,b2,n4,b7,O3⟩ a3
 .intro s s1 g0 s3;rw[xw k (.inl ⟨rfl,s1,g0⟩) z,Vag (.inr ⟨Q,by rw[c4,G];exact s3⟩)]
 .intro e b5;rw[xw k (.inr ⟨rfl,rfl⟩) I,Vae ER,Vae (λh=>by cases h.1),Vae (by rw[a1];omega),Vae W7i] at b5;rw[a8,u,y,M,q,show(2:Int).toNat=2 from rfl,show(0:Int).toNat=0 from rfl] at b5
  obtain⟨n2,_,e8⟩:=ZsA (lv:=2) (sp:=0) (vs:=c.vs) b5 ⟨f1,b1,S,O,O,O,b2,n4,b7,O3⟩ a3 aY (λ_=>[]) (by
   intro i hi gP a5;cases p:(dW c).getD i false with
   |true=>left;exact⟨rfl,rfl⟩
   |false=>right;left;exact⟨rfl,by unfold hasS;simp,rfl⟩);rw[xw k (.inr ⟨rfl,rfl⟩) e8,Vag (.inl rfl)]
 unfold HJ;rw[Vae (by rw[k];decide),b3];simp only;rw[Vag (by rw[Q];decide)]
end Wv
namespace Go.Proofs.Y
open Wv Go.RowKit
variable{A:Wto}{K base g n:Nat}{k:Int}{v:aI}{w:aq}{xs:List aI}
theorem Zsg {P:Program} (t e:TypeId) (z:aI) (size bytes:Nat) (Q:P.underlying t=some (.slice e)) (p:(P.info? e).map (λi=>(i.zero,i.size,i.bytes))=some (some z,size,bytes)) (E:z.cells.size=size) (I:0<size) {l:List aI} (R:w.ownsRow base e size v n xs) {a:Addr} (hu:At w (some a) l) (cap m:Nat) (a4:l=m*size) (h1:∀y∈l,y.oneCell'=true)
  (G:n+m<=maxLen) (q:(n+m)*bytes<=140737488355328) (B:base<=w):
  ∃k w',(Builtin.append_ #[t,t] t #[v,.slice (some a) m cap]).run P w=.ok k w'/\w'.ownsRow base e size k (n+m) (xs++l)/\w.grownBy w' v.ownBlock/\(k.ownBlock=v.ownBlock\/k.ownBlock=some w.heap.size):=by obtain⟨i,hi,a0,M,F⟩:=info_parts p;obtain⟨k,w',a5,a1,a2,_,a3⟩:=run_append_own_at (P:=P) w base t t e i z size bytes Q hi a0 M F E I v n xs R a m cap l O (λj u D=>EL) h1 G q B;grind
theorem Zsu (e:TypeId) (size:Nat) (g:0<size) (w:aq):(w.alloc (.cells #[] e)).ownsRow w e size (.slice (some (w,0)) 0 0) 0 []:=
 World.ownsRow_made w #[] 0 aU O (by simp)
theorem Zti (l:List dO):∀y∈cv l,y.oneCell'=true:=by intro y k;unfold cv at k;obtain⟨c,_,g⟩:=List.mem_flatMap.1 k;simp at g;rcases g with rfl|rfl<;>rfl
theorem Zse {l:List dO} (q:At w A (cv l)) (n cap:Nat) (u:n=l) (I:n<=1000000):
  Calls prog 24 #[(A,n,cap)] w λx w'=>∃v,x=.returned v/\w'.ownsRow w 68 2 v n (cv l)/\Below w w w':=by
 rcases A with _|a
 .have G:l=[]:=by rcases l with _|⟨c,l⟩;rfl;obtain⟨_,_,h,_⟩:=xx q 0 (by simp);cases h
  subst G;obtain rfl:n=0:=u;have hb:=bf w w;have t:=λW=>Go.Lib.run_eql_slice_nil (P:=prog) W 50 68 none 0 cap 0 0 underlying50;go_in;go_wp2;go_returns;exact⟨_,rfl,Zl,hb⟩
 have g:(cv l)=n*2:=(by rw[T5,u]);obtain⟨v,w1,y,p,z,_⟩:=Zsg (P:=prog) 50 68 _ 2 _ underlying50 ZoM rfl aY (Zsu 68 2 aY w) (q.alloc (.cells #[] 68)) cap n g (Zti l) fU O (by simp);have hb:=((bf w w).alloc aU (.cells #[] 68)).grown z (by simp) (λk F=>by simp[Value.ownBlock] at F;omega);rw[jK,pU] at p;obtain⟨D,B,E⟩:=bD p hb y;clear y;have t:=λW=>Go.Lib.run_eql_slice_nil (P:=prog) W 50 68 (some a) n cap 0 0 underlying50;clear p z hb q g u;go_in;go_wp2_with (at_builtin;refine Z5 iG rfl _ _ _ rfl _ _ (by rfl) (by rfl) E.o ?_);go_wp2;go_returns;exact⟨_,rfl,D.o,B.o⟩
abbrev clK (K:Nat):aI:=.func (.func 25) #[] #[.pointer (some ⟨K,0,none⟩)]
def NF (w:aq) (l:List dO) (k:Int) (x:Ending) (w':aq):Prop:=Below w w w'/\((x=.returned (-1:Int)/\∀c∈l,c.1 % k=0)\/∃(m:Nat) (h:m<l),x=.returned m/\¬l[m].1 % k=0/\∀c∈l.take m,c.1 % k=0)
theorem Zs3 {l:List dO} (M:At w A (cv l)) (n cap:Nat) (R:n=l) (a6:n<=1000000) (S:∀c∈l,0<=c.1/\c.1<=1099511627776) (a4:1<=k) (a2:k<=1099511627776) (h:Bk w K 3 #[k]):
  Calls prog 50 #[(A,n,cap),clK K] w λx w'=>NF w l k x w':=by
 obtain⟨Ha,a0,a5,a1⟩:=dc M R (λW (hb:Below w w W) (t:Int) (v:aT) h0 h1=>ZrS t v h0 h1 a4 a2 (h.below hb h.lt)) S;clear M R h S;go_in;go_wp2;go_loopw [8] (λG wr=>∃i:Nat,i<=n/\G=i/\Hid (∀c∈l.take i,c.1 % k=0)/\Hid (Below w w wr)) (λG _=>(n-intOf G).toNat);exact⟨0,cf _,rfl,J (by simp),J (bf _ _)⟩;obtain⟨i,hi,rfl,p,hb⟩:=hrel;by_cases ab:i<n
 .have q:i<l:=iF;obtain⟨a7,b0,rfl,a9,c0,c1⟩:=xx (Ha.o.below hb.o) i q;have z:=dK q;obtain⟨t0,t1⟩:=a1.o _ (dt q);have u:∀(h:i<l),l[i]=l[i]'q:=λ_=>rfl;obtain⟨⟨t,v⟩,B⟩:=ay l[i];rw[B] at c0 c1 z t0 t1;simp only at c0 c1 t0 t1;have a8:(i:Int)<n:=O;have b1:(0:Int)<=i:=O;have y:=J (a5.o _ hb.o t v t0 t1);by_cases g:t % k=0
  .rw[dd g] at y;have a3:Hid (∀c∈l.take (i+1),c.1 % k=0):=J (λc Q=>by rw[z] at Q;rcases lc.1 Q with h1|h1;exact p.o c h1;rw[jv] at h1;rw[h1];exact g);clear z B g p u;go_wp21;refine aP y.o λw1 F=>?_;have D:=J (hb.o.trans (F.mono hb.o.size));go_wp2;refine⟨⟨i+1,ab,ci,a3,D⟩,?_⟩;simp[intOf]<;>omega
  rw[Vai g] at y;have E:Hid (∀w',Below w w w'->NF w l k (.returned i) w'):=J (λw' h=>⟨h,.inr ⟨i,q,rfl,by rw[B];exact g,p.o⟩⟩);clear z B g p u;go_wp21;refine aP y.o λw1 F=>?_;have D:=J (hb.o.trans (F.mono hb.o.size));go_wp2;go_returns;exact E.o _ D.o
 have I:i=n:=O;have E:Hid (∀w',Below w w w'->NF w l k (.returned (-1:Int)) w'):=J (λw' h=>⟨h,.inl ⟨rfl,by have:=p.o;rw[d' (by rw[<-a0.o,I];exact aU)] at this;exact this⟩⟩);subst I;go_wp2;go_returns;exact E.o _ hb.o
abbrev X2 (k:Int) (l:List dO):List dO:=l.filter λx=>decide (x.1 % k=0)
theorem Zs7 (k:Int) (l:List dO) (c:dO):X2 k (l++[c])=if c.1 % k=0 then X2 k l++[c] else X2 k l:=by unfold X2;rw[List.filter_append];by_cases h:c.1 % k=0<;>simp[h]
theorem Zsp {l:List dO} (h:∀c∈l,c.1 % k=0):X2 k l=l:=by unfold X2;rw[List.filter_eq_self];intro c g;simp[h c g]
theorem Zt4 {e size cap:Nat} (h:w.ownsRow base e size (.slice (some (g,0)) n cap) n xs):∃p sp,Bk w g e p/\p.toList=xs++sp/\base<=g/\n<=cap:=by rcases h.2 with ⟨h1,_⟩|⟨E,B,k,h1,t,u,y,F,G,z⟩;cases h1;injection h1 with l D q;injection l with l;injection l with l;subst l q;exact⟨k,k.toList.drop (n*size),u,by rw[<-z,vH],t,y⟩
theorem ZsT {T:Nat} {k:Array aI} {sp:List aI} (h:Bk w g T k) (l:k.toList=xs++sp):At w (some ⟨g,0,none⟩) xs:=by intro i hi;refine⟨g,0,rfl,h.lt,?_⟩;rw[jK,h.cell];have:k[i]? =k.toList[i]? :=(by simp);rw[this,l,List.getElem?_append_left hi,fb hi]
theorem Zt6 (P:List aI) (g k t v:aI) (R:List aI):((P++g::k::R).set P t).set (P.length+1) v=P++t::v::R:=by rw[nj _ _ aU,fh,List.set_cons_zero,nj _ _ O,Nat.add_sub_cancel_left];rfl
def IQ (wr:aq) (g:Nat) (k:Int) (l:List dO) (j:Nat):Prop:=∃(X sp:List aI) (p:Array aI),Bk wr g 68 p/\p.toList=cv (X2 k (l.take j))++X++cv (l.drop j)++sp/\(X2 k (l.take j)).length*2+X.length=j*2/\2<=X.length
theorem Zsh {P:Program} (w:aq) (t e u:TypeId) (z:aI) (p:P.underlying t=some (.slice e)) (q:∀w,(zeroValue e).run P w=.ok z w) (b o n c:Nat) (B:0<n) (h1:∀y∈(Builtin.zeroCells z.cells n).toList,y.oneCell'=true)
  (k:∀j,j<(Builtin.zeroCells z.cells n).toList.length->(w.cell? ⟨b,o+j,none⟩).isSome=true) (l:∀j,j<(Builtin.zeroCells z.cells n).toList.length->w.frozen? ⟨b,o+j,none⟩=false):
  (Builtin.clear_ #[t] u #[.slice (some (b,o)) n c]).run P w=.ok (.tuple #[]) (w.setCells b o (Builtin.zeroCells z.cells n).toList):=by have g:=run_storeCells_cells (P:=P) b o (Builtin.zeroCells z.cells n).toList 0 w (by simpa using k) (by simpa using l) h1;simp only[tS] at g;obtain⟨m,rfl⟩:∃m,n=m+1:=⟨n-1,O⟩;simp[Builtin.clear_,run_underlying p,q,g]
theorem ZrM {S:Nat->Prop} {a:aq} {g:Nat} (k:S g):∀(vs:List aI) (o:Nat) {w:aq},Fr S a w->Fr S a (w.setCells g o vs)
 |[],_,_,h=>h
 |v::r,o,w,h=>ZrM k r (o+1) (h.setCell (.inl k) v)
theorem ZrL {B g:Nat} {a:aq} (k:B<=g):∀(vs:List aI) (o:Nat) {w:aq},Below B a w->Below B a (w.setCells g o vs)
 |[],_,_,h=>h
 |v::r,o,w,h=>ZrL k r (o+1) (h.setCell (p:=⟨g,o,none⟩) k v)
theorem Ztv (z:Array aI) (m:Nat):(Builtin.zeroCells z m).toList=m*z.size:=by simp[Builtin.zeroCells]
theorem Ztw (m:Nat):∀y∈(Builtin.zeroCells #[(0:Int),ByteArray.empty] m).toList,y.oneCell'=true:=by intro y g;simp[Builtin.zeroCells] at g;obtain⟨i,_,rfl⟩:=g;rcases(show i % 2=0\/i % 2=1 by omega) with h|h<;>rw[h]<;>rfl
theorem MW (l:List dO):(cv l)=l.length*2:=T5 l
theorem ZsY {l:List dO} {j:Nat} (h:j<l):cv (l.drop j)=.int .i64 l[j].1::.string l[j].2::cv (l.drop (j+1)):=by rw[kw h];rfl
theorem Ztj (k:Int) (l:List dO):(X2 k l)<=l.length:=List.length_filter_le _ _
theorem Zs2 {wb:aq} {B:Nat} {l:List dO} (d1:w.ownsRow B 68 2 v n (cv l)) (e9:n=l) (i3:n<=1000000) (hb:Below B wb w) (j0:B<=w.heap.size) (f3:∀c∈l,0<=c.1/\c.1<=1099511627776) (h4:1<=k) (g6:k<=1099511627776) (h:Bk wb K 3 #[k]) (e7:K<B):
  Calls prog 23 #[v,clK K] w λx w'=>∃A k',x=.returned (.slice A (X2 k l) k')/\At w' A (cv (X2 k l))/\(∀b o,A=some ⟨b,o,none⟩->B<=b)/\Below B wb w':=by
 obtain⟨A,cap,j4,e3⟩:=Zh d1;have f9:=J (λW (hb:Below B wb W)=>h.below hb e7);have a9:=J (Zs3 e3 n cap e9 i3 f3 h4 g6 (f9.o w hb));have h6:=J (λW (hb:Below B wb W) (t:Int) (v:aT) h0 h1=>ZrS t v h0 h1 h4 g6 (f9.o W hb));subst j4;obtain⟨d8,d9,g7,g2,a0,i1⟩:=fA (ZsV d1) d1 e3 hb e9 f3;have h8:=j0;clear d1 e3 hb h e9 f3;go_in;go_wp21;refine(a9.o).mono ?_;rintro x w1 ⟨b7,i4⟩;have d2:=J (g2.o.trans (b7.mono h8));rcases i4 with ⟨rfl,b2⟩|⟨m,f4,rfl,g8,b2⟩;.have e5:Hid (∃d6 k',(Ending.returned (.slice A n cap):Ending)=.returned (.slice d6 (X2 k l) k')/\At w1 d6 (cv (X2 k l))/\(∀b o,d6=some ⟨b,o,none⟩->B<=b)/\Below B wb w1):=J (by rw[Zsp b2,<-a0.o];exact⟨A,cap,rfl,g7.o.below b7,d8.o,d2.o⟩);clear b2 b7 d2;go_wp2;go_returns;exact e5.o
 have j9:0<n:=(by rw[a0.o];omega);obtain⟨g,k5,i2,hncap⟩:=Uf d9.o j9;injection i2 with i5 k8 i8;subst i5;subst i8;have g5:=Z6 d9.o (Fr.of_below (S:=nob) b7) (λ_ _ f=>f);obtain⟨E,sp,D,z,c9,_⟩:=Zt4 g5;have d3:X2 k (l.take m)=l.take m:=Zsp b2;have a1:l.take (m+1)=l.take m++[l[m]]:=dK f4;have a7:X2 k (l.take (m+1))=l.take m:=(by rw[a1,Zs7,Vae g8,d3])
 have g3:Hid (IQ w1 g k l (m+1)):=J ⟨cv [l[m]],sp,E,D,by
  rw[z,a7]
  have:cv l=cv (l.take m)++(cv [l[m]]++cv (l.drop (m+1))):=by
   conv=>lhs;rw[<-vH (m+1) l,a1]
   unfold cv;simp only[yD,er]
  rw[this];simp only[er],by rw[a7,ek,MW,pg];omega,by rw[MW,pg];exact aU⟩
 have h7:Hid ((X2 k (l.take (m+1))).length=m):=J (by rw[a7,ek];omega);have i6:((m:Int)== -1)=false:=W4P;have j8:m<n:=(by rw[a0.o];exact f4);clear g8 b2 f4 g5 D z d3 a1 a7 b7 a9 g2 d9 g7;go_wp2;go_loopw [5,6] (λk2 f6 wr=>∃j:Nat,j<=n/\k2=.int .i64 (((X2 k (l.take j)).length:Nat):Int)/\f6=j/\Hid (IQ wr g k l j)/\Hid (Below B wb wr)) (λ_ f6 _=>(n-intOf f6).toNat);exact⟨m+1,O,by rw[h7.o],ci,g3,d2⟩;clear g3 d2 h7 i6 j8;obtain⟨j,j2,rfl,rfl,b1,d4⟩:=hrel;by_cases ab:j<n
 .have b6:j<l:=iF;obtain⟨X,sp,E,D,z,I,a5⟩:=b1.o;obtain⟨q,F⟩:=ay ((X2 k (l.take j)).length);have a1:=dK b6;have a2:=ZsY b6;have G:=Zs7 k (l.take j) l[j];rw[<-a1] at G;obtain⟨t0,t1⟩:=i1.o _ (dt b6);obtain⟨⟨t,u⟩,hx⟩:=ay l[j];rw[hx] at a2 G t0 t1;simp only at a2 G t0 t1;have Q:(cv (X2 k (l.take j))).length=q*2:=(by rw[MW,F]);rw[F] at I;have R:∀i:Nat,E[i]? =E.toList[i]? :=λi=>Array.getElem?_toList.symm;have b5:=D.cell (j*2);have b4:=D.cell (j*2+1);rw[R,z,a2] at b5 b4;have a3:(cv (X2 k (l.take j))++X).length=j*2:=(by rw[Vab,Q,I]);rw[er,pO O,a3] at b5 b4;simp at b5 b4;have k9:(j:Int)<n:=O;have l0:(0:Int)<=j:=O;have lg:=D.lt;have f8:=J (h6.o _ d4.o t u t0 t1);have d7:B<=wr:=O;obtain⟨f5,M,a6⟩:=bD (d4.o.alloc d7 (.cells #[t,u] 68)) (Bk.new wr 68 #[t,u]) (D.alloc (.cells #[t,u] 68));have c8:=J (h6.o _ f5.o t u t0 t1);by_cases a8:t % k=0
  .rw[dd a8] at c8;rw[Vag a8] at G;obtain⟨c6,c7,b0,rfl⟩:∃c6 c7 b0,X=c6::c7::b0:=by rcases X with _|⟨c6,X⟩;simp at a5;rcases X with _|⟨c7,b0⟩;simp at a5;exact⟨c6,c7,b0,rfl⟩
   have g4:Hid ((X2 k (l.take (j+1))).length=q+1):=J (by rw[G,Vab,F];rfl);have f2:q<n:=(by rw[gd,gd] at I;omega);have b3:Hid (∀W,Bk W g 68 ((E.setIfInBounds (q*2) t).setIfInBounds (q*2+1) (.string u))->IQ W g k l (j+1)):=J (λW e8=>by refine⟨b0++[.int .i64 t,.string u],sp,_,e8,?_,?_,?_⟩;rw[Array.toList_setIfInBounds,Array.toList_setIfInBounds,z,<-Q,G,a2];simp only[er,jw];rw[Zt6];have:cv (X2 k (l.take j)++[(t,u)])=cv (X2 k (l.take j))++[.int .i64 t,.string u]:=ZlX _ _;rw[this];simp;rw[g4.o,Vab];simp only[gd,xa] at I⊢;omega;rw[Vab];simp);have h2:∃y,E[q*2]? =some y:=⟨c6,by rw[R,z,er,er,pO O,Q,fh];rfl⟩;have h3:∃y,E[q*2+1]? =some y:=⟨c7,by rw[R,z,er,er,pO O,Q,Nat.add_sub_cancel_left];rfl⟩;have h9:=J h2;have i0:=J h3;rw[F];clear I a5 z D Q a1 a2 G hx a3 R a8 F h2 h3 b1 b6 t0 t1 f8;go_wp21;refine aP c8.o λk3 aa=>?_;have a4:=a6.o.below aa a6.o.lt;obtain⟨l3,b8⟩:=h9.o;obtain⟨l5,b9⟩:=i0.o;have j5:=a4.cell (q*2);have k1:=a4.cell (q*2+1);have f0:=a4.frozen (q*2);have f1:=a4.frozen (q*2+1);rw[b8] at j5;rw[b9] at k1;have d5:=M.o.below aa M.o.lt;have j7:=d5.cell 0;have n1:=d5.cell 1;simp at j7 n1;have ln:=d5.lt;have j6:=a4.lt;have e6:=J (b3.o _ ((a4.put (q*2) t).put (q*2+1) (.string u)));have e4:=J (((f5.o.trans (aa.mono (co d7 (by simp)))).setCell (p:=⟨g,q*2,none⟩) c9 t).setCell (p:=⟨g,q*2+1,none⟩) c9 (.string u));have c3:(0:Int)<=q:=O;have k4:(q:Int)<n:=O;clear aa b3 a4 d5 b8 b9 b5 b4 a6 M;go_wp2;refine⟨⟨j+1,ab,by rw[g4.o];go_num,ci,e6,e4⟩,?_⟩;simp[intOf]<;>omega
  rw[Vai a8] at c8;rw[Vae a8] at G;have b3:Hid (∀W,Bk W g 68 E->IQ W g k l (j+1)):=J (λW e8=>by refine⟨X++[.int .i64 t,.string u],sp,E,e8,?_,?_,?_⟩;rw[z,G,a2];simp;rw[G,F,Vab];exact fj;rw[Vab];omega);have i7:Hid ((X2 k (l.take (j+1))).length=(X2 k (l.take j)).length):=J (by rw[G]);clear I a5 z D Q a1 a2 G hx a3 R a8 F b1 b6 t0 t1 f8;go_wp21;refine aP c8.o λk3 aa=>?_;have e6:=J (b3.o _ (a6.o.below aa a6.o.lt));have e4:=J (f5.o.trans (aa.mono (co d7 (by simp))));clear aa b3 b5 b4 a6 M;go_wp2;refine⟨⟨j+1,ab,by rw[i7.o],ci,e6,e4⟩,?_⟩;simp[intOf]<;>omega
 have i9:j=n:=O;subst i9;obtain⟨X,sp,E,D,z,I,a5⟩:=b1.o;rw[d' Fp] at z I⊢;obtain⟨q,F⟩:=ay ((X2 k l).length);rw[F] at I⊢;have Q:(cv (X2 k l))=q*2:=(by rw[MW,F]);have R:∀i:Nat,E[i]? =E.toList[i]? :=λi=>Array.getElem?_toList.symm;have f2:q<j:=O;have c4:j*2<=E.toList.length:=(by rw[z];simp only[Vab];omega);have g9:(Builtin.zeroCells #[Value.int .i64 0,Value.string ByteArray.empty] (j-q)).toList=(j-q)*2:=Ztv _ _;have k7:=Zsh (P:=prog) wr 50 68 0 (.agg #[(0:Int),ByteArray.empty]) underlying50 (λw=>dw) g (q*2) (j-q) (cap-q) O (Ztw _) (λi hi=>by have l2:i<(j-q)*2:=(by rw[<-g9];exact hi);rw[D.cell,R,fb O];rfl) (λi hi=>D.frozen _);have f7:=ZsT (xs:=cv (X2 k l)) D (by rw[z,er,er]);have h5:At (wr.setCells g (q*2) (Builtin.zeroCells #[Value.int .i64 0,Value.string ByteArray.empty] (j-q)).toList) (some ⟨g,0,none⟩) (cv (X2 k l)):=λi hi=>by obtain⟨b,o,e,c5,j1⟩:=f7 i hi;injection e with e;injection e with d3 a7;subst d3 a7;refine⟨g,0,rfl,Vas c5 (ZrM (S:=only g) rfl _ (q*2) (Fr.refl (only g) wr)).size,?_⟩;rw[World.cell?_setCells_out g _ _ _ _ (λ_ _=>.inl (by rw[Q] at hi;exact dz))];exact j1
 have e5:Hid (∃A k',(Ending.returned (.slice (some (g,0)) q cap):Ending)=.returned (.slice A (X2 k l) k')/\At (wr.setCells g (q*2) (Builtin.zeroCells #[Value.int .i64 0,Value.string ByteArray.empty] (j-q)).toList) A (cv (X2 k l))/\(∀b o,A=some ⟨b,o,none⟩->B<=b)/\Below B wb (wr.setCells g (q*2) (Builtin.zeroCells #[Value.int .i64 0,Value.string ByteArray.empty] (j-q)).toList)):=J (by rw[F];exact⟨_,_,rfl,h5,(λb o e=>by injection e with e;injection e with e;omega),ZrL c9 _ _ d4.o⟩);have k4:(q:Int)<=j:=O;have c3:(0:Int)<=q:=O;have k6:(j:Int)<=cap:=O;have j3:(q:Int)<=cap:=O;have l1:q<=cap:=O;clear b1 z I a5 Q R c4 g9 f7 h5 D d4 F c9 j2;go_wp2;go_returns;exact e5.o
