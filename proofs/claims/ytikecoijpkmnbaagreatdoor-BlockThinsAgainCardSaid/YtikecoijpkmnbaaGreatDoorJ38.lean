import Derived.Test.YtikecoijpkmnbaaGreatDoorJ28
import Derived.Test.YtikecoijpkmnbaaGreatDoorJ37
set_option linter.all false
set_option maxRecDepth 100000
set_option maxHeartbeats 0
section
variable{P Q:Prop}
theorem Qe(h:P:=by simp[h]):P:=h
theorem yC(h:P:=by rw[u.o,g];rfl):P:=h
theorem E7(h:P:=by go_wp2;go_returns;exact⟨Z4 I.o.symm,y.o⟩):P:=h
theorem E9(h:P:=by go_wp2;go_returns;exact⟨Z4 I.o.symm,a3.o⟩):P:=h
theorem Rh(h:P:=by unfold inT at a1;simp only[Ca,uJ] at a1;omega):P:=h
theorem PH(h:P:=by unfold ko text;rw[Vae (by simp),Vae (by simp)];rfl):P:=h
theorem EH(h:P:=by clear h0 g l;go_wp2;refine⟨⟨k+1,ab,by go_num,by rw[q.o],a1⟩,?_⟩;simp[intOf]<;>omega):P:=h
theorem Oy(h:P:=by go_wp2;refine⟨⟨k+1,y,ab,by go_num,rfl,J (λh=>by omega),g,J a3.o⟩,?_⟩;simp[intOf]<;>omega):P:=h
end
namespace Go.Proofs.Y
open Tryz Wv Go.RowKit
variable{A:Wto}{st:List (Int×Int)}{w:aq}
theorem Dk (p:At w A (pv st)) (k:Nat) (h:k<st):∃b o,A=some ⟨b,o,none⟩/\w.cell? ⟨b,o+k*2,none⟩=some (.int .i64 st[k].1)/\w.cell? ⟨b,o+k*2+1,none⟩=some (.int .i64 st[k].2):=by have q:=zf st k h;obtain⟨b,o,l,_,c0⟩:=p.get (k*2) _ q.1;obtain⟨u,y,g,_,c1⟩:=p.get (k*2+1) _ q.2;rw[l] at g;injection g with g;injection g with h1 t;subst h1;subst t;exact⟨b,o,l,c0,c1⟩
theorem JJ (E:At w A (pv st)) (n cap:Nat) (F:n=st) (S:n<=9223372036854775807):
  Calls prog 62 #[(A,n,cap)] w (bM w (fN st)):=by
 obtain⟨Ha,a0,M⟩:=bD E F (λa b W=>Uo a b W);have u:Hid (fN st=(st.all dS&&decide (st.length<=64))):=J rfl;clear E F;go_in;go_wp2;go_loopw [7] (λt wr=>∃k:Nat,k<=n/\t=k/\Hid ((st.take k).all dS=true)/\Hid (Below w w wr)) (λt _=>(n-intOf t).toNat);exact⟨0,cf _,rfl,J rfl,J (bf _ _)⟩;obtain⟨k,a4,rfl,D,hb⟩:=hrel;by_cases ab:k<n
 .have z:k<st:=iF;obtain⟨a1,a5,rfl,c0,c1⟩:=Dk (Ha.o.below hb.o) k z;have B:st.take (k+1)=st.take k++[st[k]]:=dK z;have G:st[k]∈st:=dt _;obtain⟨⟨a,c⟩,hs⟩:=ay st[k];rw[hs] at c0 c1 B G;simp only at c0 c1;have g:=J (hb.o.alloc hb.o.size (.cells #[a,c] 57));have l:=J (M.o a c);have a2:(0:Int)<=k:=O;have a3:(k:Int)<n:=O;cases p:dS (a,c);.have I:Hid (fN st=false):=J (by rw[u.o,Ca];left;rw[Vc5];exact⟨_,G,by rw[p];decide⟩);rw[p] at l;go_wp21;refine aP (l.o _) λw1 q=>?_;have y:=J (g.o.trans (q.mono g.o.size));exact E7
  have R:Hid ((st.take (k+1)).all dS=true):=J (by rw[B,List.all_append,D.o];simp[p]);rw[p] at l;go_wp21;refine aP (l.o _) λw1 q=>?_;have y:=J (g.o.trans (q.mono g.o.size));go_wp2;refine⟨⟨k+1,ab,ci,R,y⟩,?_⟩;simp[intOf]<;>omega
 have Q:k=n:=O;subst Q;have I:Hid (fN st=decide ((k:Int)<=64)):=J (by have h:=D.o;rw[d' og] at h;rw[u.o,h,<-a0.o,Bool.true_and];simp only[decide_eq_decide];omega);go_wp2;go_returns;exact⟨Z4 I.o.symm,hb.o⟩
end Go.Proofs.Y
namespace Wv
open Go.Proofs.Tryz Go Go.RowKit
theorem ZgZ (dv:ax->Bool) (st:List (Int×Int)) (vs:a') (k:Nat) (h:k<st) (g:k<vs):lI dv (st.drop k) (vs.drop k)=(fO dv st[k] (aH vs[k])&&lI dv (st.drop (k+1)) (vs.drop (k+1))):=by rw[kw h,kw g];rfl
end Wv
namespace Go.Proofs.Y
open Tryz Wv Go.RowKit
section
variable{A:Wto}{l:a'}{st:List (Int×Int)}{v:aI}{w:aq}
def eN (l:a'):List aI:=l.map Value.string
theorem ZnT (l:a') (k:Nat) (h:k<l):(eN l)[k]? =some (.string l[k]):=by rw[eN,jX,fb h];rfl
theorem QB (g:At w A (eN l)) (k:Nat) (h:k<l):∃b o,A=some ⟨b,o,none⟩/\b<w.heap.size/\w.cell? ⟨b,o+k,none⟩=some (.string l[k]):=
 g.get k _ (ZnT l k h)
theorem Below.cellAt {w':aq} {B:Nat} (h:Below B w w') {p:Addr} (k:p.block<B) (g:w.cell? p=some v):w'.cell? p=some v:=by rw[World.cell?_of_block (h.block _ k)];exact g
theorem Um {W X:aq} {g p:Nat} {a c:Int} {v:aT} (k:W.heap=(w.alloc (.cells #[a,c] 57)).heap) (z:g<w) (y:w.cell? (g,p)=v) (hb:Below W W X):
  X.cell? (w,0)=a/\X.cell? (w,1)=c/\X.cell? (g,p)=v:=by
 have t:Bk W w 57 #[a,c]:=by unfold Bk;rw[k];exact Bk.new w 57 #[a,c]
 have l:=t.below hb t.lt;have u:W.cell? (g,p)=v:=by have q:(w.alloc (.cells #[a,c] 57)).cell? (g,p)=v:=Below.cellAt (((bf w w).alloc aU _)) z y;simp only[World.cell?,k] at q⊢;exact q
 exact⟨l.cell 0,l.cell 1,Below.cellAt hb (by rw[k];exact fj) u⟩
theorem JK {B:Wto} {vs:a'} (a2:At w A (pv st)) (b4:At w B (eN vs)) (b3:gl w) (a8:∀s∈vs,s.size<=1099511627776) (n cap m c4:Nat) (a3:n=st) (b2:m=vs) (c3:n<=9223372036854775807) (d6:m<=9223372036854775807):
  Calls prog 34 #[(A,n,cap),(B,m,c4)] w (bM w (hQ Z3 st vs)):=by
 obtain⟨G,Ha,b9,b8,a0,I⟩:=fA (JJ a2 n cap a3 c3) a2 b4 b3 a3 b2;have u:Hid (hQ Z3 st vs=(fN st&&lI Z3 st vs)):=J rfl;have b7:=J (λa b (s:aT) (h:s∈vs) W (a1:gl W)=>Sp a b (aH s) (by rw[Z2];exact a8 s h) a1);clear a2 b4 b3 a8 a3 b2;cases g:fN st;.rw[g] at G;have z:Hid (hQ Z3 st vs=false):=J yC;clear g;go_in;go_wp21;refine aP G.o λw1 t=>?_;go_wp2;go_returns;exact⟨Z4 z.o.symm,t⟩
 rw[g] at G;have z:Hid (hQ Z3 st vs=lI Z3 st vs):=J yC;clear g;by_cases c7:m=n
 .subst c7;go_in;go_wp21;refine aP G.o λw1 t=>?_;have b0:=J t;clear t;go_wp2;go_loopw [19] (λa5 wr=>∃k:Nat,k<=m/\a5=k/\Hid (lI Z3 st vs=lI Z3 (st.drop k) (vs.drop k))/\Hid (Below w w wr)) (λa5 _=>(m-intOf a5).toNat);exact⟨0,cf _,rfl,J rfl,b0⟩;clear b0;obtain⟨k,d4,rfl,q,hb⟩:=hrel;by_cases ab:k<m
  .have M:k<st:=iF;have Q:k<vs:=Fs;obtain⟨d1,d5,rfl,c0,c1⟩:=Dk (Ha.o.below hb.o) k M;obtain⟨b1,a4,rfl,b6,d0⟩:=QB (b9.o.below hb.o) k Q;have F:=ZgZ Z3 st vs k M Q;have l:=J (b7.o st[k].1 st[k].2 vs[k] (dt _));obtain⟨⟨a,c⟩,hs⟩:=ay st[k];rw[hs] at c0 c1 F l;simp only at c0 c1 l;rw[Zc] at l;generalize vs[k]=v at*;have a6:=J (λ(W X:aq) (a1:W.heap=(wr.alloc (.cells #[a,c] 57)).heap) (h:Below W.heap.size W X)=>Um (p:=a4+k) a1 b6 d0 h);have D:=J (hb.o.alloc hb.o.size (.cells #[a,c] 57));have h0:=a6.o (wr.alloc (.cells #[a,c] 57)).drew (wr.alloc (.cells #[a,c] 57)).drew rfl (bf _ _);have b5:=J (λ(X:aq) h=>a6.o (wr.alloc (.cells #[a,c] 57)).drew X rfl h);have a7:=J (b8.o.below D.o.drew);have d2:(0:Int)<=k:=O;have d3:(k:Int)<m:=O;cases y:fO Z3 (a,c) (aH v)
   .rw[y] at l;have E:Hid (hQ Z3 st vs=false):=J (by rw[z.o,q.o,F,y];rfl);clear F hs y M Q hb q;go_wp2
    go_region_held3 (λX=>X.cell? (wr,0)=a/\X.cell? (wr,1)=c/\X.cell? (b1,a4+k)=v) (first|with_reducible assumption) (first
     |(go_at_call 52;with_reducible refine(l.o _ a7.o).mono ?_;rintro r c8 ⟨rfl,aa⟩;have S:=b5.o _ aa;have R:=J (D.o.drew.trans (aa.mono D.o.drew.size));clear aa));clear h0 S;go_wp2;go_returns;exact⟨Z4 E.o.symm,R.o⟩
   rw[y] at l;have c6:Hid (lI Z3 st vs=lI Z3 (st.drop (k+1)) (vs.drop (k+1))):=J (by rw[q.o,F,y];rfl);clear F hs y M Q hb q;go_wp2
   go_region_held3 (λX=>X.cell? (wr,0)=a/\X.cell? (wr,1)=c/\X.cell? (b1,a4+k)=v) (first|with_reducible assumption) (first
    |(go_at_call 52;with_reducible refine(l.o _ a7.o).mono ?_;rintro r c8 ⟨rfl,aa⟩;have S:=b5.o _ aa;have R:=J (D.o.drew.trans (aa.mono D.o.drew.size));clear aa));clear h0 S;go_wp2;refine⟨⟨k+1,ab,ci,c6,R⟩,?_⟩;simp[intOf]<;>omega
  have c5:k=m:=O;subst c5;have E:Hid (hQ Z3 st vs=true):=J (by rw[z.o,q.o,oc og,oc Fq];rfl);clear q;go_wp2;go_returns;exact⟨Z4 E.o.symm,hb.o⟩
 have c9:((m:Int) !=n)=true:=eV;have E:Hid (hQ Z3 st vs=false):=J (by rw[z.o];cases h:lI Z3 st vs;rfl;have:=A8 h;have:=a0.o;have:=I.o;omega);go_in;go_wp21;refine aP G.o λw1 t=>?_;go_wp2;go_returns;exact⟨Z4 E.o.symm,t⟩
theorem Qu:(prog.info? 9).map (λi=>(i.zero,i.size,i.bytes))=some (some (.string ByteArray.empty),1,16):=dw
def sV (w:aq) (v:aI) (l:a'):Prop:=∃A cap,v=.slice A l cap/\At w A (eN l)
theorem sV.nil (w:aq):sV w (.slice none 0 0) []:=⟨none,0,rfl,At.nil _ _⟩
theorem Zn2 {base e:Nat} (h:w.ownsRow base e 1 v l (eN l)):sV w v l:=E6
theorem X3 (l:a') (s:aT):eN (l++[s])=eN l++[.string s]:=by unfold eN;rw[jy];rfl
theorem Zgc (y:At w A (pv st)) (n cap:Nat) (z:n=st) (a5:n<=9223372036854775807):
  Calls prog 48 #[(A,n,cap)] w λx w'=>∃v,x=.returned v/\sV w' v (xD st)/\Below w w w':=by
 obtain⟨p,Ha,a0,a3⟩:=dc (JJ y n cap z a5) y z (λa b W=>Zh2 a b W);have u:Hid (xD st=if fN st=false then[] else st.map (λs=>bs (qN s))):=J rfl;have a2:=J (λh=>(Dg (st:=st)).1 h);clear y z;cases g:fN st;.rw[g] at p;have l:Hid (xD st=[]):=J yC;go_in;go_wp21;refine aP p.o λw1 t=>?_;go_wp2;go_returns;exact⟨_,rfl,by rw[l.o];exact sV.nil _,t⟩
 rw[g] at p;have l:Hid (xD st=st.map (λs=>bs (qN s))):=J yC;obtain⟨b2,a1⟩:=a2.o g;have b8:=J b2;have c9:n<=64:=(by rw[a0.o];exact a1);go_in;go_wp21;refine aP p.o λw1 t=>?_;have b1:=J t;go_wp2;go_loopw [3,11] (λs3 B wr=>∃k:Nat,k<=n/\B=k/\Hid (wr.ownsRow w 9 1 s3 k (eN ((st.take k).map (λs=>bs (qN s)))))/\Hid (Below w w wr)) (λ_ B _=>(n-intOf B).toNat);exact⟨0,cf _,rfl,J Zl,b1⟩;obtain⟨k,c8,rfl,q,hb⟩:=hrel;obtain⟨A5,b6,c3,_⟩:=Zh q.o;subst c3;by_cases ab:k<n
 .have E:k<st:=iF;obtain⟨c5,d1,rfl,c0,c1⟩:=Dk (Ha.o.below hb.o) k E;have F:st.take (k+1)=st.take k++[st[k]]:=dK E;have I:=b8.o st[k] (dt _);obtain⟨⟨a,c⟩,hs⟩:=ay st[k];rw[hs] at c0 c1 F I;simp only at c0 c1;have M:=J (a3.o a c);rw[I,Vag rfl] at M;have D:=J (hb.o.alloc hb.o.size (.cells #[a,c] 57));have a6:=J (Z6 q.o (Fr.of_below (S:=nob) ((bf wr wr).alloc aU (.cells #[a,c] 57))) (λ_ _ f=>f));have b7:=J (show eN ((st.take (k+1)).map (λs=>bs (qN s)))=eN ((st.take k).map (λs=>bs (qN s)))++[.string (bs (qN (a,c)))] by rw[F,jy,<-X3];rfl);have c6:(0:Int)<=k:=O;have c7:(k:Int)<n:=O;generalize bs (qN (a,c))=X at*;go_wp21;refine aP (M.o _) λc4 aa=>?_;have b0:=Z6 a6.o (Fr.of_below (S:=nob) aa) (λ_ _ f=>f);have Q:=D.o.trans (aa.mono D.o.size);obtain⟨d2,d3,a8,b3,a7,_⟩:=ZU (P:=prog) 23 9 _ _ underlying23 Qu rfl (w:=c4) b0 Q Q.size (.string X) rfl fU O;have b4:=J a8;have G:=J b3;rw[<-b7.o] at G;have b9:=J a7
  go_wp2_with (
   at_builtin;refine Z5 iG rfl _ _ _ rfl _ _ (by rfl) (by rfl) b4.o ?_);refine⟨⟨k+1,ab,ci,G,b9⟩,?_⟩;simp[intOf]<;>omega
 have b5:k=n:=O;subst b5;have a4:Hid (sV wr (.slice A5 k b6) (xD st)):=J (by have h:=q.o;rw[d' og,<-l.o] at h;have R:(xD st)=k:=(by rw[l.o,Vah,<-a0.o]);rw[<-R] at h;have:=Zn2 h;rw[R] at this;exact this);go_wp2;go_returns;exact⟨_,rfl,a4.o,hb.o⟩
end
variable{A:Wto}{L:List (List (Int×aT))}{l:List (Int×Int)}{w:aq}
def pN (w:aq) (A:Wto) (L:List (List (Int×aT))):Prop:=
 ∀i (h:i<L.length),∃b o B cap,A=some ⟨b,o,none⟩/\b<w.heap.size/\w.cell? ⟨b,o+i,none⟩=some (.slice B L[i].length cap)/\At w B (cv L[i])
theorem pN.below {w':aq} (h:pN w A L) (hb:Below w w w'):pN w' A L:=by intro i hi;obtain⟨b,o,B,cap,k,ab,h1,g⟩:=h i hi;exact⟨b,o,B,cap,k,Vas ab hb.size,(hb.cell (p:=⟨b,_,none⟩) ab).trans h1,g.below hb⟩
theorem yh.b (h:yh w A L):pN w A L:=λi hi=>by obtain⟨b,o,B,cap,k,ab,h1,g,l⟩:=h i hi;exact⟨b,o,B,cap,k,ab,h1,g⟩
theorem ZV (M:At w A (pv l)) (k:Nat) (h:k<l):∃b o,A=some ⟨b,o,none⟩/\b<w.heap.size/\w.cell? ⟨b,o+k*2,none⟩=some (.int .i64 l[k].1)/\w.cell? ⟨b,o+k*2+1,none⟩=some (.int .i64 l[k].2):=by have q:=zf l k h;exact IK
theorem Zmx (st:List (Int×Int)) (n:Nat) (g:n=st):(((xD st).length:Int)==(n:Int))=fN st:=by subst g;unfold xD;cases k:fN st;rw[Vag rfl,lL];intro h;have:st=[]:=ia (by simp only[xa] at h;omega);subst this;cases k;rw[Vae aY,Vah,ID]
theorem JU {st:List (Int×Int)} (k:At w A (pv st)) (n cap:Nat) (g:n=st) (t:n<=9223372036854775807):
  Calls prog 18 #[(A,n,cap)] w (bM w (fN st)):=by have p:=J (Zgc k n cap g t);have l:=J (Zmx st n g);clear k g;go_in;go_wp21;refine(p.o).mono ?_;rintro x w1 ⟨v,rfl,⟨A2,y,rfl,u⟩,hb⟩;have q:=J hb;clear hb u;go_wp2;go_returns;exact⟨Z4 l.o,q.o⟩
theorem Gj (a c:Int) (q:Bool) (lv:Int) (w:aq):
  Calls prog 21 #[.agg #[a,c],q,lv] w (bM w (hasS (a,c) q lv)):=by
 have k:=J ((bf w w).alloc aU (.cells #[a,c] 57));have g:Hid (hasS (a,c) q lv=(!q&&((lv==0)||(lv==1)&&(a !=3)))):=J rfl;generalize hasS (a,c) q lv=R at*
 cases q<;>cases h0:(lv==0)<;>cases h1:(lv==1)<;>cases l:(a !=3)<;>(
  rw[h0,h1,l] at g;go_in;go_wp2;go_returns;exact⟨Z4 g.o.symm,k.o⟩)
theorem NN {f t a:Int} {k:Nat} (h:k<l):su f t a (l.drop k)=(decide (f+1<=l[k].1)&&decide (l[k].1<l[k].2)&&decide (l[k].2<=t+1)&&decide (a<l[k].1)&&su f t l[k].2 (l.drop (k+1))):=by rw[kw h];rfl
theorem Ty (G:At w A (pv l)) (n cap:Nat) (E:n=l) (a2:n<=9223372036854775807) (f t:Int) (b1: -1<=f) (a4:f<=4398046511104) (b3: -1<=t) (b8:t<=4398046511104):
  Calls prog 35 #[f,t,(A,n,cap)] w (bM w (mQ f t l)):=by
 have Ha:=J G;have a0:=J E;have u:Hid (mQ f t l=(su f t f l&&decide (n<=16))):=J (by rw[E];rfl);have b4:IntKind.i64.wrap (f+1)=f+1:=lO;have b5:IntKind.i64.wrap (t+1)=t+1:=lO;clear G E;go_in;go_wp2;go_loopw [7,13] (λa1 F wr=>∃(k:Nat) (q:Int),k<=n/\F=k/\a1=q/\Hid (k=0->q=f)/\Hid (su f t f l=su f t q (l.drop k))/\Hid (Below w w wr)) (λ_ F _=>(n-intOf F).toNat);exact⟨0,f,cf _,rfl,rfl,J (λ_=>rfl),J rfl,J (bf _ _)⟩;obtain⟨k,q,b2,rfl,rfl,M,D,hb⟩:=hrel;by_cases ab:k<n;.have B:k<l:=iF;obtain⟨a5,b6,rfl,b7,c0,c1⟩:=ZV (Ha.o.below hb.o) k B;have z:=NN (f:=f) (t:=t) (a:=q) B;obtain⟨⟨x,y⟩,hs⟩:=ay l[k];rw[hs] at c0 c1 z;simp only at c0 c1 z;have p:=J (D.o.trans z);have a3:=J (hb.o.alloc hb.o.size (.cells #[x,y] 93));have a6:(0:Int)<=k:=O;have b0:(k:Int)<n:=O;have S:k=0->q=f:=M.o;clear z hs B D M;by_cases Q:x<f+1;have I:Hid (mQ f t l=false):=J (by rw[u.o,p.o,Vai (show ¬f+1<=x by omega)];rfl);exact E9;by_cases c2:y<=x;have I:Hid (mQ f t l=false):=J (by rw[u.o,p.o,Vai (show ¬x<y by omega)];simp);exact E9;by_cases a7:t+1<y;have I:Hid (mQ f t l=false):=J (by rw[u.o,p.o,Vai (show ¬y<=t+1 by omega)];simp);exact E9;by_cases a8:(0:Int)<k;by_cases a9:x<=q;have I:Hid (mQ f t l=false):=J (by rw[u.o,p.o,Vai (show ¬q<x by omega)];simp);exact E9;have g:Hid (su f t f l=su f t y (l.drop (k+1))):=J (by rw[p.o,dd (show f+1<=x by omega),dd (show x<y by omega),dd (show y<=t+1 by omega),dd (show q<x by omega)];rfl);exact Oy;have g:Hid (su f t f l=su f t y (l.drop (k+1))):=J (by rw[p.o,dd (show f+1<=x by omega),dd (show x<y by omega),dd (show y<=t+1 by omega),dd (show q<x by have:=S O;omega)];rfl);exact Oy
 have R:k=n:=O;subst R;have I:Hid (mQ f t l=decide ((k:Int)<=16)):=J (by rw[u.o,D.o,List.drop_of_length_le og];show(true&&decide (k<=16))=_;rw[Bool.true_and,decide_eq_decide];omega);go_wp2;go_returns;exact⟨Z4 I.o.symm,hb.o⟩
end Go.Proofs.Y
namespace Wv
open Go.Proofs.Tryz Go Go.RowKit Go.Proofs.Y
variable{B:Wto}{l:List (Int×aT)}{xs:List aI}
def pm (w:aq) (xs:List aI) (L:List (List (Int×aT))):Prop:=
 xs.length=L/\∀i (h:i<L.length),∃B cap,xs[i]? =some (.slice B L[i].length cap)/\At w B (cv L[i])
theorem pm.below {w w':aq} {L:List (List (Int×aT))} (h:pm w xs L) (hb:Below w w w'):pm w' xs L:=
 ⟨h.1,λi hi=>by obtain⟨B,cap,h1,g⟩:=h.2 i hi;exact⟨B,cap,h1,g.below hb⟩⟩
theorem pm.keep {w w':aq} {S:Nat->Prop} {L:List (List (Int×aT))} (h:pm w xs L) (l:Fr S w w') (k:∀i (hi:i<L.length),L[i]≠[]->∀(B:Wto) (n c:Nat),xs[i]? =some (Value.slice B n c)->∀b o,B=some ⟨b,o,none⟩->¬S b):pm w' xs L:=
 ⟨h.1,λi hi=>by obtain⟨B,cap,h1,g⟩:=h.2 i hi;refine⟨B,cap,h1,?_⟩;by_cases h0:L[i]=[];rw[h0];exact At.nil _ _;exact g.keep l (k i hi h0 B _ _ h1)⟩
theorem Zoo {w:aq} (h:At w B (cv l)) (h0:l≠[]) (b o:Nat) (g:B=some ⟨b,o,none⟩):b<w:=by
 match l,h0 with
 |c::r,_=>obtain⟨k,q,h1,p,_⟩:=h 0 (by unfold cv;simp);rw[g] at h1;injection h1 with h1;injection h1 with h1 _;omega
theorem pm.nil (w:aq):pm w [] []:=⟨rfl,λi hi=>absurd hi (vL _)⟩
theorem pm.snoc {w:aq} {L:List (List (Int×aT))} (h:pm w xs L) (cap:Nat) (u:At w B (cv l)):pm w (xs++[.slice B l cap]) (L++[l]):=by refine⟨by rw[Vab,Vab,h.1];rfl,λi hi=> ?_⟩;rw[Vab,pg] at hi;rcases Nat.lt_or_ge i L.length with h1|h1;obtain⟨k,p,q,t⟩:=h.2 i h1;grind;have g:i=L.length:=O;subst g;refine⟨B,cap,?_,?_⟩;rw[pO (by rw[h.1];grind),h.1,fh];simp;grind
theorem pm.chb {w:aq} {A:Wto} {L:List (List (Int×aT))} (h:pm w xs L) (g:At w A xs):pN w A L:=by intro i hi;obtain⟨B,cap,h1,k⟩:=h.2 i hi;obtain⟨b,o,l,ab,p⟩:=g.get i _ h1;grind
def rf (Y:Nat) (w:aq) (A:Wto) (L:List (List (Int×aT))):Prop:=∃xs,pm w xs L/\At w A xs/\(∀b o,A=some ⟨b,o,none⟩->Y<=b)/\∀(i:Nat) (hi:i<L),L[i]≠[]->∀(B:Wto) (n c:Nat),xs[i]? =some (Value.slice B n c)->∀b o,B=some ⟨b,o,none⟩->Y<=b
section
variable {Y Y':Nat} {w w':aq} {A:Wto} {L:List (List (Int×aT))}
theorem rf.b (h:rf Y w A L):pN w A L:=by obtain⟨xs,h1,g,_⟩:=h;exact h1.chb g
theorem rf.keep {S:Nat->Prop} (h:rf Y w A L) (g:Fr S w w') (u:∀k,S k->k<Y):rf Y w' A L:=by obtain⟨xs,h1,l,p,q⟩:=h;exact⟨xs,h1.keep g (λi hi h0 B n c e b o t k=>aO),l.keep g (λb o e k=>aO),p,q⟩
theorem rf.below (h:rf Y w A L) (hb:Below w w w'):rf Y w' A L:=h.keep (Fr.of_below (S:=nob) hb) (λ_ k=>k.elim)
theorem rf.mono (h:rf Y w A L) (g:Y'<=Y):rf Y' w A L:=by obtain⟨xs,h1,l,p,q⟩:=h;exact⟨xs,h1,l,λb o e=>co g (p b o e),λi hi h0 B n c e b o k=>co g (q i hi h0 B n c e b o k)⟩
end
end Wv
namespace Go.Proofs.Y
open Tryz Wv Go.RowKit
theorem WL (d:aT) (a b:Nat):d.extract a (a+b)=bs (((aH d).drop a).take b):=by apply xc;apply pS.1;simp only[bs,aH,ByteArray.data_extract,Array.toList_extract,List.extract_eq_take_drop,Cc];rw[show a+b-a=b from by exact O]
theorem ZaU (d:aT) (hd:d.size<=1099511627776) (o l:Int) (w:aq):
  Calls prog 364 #[d,o,l] w λx w'=>x=.returned (.tuple (if inT d.size (o,l)=false then #[.string ⟨#[]⟩,(2:Int)] else #[bs (tI (aH d) (o,l)),(0:Int)]))/\w=w':=by cases a1:inT d.size (o,l);rw[Vag rfl];have t:o<0\/l<0\/(d.size:Int)<o\/(d.size:Int)-o<l:=Rh;clear a1;by_cases h1:o<0;exact xf;by_cases g:l<0;exact xf;by_cases k:(d.size:Int)<o;exact xf;have p:(d.size:Int)-o<l:=O;exact xf;rw[Vae aY];unfold inT at a1;simp only[gm,Vax] at a1;obtain⟨⟨⟨h1,g⟩,k⟩,p⟩:=a1;obtain⟨a,rfl⟩:=Int.eq_ofNat_of_zero_le h1;obtain⟨b,rfl⟩:=Int.eq_ofNat_of_zero_le g;have q:Hid (bs (tI (aH d) ((a:Int),(b:Int)))=d.extract a (a+b)):=J (WL d a b).symm;have u:¬(a:Int)<0:=O;have y:¬(b:Int)<0:=O;have z:¬(d.size:Int)<a:=O;have B:¬(d.size:Int)-a<(b:Int):=O;rw[q.o];exact xf
theorem ZO {α:Type} {l:List α} {i:Nat} (d:α) (h:i<l):l.getD i d=l[i]:=by rw[pf,fb h];rfl
abbrev iC (f t:Int) (A1:Wto) (n1 k1:Nat) (A2:Wto) (n2 k2:Nat) (A3:Wto) (n3 k3:Nat):Array aI:= #[.int .i64 f,.int .i64 t,.slice A1 n1 k1,.slice A2 n2 k2,.slice A3 n3 k3]
theorem ZhE {w:aq} {A1 A2 A3:Wto} {vs:a'} {ch:List (List dO)} (h1:At w A1 (eN vs)) (G:pN w A2 ch) (f t:Int) (n1 k1 n2 k2 n3 k3:Nat) (a4:n1=vs) (a5:n2=ch) (i:Nat) (D:i<vs) (q:i<ch)
  (b8:n1<=9223372036854775807) (b9:n2<=9223372036854775807) (Q:∀l∈ch,l.length<=9223372036854775807) (g:Int):
  Calls prog 40 #[.agg (iC f t A1 n1 k1 A2 n2 k2 A3 n3 k3),i,g] w (bM w (ti (jU vs i) (fG ch i) g)):=by
 obtain⟨b1,a7,rfl,q1,c1⟩:=QB h1 i D;obtain⟨a2,a8,B,b7,rfl,q2,c2,I⟩:=G i q;have a6:=Q _ (dt q);rw[show jU vs i=vs[i] from ZO _ D,show fG ch i=ch[i] from ZO _ q];generalize vs[i]=b at*;generalize ch[i]=l at*;obtain⟨n,z⟩:=ay l.length;rw[z] at c2 a6;have i0:(0:Int)<=i:=O;have i1:(i:Int)<n1:=O;have b6:(i:Int)<n2:=O;obtain⟨a0,R,a1⟩:=bD z I ((bf w w).alloc aU (.cells (iC f t (some ⟨b1,a7,none⟩) n1 k1 (some ⟨a2,a8,none⟩) n2 k2 A3 n3 k3) 27));clear h1 G Q z I a4 a5 D q;go_in;go_wp2;go_loopw [7,21] (λa9 y wr=>∃(k:Nat) (d:aT),k<=n/\y=k/\a9=.string d/\Hid (d=ti b (l.take k) g)/\Hid (Below w w wr)) (λ_ y _=>(n-intOf y).toNat);exact⟨0,b,cf _,rfl,rfl,J rfl,a1⟩;obtain⟨k,d,b5,rfl,rfl,hd,hb⟩:=hrel;by_cases ab:k<n
 .have E:k<l.length:=xh;obtain⟨b0,c3,rfl,c4,c0,c1⟩:=xx (R.o.below hb.o) k E;have p:=Vp g (l.take k) b l[k];rw[<-dK E,<-hd.o] at p;obtain⟨⟨x,v⟩,hs⟩:=ay l[k];rw[hs] at c0 c1 p;simp only at c0 c1 p;have F:=J (hb.o.alloc hb.o.size (.cells #[x,v] 68));have b3:(0:Int)<=k:=O;have b4:(k:Int)<n:=O;by_cases M:x<=g;.have u:=J (p.trans (Vag M));go_wp2;refine⟨⟨k+1,v,ab,ci,rfl,J u.o.symm,J F.o⟩,?_⟩;simp[intOf]<;>omega
  have u:=J (p.trans (Vae M));go_wp2;refine⟨⟨k+1,d,ab,ci,rfl,J u.o.symm,J F.o⟩,?_⟩;simp[intOf]<;>omega
 have a3:k=n:=O;subst a3;have S:Hid (d=ti b l g):=J (by rw[hd.o,d' og]);go_wp2;go_returns;exact⟨Bc S.o,hb.o⟩
variable{st:List (Int×Int)}{vs:a'}
theorem Zc7 (F G:aI) (w:aq):(Instr.field 100 (.agg #[F,G]) 0).run prog w=.ok F w:=dw
theorem Zq0 (h:hQ Z3 st vs=false):ei Z3 st vs=([],1):=by unfold ei;rw[Vag h]
theorem ZnA (h:hQ Z3 st vs=true) (g:ZJ st vs=[]):ei Z3 st vs=([],0):=by unfold ei;rw[Vae Qe,Vag g]
theorem ZjW {d:ax} (h:hQ Z3 st vs=true) (g:ZJ st vs≠[]) (k:Zo 4 (ZJ st vs)=some d):ei Z3 st vs=(d,0):=by unfold ei;rw[Vae Qe,Vae g,k]
theorem ZjV (h:hQ Z3 st vs=true) (g:ZJ st vs≠[]) (k:Zo 4 (ZJ st vs)=none):ei Z3 st vs=([],9):=by unfold ei;rw[Vae Qe,Vae g,k]
theorem RZ {w:aq} {A B:Wto} (c9:At w A (pv st)) (a4:At w B (eN vs)) (e6:gl w) (d7:∀s∈vs,s.size<=1099511627776) (n cap m f9:Nat) (d1:n=st) (e5:m=vs) (h5:n<=9223372036854775807) (i3:m<=9223372036854775807):
  Calls prog 15 #[(A,n,cap),(B,m,f9)] w (bM w (.tuple #[bs (ei Z3 st vs).1,((ei Z3 st vs).2:Int)])):=by
 have z:=J (JK c9 a4 e6 d7 n cap m f9 d1 e5 h5 i3);cases b4:hQ Z3 st vs;.rw[b4] at z;rw[Zq0 b4];clear c9 a4 e6 d7 d1 e5 b4;go_in;go_wp21;refine aP z.o λw1 E=>?_;exact W66
 rw[b4] at z;have h4:fN st=true/\lI Z3 st vs=true:=by have:(fN st&&lI Z3 st vs)=true:=b4;rwa [gm] at this
 obtain⟨g1,b0⟩:=h4;obtain⟨f8,g9⟩:=Dg.1 g1;have a7:=A8 b0;obtain⟨h7,f6,i4,I,Ha,h3⟩:=fA (λk h b9=>Dh Z3 b0 k h b9) (λk=>Kv b0 k) d1 (show m=st by omega) c9 a4;have g4:=J a7;have i9:n<=64:=O;have f4:=J f8;have d6:=J b4;have i1:m=n:=O;subst i1;have y:Hid (∀x,ei Z3 st vs=x->ei Z3 st vs=x):=J (λ_ h=>h);generalize e3:ei Z3 st vs=X;rw[e3] at y;have d5:=J e3;clear e3 y;clear c9 a4 e6 d7 d1 e5 b4 g1 b0 f8 g9 a7;go_in;go_wp21;refine aP z.o λw1 E=>?_;have f7:=J E;have h9:∀F G W,(Instr.field 100 (.agg #[F,G]) 0).run prog W=.ok F W:=λF G W=>Zc7 F G W;clear E;go_wp2;go_loopw [6,17] (λi2 d3 wr=>∃k:Nat,k<=m/\d3=(k:Int)/\i2=.string (bs (ZJ (st.take k) (vs.take k)))/\Hid (Below w w wr)) (λ_ d3 _=>(m-intOf d3).toNat);exact⟨0,cf _,rfl,by rw[qA,qA];rfl,f7⟩;clear f7 z;obtain⟨k,i8,rfl,rfl,hb⟩:=hrel;by_cases ab:k<m
 .have b7:k<st.length:=Fs;have d2:k<vs.length:=(by rw[g4.o];exact b7);obtain⟨i5,j0,rfl,c0,c1⟩:=Dk (Ha.o.below hb.o) k b7;obtain⟨c5,c3,rfl,g8,d0⟩:=QB (h3.o.below hb.o) k d2;have d8:=JN st vs k b7 d2;have b2:=h7.o k b7 d2;have h8:=(f6.o k).1;obtain⟨g0,f2⟩:=Z60 b2;obtain⟨⟨a,c⟩,hs⟩:=ay st[k];rw[hs] at c0 c1 d8 b2 g0;simp only at c0 c1;generalize vs[k]=v at*;have d4:dS (a,c)=true:=(by unfold fO at b2;rw[gm] at b2;exact b2.1);have i0:a=0\/a=1\/a=2\/a=3:=by rcases XJ d4 with h|⟨h|h|h,_⟩<;>simp at h<;>omega
  have a3:=J (λ(X:aq) (h:Below (wr.alloc (.cells #[a,c] 57)).drew (wr.alloc (.cells #[a,c] 57)).drew X)=>Um (p:=c3+k) (W:=(wr.alloc (.cells #[a,c] 57)).drew) rfl g8 d0 h);have a5:=J ((hb.o.alloc hb.o.size (.cells #[a,c] 57)).drew);have h0:=a3.o (wr.alloc (.cells #[a,c] 57)).drew (bf _ _);have i6:(0:Int)<=k:=O;have i7:(k:Int)<m:=O;have f5:bs (ZJ (st.take (k+1)) (vs.take (k+1)))=bs (ZJ (st.take k) (vs.take k))++bs (ko (a,c) (aH v)):=(by rw[d8,Z9]);have a0:(bs (ZJ (st.take k) (vs.take k))).size+(bs (ko (a,c) (aH v))).size<=9223372036854775807:=(by rw[Z0,Z0];omega);obtain⟨q,z,b8⟩:=bD f5 b2 d4;have b0:(aH v).length<=128:=f2;have f3:=J b0;clear d8 b2 h8 g0 f2 hs f5 d4 b7 d2 hb b0;obtain⟨T,g3⟩:=ay (bs (ZJ (st.take k) (vs.take k)));rw[g3] at q a0⊢;clear g3;rcases i0 with rfl|rfl|rfl|rfl
  .obtain⟨g5,g7⟩:=XI b8.o rfl;simp only at g5 g7;obtain⟨N,rfl⟩:∃N:Nat,c=(N:Int):=⟨c.toNat,O⟩;have a4:=z.o;have g6:isV (aH v)=true:=by unfold fO sD at a4;rw[gm] at a4;have b9:gH (N:Int) (aH v)=true:=a4.2;unfold gH at b9;rw[gm] at b9;exact b9.1
   have a9:=J (λW=>Rz N O W);have y:=J (λW=>ZlJ (aH v) g6 W);rw[Zc] at y;have M:ko (0,(N:Int)) (aH v)=ct (kA (aH v))++ct (kz (aH v)):=(by unfold ko;rw[Vag rfl]);rw[M] at q a0;clear a4 g6 M g5 g7 z b8;generalize bs (ct (kA (aH v))++ct (kz (aH v)))=R at*;have e9:¬9223372036854775807<T.size+R.size:=O;clear a0;go_wp2
   go_region_held3 (λX=>X.cell? (wr,0)=(0:Int)/\X.cell? (wr,1)=N/\X.cell? (c5,c3+k)=v) (first|with_reducible assumption) (first
    |(go_at_call 42;with_reducible refine(a9.o _).mono ?_;rintro r c4 ⟨b1,b3,rfl,_,_,aa⟩;have g:=a3.o _ aa;have u:=J aa;clear aa)
    |(go_at_call 66;with_reducible refine(y.o _).mono ?_;rintro r e8 ⟨rfl,a6⟩;have t:=u.o.trans (a6.mono u.o.size);have l:=a3.o _ t;clear a6;have a1:=J (a5.o.trans (t.mono a5.o.size));clear t));exact EH
  .have a9:=J (λW=>RA c W);have y:=J (λW=>X1 v (by have:=f3.o;rw[Z2] at this;omega) W);have M:ko (1,c) (aH v)=text v:=PH;rw[M] at q a0;clear M z b8;generalize bs (text v)=R at*;have e9:¬9223372036854775807<T.size+R.size:=O;clear a0;go_wp2
   go_region_held3 (λX=>X.cell? (wr,0)=(1:Int)/\X.cell? (wr,1)=c/\X.cell? (c5,c3+k)=v) (first|with_reducible assumption) (first
    |(go_at_call 42;with_reducible refine(a9.o _).mono ?_;rintro r c4 ⟨rfl,aa⟩;have g:=a3.o _ aa;have u:=J aa;clear aa)
    |(go_at_call 75;with_reducible refine(y.o _).mono ?_;rintro r e8 ⟨rfl,a6⟩;have t:=u.o.trans (a6.mono u.o.size);have l:=a3.o _ t;clear a6;have a1:=J (a5.o.trans (t.mono a5.o.size));clear t));exact EH
  .have a9:=J (λW=>RB c W);have y:=J (λW=>X1 v (by have:=f3.o;rw[Z2] at this;omega) W);have M:ko (2,c) (aH v)=text v:=PH;rw[M] at q a0;clear M z b8;generalize bs (text v)=R at*;have e9:¬9223372036854775807<T.size+R.size:=O;clear a0;go_wp2
   go_region_held3 (λX=>X.cell? (wr,0)=(2:Int)/\X.cell? (wr,1)=c/\X.cell? (c5,c3+k)=v) (first|with_reducible assumption) (first
    |(go_at_call 42;with_reducible refine(a9.o _).mono ?_;rintro r c4 ⟨rfl,aa⟩;have g:=a3.o _ aa;have u:=J aa;clear aa)
    |(go_at_call 75;with_reducible refine(y.o _).mono ?_;rintro r e8 ⟨rfl,a6⟩;have t:=u.o.trans (a6.mono u.o.size);have l:=a3.o _ t;clear a6;have a1:=J (a5.o.trans (t.mono a5.o.size));clear t));exact EH
  have a9:=J (λW=>RC c W);have y:=J (λW=>ZlK v W);have M:bs (ko (3,c) (aH v))=⟨#[]⟩:=(by unfold ko;rw[Vae (by simp),Vag rfl];rfl);rw[M] at q a0;clear M z b8;generalize (⟨#[]⟩:aT)=R at y q a0;have e9:¬9223372036854775807<T.size+R.size:=O;clear a0;go_wp2
  go_region_held3 (λX=>X.cell? (wr,0)=(3:Int)/\X.cell? (wr,1)=c/\X.cell? (c5,c3+k)=v) (first|with_reducible assumption) (first
   |(go_at_call 42;with_reducible refine(a9.o _).mono ?_;rintro r c4 ⟨rfl,aa⟩;have g:=a3.o _ aa;have u:=J aa;clear aa)
   |(go_at_call 73;with_reducible refine(y.o _).mono ?_;rintro r e8 ⟨rfl,rfl⟩;have t:=u.o;have l:=a3.o _ t;have a1:=J (a5.o.trans (t.mono a5.o.size));clear t));exact EH
 have h6:k=m:=O;subst h6;have c7:st.take k=st:=d' Fq;have c8:vs.take k=vs:=d' (by rw[g4.o,<-I.o];exact aU);have e4:=(f6.o k).2;rw[c7,c8];have e7:=I.o;by_cases a8:ZJ st vs=[];.have Q:=d5.o;rw[ZnA d6.o a8] at Q;have b6:=J Q.symm;have c6:=YU ([]:ax);rw[dd rfl] at c6;rw[a8];clear e4 e7 Q a8 c7 c8;generalize bs ([]:ax)=S0 at c6⊢;go_wp2;go_returns;exact⟨by rw[b6.o];rfl,hb.o⟩
 have c6:=YU (ZJ st vs);rw[Vai a8] at c6;have a2:=J (λW=>Dj 4 O (ZJ st vs) O W);have d9:rJ 4 (ZJ st vs)=.agg #[(4:Int),bs (ZJ st vs)]:=rfl;rw[d9] at a2;rcases b5:Zo 4 (ZJ st vs) with _|d
 .have Q:=d5.o;rw[ZjV d6.o a8 b5] at Q;have b6:=J Q.symm;rw[b5] at a2;unfold mV at a2;simp only at a2;clear e4 e7 Q a8 c7 c8 b5 d9;generalize bs (ZJ st vs)=S at*;go_wp21;with_reducible refine(a2.o _).mono ?_
  rintro x c4 ⟨rfl,aa⟩;have u:=J (hb.o.trans (aa.mono hb.o.size));clear aa;go_wp2;go_returns;exact⟨by rw[b6.o];rfl,u.o⟩
 have Q:=d5.o;rw[ZjW d6.o a8 b5] at Q;have b6:=J Q.symm;rw[b5] at a2;unfold mV at a2;simp only at a2;clear e4 e7 Q a8 c7 c8 b5 d9;generalize bs (ZJ st vs)=S at*;generalize g2:bs d=D at*;have h1:=J g2;clear g2;go_wp21;with_reducible refine(a2.o _).mono ?_
 rintro x c4 ⟨rfl,aa⟩;have u:=J (hb.o.trans (aa.mono hb.o.size));clear aa;go_wp2;go_returns;exact⟨by rw[b6.o,<-h1.o];rfl,u.o⟩
end Go.Proofs.Y
namespace Wv
open Go.Proofs.Tryz Go Go.RowKit
variable{c d:ax}{k n:Nat}{st:List (Int×Int)}
theorem ZpZ (h:fN st=false):kD Z3 st d=([],1):=by unfold kD;rw[Vag h]
theorem Zr0 (h:fN st=true) (g:sJ d=none):kD Z3 st d=([],12):=by unfold kD;rw[Vae Qe,g]
theorem Zr1 {T:ax} (h:fN st=true) (g:sJ d=some T):kD Z3 st d=match ra st T with
  |none=>([],12)
  |some (vs,r)=>if r=[]/\hQ Z3 st vs=true then(vs,0) else([],12):=by unfold kD;rw[Vae Qe,g];rfl
theorem Ze3 {data:ax} (h:ZI data=some (k,c,n)):c.length<=1000000000:=by have h1:=(XU h).1;have g:=X7 (k:=k) (c:=c);rw[h1] at g;have:=of_decide_eq_true g.symm;omega
theorem ZnB:sJ []=some []:=by unfold sJ;rw[Vag rfl]
theorem Zq1 (h:d≠[]) (g:ZI d=none):sJ d=none:=by unfold sJ;rw[Vae h,g]
theorem ZjX (h:d≠[]) (g:ZI d=some (k,c,n)):sJ d=if n=d/\k=4/\c≠[] then some c else none:=by unfold sJ;rw[Vae h,g]
end Wv
namespace Go.Proofs.Y
open Tryz Wv Go.RowKit
theorem Zc8 (F G:aI) (w:aq):(Instr.field 100 (.agg #[F,G]) 1).run prog w=.ok G w:=dw
theorem Zqk (s:aT) (w:aq):cK 54 #[s] w λe w'=>∃b,e=.returned (.pointer (some ⟨b,0,none⟩))/\RV w' b s 0/\w.heap.size<=b/\Below w w w':=
 (ZT s w).mono λe w' h=>⟨_,h.1,h.2.1,aU,h.2.2⟩
def Es (st:List (Int×Int)) (T:ax) (k:Nat) (g:a') (t:aT) (e:Nat):Prop:=(e=0->ra (st.take k) T=some (g,aH t))/\(e≠0->ra (st.take k) T=none)
theorem ZfA {st:List (Int×Int)} {T:ax} {k:Nat} {q:a'} {t v B:aT} {e y:Nat} (E:k<st) (D:B5 st[k] t e v B y) (h:Es st T k q t e):Es st T (k+1) (q++[v]) B y:=by have g:=UB st k E T;obtain⟨F,G,_⟩:=D;by_cases u:e=0;rw[h.1 u] at g;simp only at g;have l:=G u;rcases z:jH st[k] (aH t) with _|p;rw[z] at g l;simp only at g l;exact⟨λh=>absurd h l,λ_=>g⟩;obtain⟨x,r⟩:=p;rw[z] at g l;simp only at g l;obtain⟨q1,q2,q3⟩:=l;rw[q1,q2];exact⟨λ_=>g,λh=>absurd q3 h⟩;rw[h.2 u] at g;exact⟨λh=>absurd h (F u),λ_=>g⟩
def BI (w:aq) (r:a'×Nat) (x:Ending) (w':aq):Prop:=∃v,x=.returned (.tuple #[v,r.2])/\sV w' v r.1/\Below w w w'
end Go.Proofs.Y
namespace Wv
open Go.Proofs.Tryz Go Go.RowKit
theorem Zu4 {st:List (Int×Int)} {data:ax} {vs:a'} (h:kD Z3 st data=(vs,0)):fN st=true/\hQ Z3 st vs=true/\∃T,ra st T=some (vs,[])/\T.length<=1000000000/\((data=[]/\T=[])\/(data≠[]/\T≠[]/\ZI data=some (4,T,data.length))):=by
 cases fl:fN st;rw[ZpZ fl] at h;cases h;rcases hT:sJ data with _|T;rw[Zr0 fl hT] at h;cases h;rw[Zr1 fl hT] at h;rcases hr:ra st T with _|p;rw[hr] at h;cases h;obtain⟨v,r⟩:=p;rw[hr] at h;simp only at h;split at h
 .rename_i hc;injection h with h;subst h;refine⟨rfl,hc.2,T,by rw[hr,hc.1],?_⟩;by_cases h0:data=[];rw[h0,ZnB] at hT;injection hT with hT;rw[<-hT];exact⟨by simp,.inl ⟨h0,rfl⟩⟩;rcases hf:ZI data with _|q;rw[Zq1 h0 hf] at hT;cases hT;obtain⟨k,c,n⟩:=q;rw[ZjX h0 hf] at hT;split at hT;.rename_i hg;injection hT with hT;subst hT;exact⟨Ze3 hf,.inr ⟨h0,hg.2.2,by rw[hg.1,hg.2.1]⟩⟩
  cases hT
 cases h
end Wv
namespace Go.Proofs.Y
open Tryz Wv Go.RowKit
theorem ZtK {w:aq} {A:Wto} {st:List (Int×Int)} (b9:At w A (pv st)) {data:ax} (hd:data.length<=1000000000) (i9:gl w) (n cap:Nat) (c3:n=st) (f9:n<=9223372036854775807) {vs:a'} (h:kD Z3 st data=(vs,0)):
  Calls prog 58 #[(A,n,cap),bs data] w λx w'=>BI w (vs,0) x w':=by
 obtain⟨e4,j1,T,j2,j4,g0⟩:=Zu4 h;have e3:=J (JJ b9 n cap c3 f9);rw[e4] at e3;obtain⟨g5,j9⟩:=Dg.1 e4;have m2:n<=64:=O;obtain⟨l1,a0,Ha,b5⟩:=dc g5 c3 b9 (λ(W:aq) (hb:Below w w W) B k (h1:At W B (eN vs)) (a2:∀s∈vs,s.size<=1099511627776) (b2:vs.length<=9223372036854775807)=>JK (b9.below hb) h1 (i9.below hb) a2 n cap vs k c3 rfl f9 b2);rw[j1] at b5;have l5:∀F G W,(Instr.field 100 (.agg #[F,G]) 1).run prog W=.ok G W:=λF G W=>Zc8 F G W;have l0:=YU data;obtain⟨j7,a8⟩:=ay ((!decide (data=[])));have c6:(bs data).size=data:=Z0 data;have a6:=J (λ(h:ZI data=some (4,T,data.length)) W=>Aj hd h W);have c9:=YU T;obtain⟨f5,k6,k4,e2⟩:=dc (λW=>Zqk (bs T) W) j2 j4 g0;obtain⟨dl,i4⟩:=ay data.length;rw[i4] at c6 a6 e2;clear b9 c3 e4 g5 j9 i9 hd h j1 j2 j4 g0 i4;generalize i5:bs data=S at*;have k2:=J i5;clear i5;go_in;go_wp21;refine aP e3.o λw1 i0=>?_;have b6:=J i0;clear i0 e3;go_upto_if 18 with fail;go_cut [6] (λs wx=>s=.string (bs T)/\Hid (Below w w wx))
 case first=>
  rcases e2.o with ⟨h0,b4⟩|⟨h0,b4,i8⟩;.obtain rfl:j7=false:=(by rw[<-a8,dd h0];rfl);have k5:Hid (bs T=⟨#[]⟩):=J (by rw[b4];rfl);clear a6 c6 c9 h0 b4 a8;go_wp2;go_meet;case rel=>exact⟨by rw[k5.o],b6⟩
  obtain rfl:j7=true:=(by rw[<-a8,Vai h0];rfl);rw[Vai b4] at c9;have f7:=J (a6.o i8);have n7:((dl:Int) !=S.size)=false:=(by rw[c6];exact yx _);clear a6 h0 b4 i8 a8;generalize bs T=TS at*;go_wp21;refine aP (f7.o _) λj5 aa=>?_;have l:=b6.o.trans (aa.mono b6.o.size);have Q:=J (l.alloc l.size (.cells #[((4:Nat):Int),TS] 78));have b8:=Bk.new j5 78 #[((4:Nat):Int),TS];have m3:=b8.cell 0;have q1:=b8.cell 1;have n8:=b8.lt;simp at m3 q1;clear aa l b8 f7;go_wp2;go_meet;case rel=>exact⟨rfl,Q⟩
 obtain⟨rfl,d6⟩:=hcut;clear a6 b6 l0 c6 c9 e2 k2 a8;go_wp21;refine(f5.o _).mono ?_;rintro x j5 ⟨b,rfl,g7,f6,aa⟩;have g3:=J (d6.o.trans (aa.mono d6.o.size));have j0:w<=b:=co d6.o.size f6;have i1:=J g7;clear aa f6 g7 f5;go_wp2;go_loopw [11,49] (λl7 c7 wr=>∃(k:Nat) (p:a') (t:aT) (e:Nat),k<=n/\c7=(k:Int)/\p.length=k/\Hid (wr.ownsRow w 9 1 l7 k (eN p))/\Hid (RV wr b t e)/\Hid (t.size<=1000000000)/\Hid (Es st T k p t e)/\Hid (∀s∈p,s.size<=2000000000)/\Hid (Below w w wr)) (λ_ c7 _=>(n-intOf c7).toNat);exact⟨0,[],bs T,0,cf _,rfl,rfl,J Zl,i1,J (by rw[Z0];exact k4.o),J ⟨λ_=>by rw[qA];rfl,λh=>absurd rfl h⟩,J (λs h=>po),g3⟩;clear g3 i1;obtain⟨k,p,t,e,n6,rfl,e7,a1,a3,d9,b7,c4,hb⟩:=hrel;obtain⟨A5,m9,g9,rfl⟩:=Z7 a1.o;by_cases ab:k<n
 .have d3:k<st.length:=iF;obtain⟨n2,o1,rfl,c0,c1⟩:=Dk (Ha.o.below hb.o) k d3;have c5:=l1.o st[k] (dt _);have d1:=J (λ(v E:aT) (D:Nat) (q:B5 st[k] t e v E D)=>ZfA d3 q b7.o);obtain⟨⟨a,c⟩,a4⟩:=ay st[k];rw[a4] at c0 c1 c5 d1;simp only at c0 c1;have m1:a=0\/a=1\/a=2\/a=3:=by rcases XJ c5 with h|⟨h|h|h,_⟩<;>simp at h<;>omega
  have f2:=(bf wr wr).alloc aU (.cells #[a,c] 57);obtain⟨I,g1,c8,i3⟩:=dc (a3.o.below f2 (Bk.lt a3.o)) (Z6 a1.o (Fr.of_below (S:=nob) f2) (λ_ _ f=>f)) (hb.o.alloc hb.o.size (.cells #[a,c] 57)) c5;have n3:(0:Int)<=k:=O;have n4:(k:Int)<n:=O;have n1:=d9.o;clear c5 a4 d3 hb a1 a3 f2 b7 d9 b5;rcases m1 with rfl|rfl|rfl|rfl;case' inl=>obtain⟨j3,j6⟩:=XI i3.o rfl;simp only at j3 j6;obtain⟨N,rfl⟩:∃N:Nat,c=(N:Int):=⟨c.toNat,O⟩;have z:=J (λW=>Rz N O W);have q:=Zao (n:=N) O O t e;have u:=J (λW b1 b3 h k1 k3=>ZcT N O O (w:=W) (b:=b) (b1:=b1) (b3:=b3) (s:=t) (e:=e) h O k1 k3);obtain⟨V,i6⟩:=ay ((bs (wg (aH (Zb t e ((N+7)/8:Nat)).1) (aH (Zb (Zb t e ((N+7)/8:Nat)).2.1 (Zb t e ((N+7)/8:Nat)).2.2 ((N+7)/8:Nat)).1) N)));obtain⟨a7,R⟩:=ay ((Zb (Zb t e ((N+7)/8:Nat)).2.1 (Zb t e ((N+7)/8:Nat)).2.2 ((N+7)/8:Nat)));rw[i6,R] at q u;obtain⟨o2,E,D⟩:=a7;simp only at q u;go_wp21;refine(z.o _).mono ?_;rintro x y ⟨b1,b3,rfl,k1,k3,l⟩;have M:=J (show RV y b t e from I.o.below l (Bk.lt I.o));have a5:=J (u.o _ b1 b3 M.o k1 k3);clear i6 R j3 j6 k1 k3 u z
  case' inr.inl=>have z:=J (λW=>RA c W);have q:=RI (a:=1) (c:=c) O t e;have u:=J (λW (h:RV W b t e)=>SK h O);obtain⟨a7,R⟩:=ay (ZB t e 4096);rw[R] at q u;obtain⟨V,E,D⟩:=a7;simp only at q u;go_wp21;refine aP (z.o _) λy l=>?_;have M:=J (show RV y b t e from I.o.below l (Bk.lt I.o));have a5:=J (u.o _ M.o);clear R u z
  case' inr.inr.inl=>have z:=J (λW=>RB c W);have q:=RI (a:=2) (c:=c) O t e;have u:=J (λW (h:RV W b t e)=>SK h O);obtain⟨a7,R⟩:=ay (ZB t e 4096);rw[R] at q u;obtain⟨V,E,D⟩:=a7;simp only at q u;go_wp21;refine aP (z.o _) λy l=>?_;have M:=J (show RV y b t e from I.o.below l (Bk.lt I.o));have a5:=J (u.o _ M.o);clear R u z
  case' inr.inr.inr=>have z:=J (λW=>RC c W);go_wp21;refine aP (z.o _) λy l=>?_;have M:=J (show RV y b t e from I.o.below l (Bk.lt I.o));obtain⟨V,E,D,q,a5⟩:∃(V E:aT) (D:Nat),B5 (3,c) t e V E D/\Hid (Calls prog 74 #[.pointer (some ⟨b,0,none⟩)] y λx W'=>x=.returned V/\RV W' b E D/\Fr (only b) y W'):=⟨⟨#[]⟩,t,e,Z7c t e,J ((ZcU b y).mono λx W' a2=>⟨a2.1,a2.2▸M.o,a2.2▸Fr.refl _ _⟩)⟩;clear z
  all_goals
   have k8:=J (d1.o _ _ _ q);have n5:=q.2.2.2;have o0:=q.2.2.1;have d5:=J (Z6 g1.o (Fr.of_below (S:=nob) l) (λ_ _ f=>f));have Q:=J (c8.o.trans (l.mono c8.o.size));clear q d1 l I g1 c8 i3;go_wp21;refine aP a5.o λf4 ⟨h4,d4⟩=>?_;have a9:=Z1 d5.o M.o aY;have g6:=Z6 d5.o d4 (λg e5 h=>a9 (by rw[e5,show g=b from h]));have an:=Zs Q.o Q.o.size j0 d4;obtain⟨o3,m5,g4,g8,h5,h6⟩:=ZU (P:=prog) 23 9 _ _ underlying23 Qu rfl (w:=f4) g6 an an.size (.string V) rfl fU O;obtain⟨l3,k7,g2⟩:=bD (show RV m5 b E D from h6 _ _ _ h4 aY) g4 g8;rw[<-X3] at g2;have l2:=J h5;have l9:=J (show ∀s∈p++[V],s.size<=2000000000 from λs a4=>by rcases lc.1 a4 with h|h;exact c4.o s h;rw[jv.1 h];omega);clear h4 d4 a9 g6 an g4 g8 h5 h6 M d5 Q a5 c4;go_wp2_with (at_builtin;refine Z5 iG rfl _ _ _ rfl _ _ (by rfl) (by rfl) k7.o ?_);refine⟨⟨k+1,p++[V],E,D,ab,ci,by rw[Vab,e7];rfl,g2,l3,J O,k8,l9,l2⟩,?_⟩;simp[intOf]<;>omega
 have k9:k=n:=O;subst k9;have h9:st.take k=st:=d' og;have b0:=b7.o;unfold Es at b0;rw[h9,k6.o] at b0;have e8:e=0:=Decidable.byContradiction λk=>(by cases b0.2 k);have e6:=b0.1 e8;injection e6 with e6;injection e6 with l6 h8;have f8:t.size=0:=(by rw[<-Z2,<-h8];rfl);have i7:iQ t e=0:=(by unfold iQ;rw[Vae (λk=>k.2 f8)];exact e8);have d7:=J (C7 a3.o);rw[i7] at d7;subst l6;obtain⟨m6,n9,l8,_⟩:=Zh a1.o;injection l8 with h1 a2 b2;have j8:=a2.symm;subst j8;have f3:=J e7;clear h1 b2 h8 f8 e8 b0 h9 b7 i7 d9 e7 m2;go_wp21;refine aP d7.o λy d2=>?_;have l:=Zs hb.o hb.o.size j0 d2;have a9:=Z1 a1.o a3.o aY;have h7:=Z6 a1.o d2 (λg e5 h=>a9 (by rw[e5,show g=b from h]));obtain⟨m8,n0,m4,d8⟩:=Zh h7;injection m4 with h1 _ b2;subst h1;have e9:=J (b5.o y l _ g9 d8 (λs a4=>by have:=c4.o s a4;omega) (by rw[f3.o];omega));rw[f3.o] at e9;have Q:=J l;have i2:=J d8;clear d2 l a9 h7 d8 a1 a3 hb d7 b5 b2 c4;go_wp21;refine aP e9.o λf4 an=>?_;have k0:Hid (BI w (vs,0) (.returned (.tuple #[(A5,k,g9),(0:Int)])) f4):=J ⟨_,rfl,⟨_,_,by rw[f3.o],i2.o.below an⟩,Q.o.trans (an.mono Q.o.size)⟩;clear an i2 e9;go_wp2;go_returns;exact k0.o
