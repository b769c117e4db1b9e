import Derived.Test.YtnjkjoklnephcaaGreatDoorF09
set_option linter.all false
set_option maxRecDepth 100000
set_option maxHeartbeats 0
open Go.Proofs.Tryz (prog underlying123)
namespace Go.Proofs.Y
open Wv Go.RowKit
section
variable{L b eb g m n o q z:Nat}{dv x:aI}{t:List Nat}{w:aq}
def vj:Nat->Nat->Nat->Nat->List Nat->En->List Nat×En
 |0,_,_,_,t,e=>(t,e)
 |n+1,q,v,m,t,e=>vj n q v (2*m+v/2 ^ n % 2) (t.set (q+m) (Yd (t.getD (q+m) 0) (v/2 ^ n % 2))) (nG (t.getD (q+m) 0) (v/2 ^ n % 2) e)
def Q5:Nat->Nat->Nat->List Nat->De->Nat×List Nat×De
 |0,_,m,t,d=>(m,t,d)
 |n+1,q,m,t,d=>Q5 n q (2*m+iP (t.getD (q+m) 0) d) (t.set (q+m) (Yd (t.getD (q+m) 0) (iP (t.getD (q+m) 0) d))) (qe (t.getD (q+m) 0) d)
theorem Sg (n q v m:Nat) (t:List Nat) (e:En):vj (n+1) q v m t e=vj n q v (2*m+v/2 ^ n % 2) (t.set (q+m) (Yd (t.getD (q+m) 0) (v/2 ^ n % 2))) (nG (t.getD (q+m) 0) (v/2 ^ n % 2) e):=rfl
theorem Se (n q m:Nat) (t:List Nat) (d:De):Q5 (n+1) q m t d=Q5 n q (2*m+iP (t.getD (q+m) 0) d) (t.set (q+m) (Yd (t.getD (q+m) 0) (iP (t.getD (q+m) 0) d))) (qe (t.getD (q+m) 0) d):=rfl
def lZ (q L:Nat) (t:List Nat):List Nat:=(t.drop q).take L
def sF (q:Nat) (t u:List Nat):List Nat:=t.take q++u++t.drop (q+u.length)
theorem KQ (h:q+L<=t):(lZ q L t)=L:=by unfold lZ;rw[ek,iW];omega
theorem V6 (h:q+L<=t):sF q t (lZ q L t)=t:=by unfold sF;rw[KQ h];unfold lZ;rw[er,<-vM,vH,vH]
theorem UN (d:m<L):(lZ q L t).getD m 0=t.getD (q+m) 0:=by unfold lZ;simp[List.getD,List.getElem?_take_of_lt d]
theorem V4 {u:List Nat} (h:q+L<=t) (g:m<L) (d:u=L):sF q (t.set (q+m) z) u=sF q t u:=by unfold sF;rw[d,List.take_set,List.drop_set];rw[List.set_eq_of_length_le vO,Vag O]
theorem Wo (h:q+L<=t) (d:m<L):lZ q L (t.set (q+m) z)=(lZ q L t).set m z:=by unfold lZ;rw[List.drop_set,aD O,List.take_set,Nat.add_sub_cancel_left]
theorem VH (n:Nat):∀(q v m L:Nat) {t:List Nat} {e:En},q+L<=t.length->(m+1)*2 ^ n<=2*L->vj n q v m t e=(sF q t (fM n v m (lZ q L t) e).1,(fM n v m (lZ q L t) e).2)/\(fM n v m (lZ q L t) e).1=L:=by
 induction n with
 |zero=>intro q v m L t e h _;exact⟨by show(t,e)=_;rw[fM,V6 h],KQ h⟩
 |succ n ih=>intro q v m L t e h j;have g:m<L:=Xk (n:=n) j;have hb:v/2 ^ n % 2<2:=O;rw[Sg,UP];have k:q+L<=(t.set (q+m) (Yd (t.getD (q+m) 0) (v/2 ^ n % 2))).length:=(by rw[od];exact h);obtain⟨i1,d⟩:=ih q v (2*m+v/2 ^ n % 2) L (t:=t.set (q+m) (Yd (t.getD (q+m) 0) (v/2 ^ n % 2))) (e:=nG (t.getD (q+m) 0) (v/2 ^ n % 2) e) k (Y6 hb j);rw[Wo h g] at i1 d;rw[UN g];exact⟨by rw[i1,V4 h g d],d⟩
theorem VG (n:Nat):∀(q m L:Nat) {t:List Nat} {d:De},q+L<=t.length->(m+1)*2 ^ n<=2*L->Q5 n q m t d=((ej n m (lZ q L t) d).1,sF q t (ej n m (lZ q L t) d).2.1,(ej n m (lZ q L t) d).2.2)/\(ej n m (lZ q L t) d).2.1=L:=by
 induction n with
 |zero=>intro q m L t d h _;exact⟨by show(m,t,d)=_;rw[ej,V6 h],KQ h⟩
 |succ n ih=>intro q m L t d h k;have j:m<L:=Xk (n:=n) k;have hb:=Z2Q (t.getD (q+m) 0) d;rw[Se,UO,UN j];have l:q+L<=(t.set (q+m) (Yd (t.getD (q+m) 0) (iP (t.getD (q+m) 0) d))).length:=(by rw[od];exact h);obtain⟨i1,g⟩:=ih q (2*m+iP (t.getD (q+m) 0) d) L (t:=t.set (q+m) (Yd (t.getD (q+m) 0) (iP (t.getD (q+m) 0) d))) (d:=qe (t.getD (q+m) 0) d) l (Y6 O k);rw[Wo h j] at i1 g;exact⟨by rw[i1,V4 h j g],g⟩
structure pd (w:World) (b o g q n:Nat) (t:List Nat):Prop where
 c0:w.cell? ⟨b,o,none⟩=some (.int .i64 (n:Int))
 c1:w.cell? ⟨b,o+1,none⟩=some (.slice (some ⟨g,q,none⟩) (2 ^ n) (2 ^ n))
 nd:Bk w g 3 (nc t)
 ne:b≠g
 lt:b<w.heap.size
theorem pd.drew (h:pd w b o g q n t):pd w.drew b o g q n t:=⟨h.c0,h.c1,h.nd,h.ne,h.lt⟩
theorem pd.fr {S:Nat->Prop} {w':aq} (h:pd w b o g q n t) (d:Fr S w w') (h1:¬S b) (j:¬S g):pd w' b o g q n t:=
 ⟨by rw[d.cell (p:=⟨b,o,none⟩) h.lt h1];exact h.c0,by rw[d.cell (p:=⟨b,o+1,none⟩) h.lt h1];exact h.c1,h.nd.fr d j,h.ne,eg h.lt d.size⟩
theorem pd.put (h:pd w b o g q n t) (m z:Nat):pd (w.setCell (g,m) z) b o g q n (t.set m z):=by have d:Fr (only g) w (w.setCell (g,m) z):=(Fr.refl (only g) w).setCell (p:=⟨g,m,none⟩) (.inl rfl) _;have j:¬only g b:=h.ne;refine⟨by rw[d.cell (p:=⟨b,o,none⟩) h.lt j];exact h.c0,by rw[d.cell (p:=⟨b,o+1,none⟩) h.lt j];exact h.c1,?_,h.ne,eg h.lt d.size⟩;have:=h.nd.put m z;rwa [uX] at this
theorem dY.offG {e:En} (d:dY w eb dv e) (h:¬foot eb dv g):dY (w.setCell (g,m) x) eb dv e:=
 d.fr (S:=only g) ((Fr.refl (only g) w).setCell (p:=⟨g,m,none⟩) (.inl rfl) x) (λe=>h (.inl e.symm)) (λk j e=>h (.inr (by rw[j];exact congrArg some e)))
theorem dD.offG {d:De} (j:dD w eb d) (h:g≠eb):dD (w.setCell (g,m) x) eb d:=
 j.fr (S:=only g) ((Fr.refl (only g) w).setCell (p:=⟨g,m,none⟩) (.inl rfl) x) (λe=>h e.symm)
theorem Gq {e:En} (j:dY w eb dv e) (h:Bk w g 3 (nc t)):¬foot eb dv g:=λd=>by rcases d with d|d;exact Bk.apart h j.1 aY d;exact Z1 j.2 h aY d
theorem Te {w1:aq} {j:aI} (h:¬foot eb dv b) (g:Zu w dv j) (hb:b<w):¬foot eb j b:=λd=>by rcases d with d|d;exact h (.inl d);rcases g with g|g;exact h (.inr (g▸d));have:=g b d;omega
theorem VM (h:n<=8):2 ^ n<=256:=co (pQ O h) aY
theorem TM {e:En} (h:pd w b o g q n t) (d4:n<=8) (d7:q+2 ^ n<=t) (e7:t.length<=1000000) (b1:iV t) (b0:dY w eb dv e) (e2:¬foot eb dv b) (b2:dE 0 e) (v:Nat) (IN:v<=9223372036854775807) (f3:e.out.length<=800000):
  Calls prog 118 #[(b,o),(eb,0),v] w λx w'=>x=.returned (.tuple #[])/\pd w' b o g q n (vj n q v 1 t e).1/\∃a9,dY w' eb a9 (vj n q v 1 t e).2/\Fr (tc g eb dv) w w'/\Zu w dv a9:=by
 have e9:=HN;have c0:=h.c0;have c8:=h.lt;obtain⟨N,D⟩:=ay ((2:Nat) ^ n);have e3:N<=256:=(by rw[<-D];exact VM d4);have b3:(1+1)*2 ^ n<=2*N:=(by rw[D];omega);have a5:=J D;rw[D] at d7;clear D;go_in;go_wp2;go_loopw [6,7] (λd6 i wr=>∃(j m:Nat) (E:aI) (u:List Nat) (x:En),j<=n/\i=((j:Int)-1:Int)/\d6=m/\Hid ((m+1)*2 ^ j<=2*N)/\pd wr b o g q n u/\iV u/\u=t.length/\dY wr eb E x/\dE 0 x/\Hid (vj j q v m u x=vj n q v 1 t e)/\Fr (tc g eb dv) w wr/\Zu w dv E/\x.out.length+2*j<=800000+2*n) (λ_ i _=>(intOf i+1).toNat);exact⟨n,1,dv,t,e,aU,rfl,rfl,J b3,h,b1,rfl,b0,b2,J rfl,Fr.refl _ _,.inl rfl,O⟩;clear c0 h b1 b0 b2 b3;obtain⟨j,m,E,u,x,f2,rfl,rfl,S,p,a2,b7,G,a1,b4,Q,F,d3⟩:=hrel;by_cases ab:0<j
 .obtain⟨k,rfl⟩:∃k,j=k+1:=⟨j-1,O⟩;have e5:m<N:=Xk (n:=k) S.o;have a4:q+m<u:=O;have M:=Sg k q v m u x;have i1:((k+1:Nat):Int)-1=(k:Int):=O;rw[i1];obtain⟨y,l⟩:=ay (v/2 ^ k % 2);have a3:y<2:=O;have f4:(v:Int)/2 ^ k % 2=(y:Int):=IZ;have d:=Qr a2 a4;have c4:=J (show(2*m+y+1)*2 ^ k<=2*N from Y6 (L:=N) a3 S.o);have q1:=p.c1;rw[a5.o] at q1;have I:=p.nd.cell (q+m);rw[Xj u (q+m) a4] at I;obtain⟨z,a0⟩:=ay (u.getD (q+m) 0);rw[l,a0] at M;rw[a0] at I d;have e6:(m:Int)<N:=O;have b9:=J (KJ G a1 z y d.1 d.2 a3 O);have Ha:=J (FM z y d.1 d.2 a3);have e4:=FR z y x;have c9:=Xx a1 (b:=y) d.1 d.2;have R:=Gq G p.nd;have c5:=Te (w1:=wr) e2 F c8;have d8:iV (u.set (q+m) (Yd z y)):=Qs a2 (q+m) (YW d);have b5:(u.set (q+m) (Yd z y))=t.length:=(by rw[od];exact b7);obtain⟨c7,a6,c3⟩:=bD M p b5;have f5:k<=7:=O;clear M p l a0 G a1 a2 S a4 b7 b5;go_wp21;refine aP b9.o λw1 ⟨b8,a8,a7,d1⟩=>?_;have B:=a6.o.fr a7 c5 R;have d9:=B.c1;rw[a5.o] at d9;have e1:=B.nd.cell (q+m);have e8:=B.nd.frozen (q+m);have b6:(nc u)[q+m]? =z:=(a6.o.nd.cell (q+m)).symm.trans I;rw[b6] at e1;clear q1 I b6;have d5:=Q.size;have c6:=Gq a8 B.nd;go_wp2;go_region_with ((go_at_call 163;refine(Ha.o _).mono ?_;rintro r f6 ⟨rfl,rfl⟩))
  all_goals
   go_wp2;go_roundw;exact⟨k,2*m+y,b8,u.set (q+m) (Yd z y),nG z y x,O,rfl,by congr 1,c4,(B.put (q+m) _).drew,d8,c3.o,(a8.offG c6).drew,c9,J (by rw[<-c7.o];exact b4.o),(WH (KG Q a7 F)).drew,F.trans d1 d5,O⟩;simp[intOf]<;>omega
 have d2:j=0:=O;subst d2;go_wp2;go_end0;have:=b4.o;rw[vj] at this;rw[<-this];exact⟨rfl,p,E,G,Q,F⟩
theorem z_ (n:Nat):∀(q m L:Nat) (t:List Nat) (d:De),iV t->q+L<=t.length->(m+1)*2 ^ n<=2*L->DV 0 d->iV (Q5 n q m t d).2.1/\(Q5 n q m t d).2.1=t.length/\DV 0 (Q5 n q m t d).2.2/\m*2 ^ n<=(Q5 n q m t d).1/\(Q5 n q m t d).1<(m+1)*2 ^ n:=by
 induction n with
 |zero=>intro q m L t d h1 _ _ g;exact⟨h1,rfl,g,by simp[Q5],by simp[Q5]⟩
 |succ n ih=>intro q m L t d h1 l k g;have u:m<L:=Xk (n:=n) k;have j:=Qr h1 (show q+m<t by omega);have hb:=Z2Q (t.getD (q+m) 0) d;obtain⟨a,b,c,p,r⟩:=ih q (2*m+iP (t.getD (q+m) 0) d) L _ (qe (t.getD (q+m) 0) d) (Qs h1 (q+m) (YW (b:=iP (t.getD (q+m) 0) d) j)) (by rw[od];exact l) (Y6 O k) (Dz g j.1 j.2);rw[Q5];refine⟨a,by rw[b,od],c,co ?_ p,eg r ?_⟩;exact An;exact An
theorem TL {d:De} (h:pd w b o g q n t) (d6:n<=8) (c3:q+2 ^ n<=t) (f3:t.length<=1000000) (a4:iV t) (b7:dD w eb d) (d7:b≠eb) (a5:DV 0 d):
  Calls prog 215 #[(b,o),(eb,0)] w λx w'=>x=.returned (((Q5 n q 1 t d).1-2 ^ n:Nat):Int)/\pd w' b o g q n (Q5 n q 1 t d).2.1/\dD w' eb (Q5 n q 1 t d).2.2/\Fr (vg g eb) w w':=by
 have c0:=h.c0;have e9:=h.lt;obtain⟨N,M⟩:=ay ((2:Nat) ^ n);have e4:N<=256:=(by rw[<-M];exact VM d6);have a7:(1+1)*2 ^ n<=2*N:=(by rw[M];omega);have l:=(z_ n q 1 N t d a4 (by rw[<-M];exact c3) a7 a5).2.2.2;rw[M] at l c3 a7;rw[M];have a3:=J M;have e7:(2:Int) ^ n=(N:Int):=(by rw[<-M,Int.natCast_pow];rfl);have c8:Hid ((1+1)*2 ^ (n-0)<=2*N):=J (by rw[Nat.sub_zero,a3.o];omega);clear M;go_in;go_wp2;go_loopw [5,11] (λd8 i wr=>∃(j m:Nat) (u:List Nat) (x:De),j<=n/\i=j/\d8=m/\Hid ((m+1)*2 ^ (n-j)<=2*N)/\pd wr b o g q n u/\iV u/\u=t.length/\dD wr eb x/\DV 0 x/\Hid (Q5 (n-j) q m u x=Q5 n q 1 t d)/\Fr (vg g eb) w wr) (λ_ i _=>(n-intOf i).toNat);exact⟨0,1,t,d,cf _,rfl,rfl,c8,h,a4,rfl,b7,a5,J rfl,Fr.refl _ _⟩;clear c0 h a4 b7 a5 a7 c8;obtain⟨j,m,u,x,f5,rfl,rfl,F,hu,a9,c7,D,a8,b0,E⟩:=hrel;by_cases ab:j<n
 .have f2:(j:Int)<n:=O;obtain⟨k,b8⟩:∃k,n-j=k+1:=⟨n-j-1,O⟩;have b4:n-(j+1)=k:=O;rw[b8] at F b0;have e6:m<N:=Xk (n:=k) F.o;have a2:q+m<u:=O;have S:=Se k q m u x;have Q:=Qr a9 a2;have b5:=Z2Q (u.getD (q+m) 0) x;have q1:=hu.c1;rw[a3.o] at q1;have a1:=hu.nd.cell (q+m);rw[Xj u (q+m) a2] at a1;obtain⟨z,b9⟩:=ay (u.getD (q+m) 0);rw[b9] at S b5 a1 Q;obtain⟨y,a6⟩:=ay (iP z x);rw[a6] at S b5;have c4:y<2:=O;have d1:=J (show(2*m+y+1)*2 ^ k<=2*N from Y6 (L:=N) c4 F.o);have e8:(m:Int)<N:=O;have R:=KE D a8 z Q.1 Q.2;rw[a6] at R;have R:=J R;have Ha:=J (FM z y Q.1 Q.2 c4);have d4:=Dz a8 Q.1 Q.2;have b2:g≠eb:=Bk.apart hu.nd D aY;have d9:iV (u.set (q+m) (Yd z y)):=Qs a9 (q+m) (YW Q);have c5:(u.set (q+m) (Yd z y))=t.length:=(by rw[od];exact c7);obtain⟨c9,d2,b3,b1⟩:=dc c5 S hu b4;clear S hu a6 b9 D a8 a9 F a2 c7 c5 b8 b4 l;go_wp21;refine aP R.o λw1 ⟨d3,b6⟩=>?_;have a0:=b3.o.fr b6 d7 b2;have e1:=a0.c1;rw[a3.o] at e1;have e2:=a0.nd.cell (q+m);have f4:=a0.nd.frozen (q+m);have c6:(nc u)[q+m]? =z:=(b3.o.nd.cell (q+m)).symm.trans a1;rw[c6] at e2;clear q1 a1 c6;go_wp2;go_region_with ((go_at_call 163;refine(Ha.o _).mono ?_;rintro r f7 ⟨rfl,rfl⟩))
  all_goals
   go_wp2;go_roundw;exact⟨j+1,2*m+y,u.set (q+m) (Yd z y),qe z x,O,ci,by congr 1,by rw[b1.o];exact d1,(a0.put (q+m) _).drew,d9,c9.o,(d3.offG b2).drew,d4,J (by rw[b1.o,<-d2.o];exact b0.o),((E.trans' b6 (λi hi e=>.inr e)).setCell (p:=⟨g,q+m,none⟩) (.inl (.inl rfl)) _).drew⟩;simp[intOf]<;>omega
 have d5:n=j:=O;subst d5;have B:=b0.o;rw[fh,Q5] at B;have f6:=hu.c0;have G:(Q5 n q 1 t d).1=m:=(by rw[<-B]);rw[G] at l;have e3:N<=m:=O;have a2:m<2*N:=O;have I:=J B;have e5:¬(n:Int)<n:=O;exact OK
end
variable{M j:Nat}{l:List (List Nat)}
theorem ZdY {L:Nat} (h:∀t∈l,t.length=L):l.flatten=L*l.length:=by
 induction l with
 |nil=>simp
 |cons t r ih=>exact aO
theorem J5 {L:Nat} :∀ {l:List (List Nat)},(∀t∈l,t.length=L)->∀ {j:Nat},j<l.length->lZ (L*j) L l.flatten=l.getD j []/\∀u:List Nat,u.length=L->sF (L*j) l.flatten u=(l.set j u).flatten
 |[],_,j,hj=>aO
 |t::r,h,j,hj=>by
  have q:=h t fi;have g:=λx k=>h x (gM _ k);cases j with
  |zero=>refine⟨?_,λu d=> ?_⟩;show lZ 0 L (t++r.flatten)=t;unfold lZ;grind;show sF 0 (t++r.flatten) u=u++r.flatten;unfold sF;grind
  |succ j=>obtain⟨i1,p⟩:=J5 (L:=L) (l:=r) g (j:=j) aO;have e:L*(j+1)=t.length+L*j:=aO;refine⟨?_,λu d=> ?_⟩;show lZ (L*(j+1)) L (t++r.flatten)=r.getD j [];unfold lZ at i1⊢;rw[e,<-i1,List.drop_append,oc O,pU,Nat.add_sub_cancel_left];show sF (L*(j+1)) (t++r.flatten) u=t++(r.set j u).flatten;rw[<-p u d];unfold sF;rw[e,List.take_append,d' O,Nat.add_sub_cancel_left,IG,List.drop_append,oc O,pU,Nat.add_sub_cancel_left];grind
theorem Vg (h:∀t∈l,iV t):iV l.flatten:=by intro x d;obtain⟨t,g,d⟩:=List.mem_flatten.1 d;exact h t g x d
theorem ZiA:(List.replicate 8 (wF 8)).flatten=List.replicate 2048 1024:=Aq
def pY (M j:Nat):List Nat:=List.replicate j 1024++List.replicate (M-j) 0
theorem TN (h:j<M):(pY M j).set j 1024=pY M (j+1):=by unfold pY;rw[nj _ _ (by simp),iE,fh,show M-j=(M-(j+1))+1 from by exact O,pP,List.set_cons_zero,List.replicate_succ',er];rfl
theorem RF (h:j<=M):(pY M j)=M:=by simp[pY];omega
theorem Zee (M:Nat):pY M M=List.replicate M 1024:=by simp[pY]
theorem Tg (M:Nat):nc (pY M 0)=Array.replicate M (.int .i64 0):=by apply pS.1;simp[nc,pY]
def tJ (g j:Nat):Array aI:=((List.range 8).flatMap (λk=>if k<j then[Value.int .i64 8,.slice (some ⟨g,256*k,none⟩) 256 256] else[.int .i64 0,.slice none 0 0])).toArray
theorem Zq8 (g:Nat) (h:j<8):(tJ g j)[2*j]? =(0:Int)/\(tJ g j)[2*j+1]? =some (.slice none 0 0)/\((tJ g j).setIfInBounds (2*j) (8:Int)).setIfInBounds (2*j+1) (.slice (some ⟨g,256*j,none⟩) 256 256)=tJ g (j+1):=by rcases(show j=0\/j=1\/j=2\/j=3\/j=4\/j=5\/j=6\/j=7 by omega) with rfl|rfl|rfl|rfl|rfl|rfl|rfl|rfl<;>exact⟨rfl,rfl,rfl⟩
theorem ZbQ (w:aq):
  Calls prog 207 #[(1:Int),(1:Int)] w λx w'=>x=.returned (.slice (some (w.heap.size+1,0)) 1 1)/\Bk w' w 3 (nc (wF 1))/\Bk w' (w.heap.size+1) 244 #[(1:Int),.slice (some (w,0)) 2 2]/\Below w w w':=by
 have l:=Y5 (P:=prog) 123 3 _ _ underlying123 Y2 rfl 2 2 rfl O O w;rw[<-Tg] at l;have a3:∀w:aq,(Instr.makeSlice 288 (1:Int) (1:Int)).run prog w=.ok (.slice (some (w,0)) 1 1) (w.alloc (.cells #[(0:Int),.slice none 0 0] 244)):=λ_=>qD;go_in;go_wp2;go_loopw [6,17] (λ_ i wr=>∃j:Nat,j<=2/\i=j/\Bk wr w 3 (nc (pY 2 j))/\Below w w wr/\wr=w.heap.size+1) (λ_ i _=>(2-intOf i).toNat);exact IY;obtain⟨j,B,rfl,g,E,G⟩:=hrel;by_cases ab:j<2;have R:=g.cell j;rw[Xj _ _ (by rw[RF B];exact ab)] at R;have a2:=g.frozen j;have q:=g.put j (.int .i64 ((1024:Nat):Int));rw[uX,TN ab] at q;exact NJ;have S:j=2:=O;subst S;have k:=J G;have I:=J g;clear G g l;go_wp2;rw[k.o];have z:=E.alloc E.size (.cells #[(0:Int),.slice none 0 0] 244);have aa:=I.o.alloc (.cells #[(0:Int),.slice none 0 0] 244);have y:Bk (wr.alloc (.cells #[(0:Int),.slice none 0 0] 244)) (w.heap.size+1) 244 #[(0:Int),.slice none 0 0]:=k.o▸Bk.new wr _ _;go_loopw [8,9,10,28] (λ_ _ _ i u=>∃j:Nat,j<=1/\i=j/\(j=0->Bk u (w.heap.size+1) 244 #[(0:Int),.slice none 0 0])/\(j=1->Bk u (w.heap.size+1) 244 #[(1:Int),.slice (some (w,0)) 2 2])/\Bk u w 3 (nc (pY 2 2))/\Below w w u) (λ_ _ _ i _=>(1-intOf i).toNat);exact⟨0,O,rfl,λ_=>y,λh=>O,aa,z⟩;clear z aa y E;obtain⟨j,B,rfl,h0,h1,hb,E⟩:=hrel;by_cases ab:j<1
 .have Q:j=0:=O;subst Q;have d:=h0 rfl;have a0:=d.cell 0;have q1:=d.cell 1;have a4:=d.frozen 0;have a5:=d.frozen 1;simp at a0 q1;have D:=J d;clear h0 h1 d ab;go_wp2;go_region;go_wp2;go_roundw;.refine⟨1,O,rfl,λh=>O,λ_=> ?_,?_,?_⟩;have M:=(D.o.put 0 (1:Int)).put 1 (.slice (some ⟨w,0,none⟩) 2 2);have L:=M.drew;simpa using L;exact O';exact O4
  simp[intOf]
 have a1:j=1:=O;subst a1;have F:=J (h1 rfl);clear h0 h1;go_wp2;go_ret;exact⟨rfl,by rw[show wF 1=pY 2 2 from by exact aY];exact hb,F.o,E⟩
theorem ZbR (w:aq):
  Calls prog 207 #[(8:Int),(8:Int)] w λx w'=>x=.returned (.slice (some (w.heap.size+1,0)) 8 8)/\Bk w' w 3 (nc (List.replicate 2048 1024))/\Bk w' (w.heap.size+1) 244 (tJ w 8)/\Below w w w':=by
 have z:=Y5 (P:=prog) 123 3 _ _ underlying123 Y2 rfl 2048 2048 rfl O O w;rw[<-Tg] at z;obtain⟨u,F⟩:=ay (tJ w 0);have b2:∀W:aq,(Instr.makeSlice 288 (8:Int) (8:Int)).run prog W=.ok (.slice (some (W,0)) 8 8) (W.alloc (.cells u 244)):=λ_=>(by rw[<-F];kernel_rfl);have a9:=J F;have S:=J (Zee 2048);obtain⟨B,I⟩:∃f:Nat->List Nat,(λj=>pY 2048 j)=f:=⟨_,rfl⟩;have G:∀j,pY 2048 j=B j:=λj=>congrFun I j;have M:=J (λj (h:j<2048)=>(TN h:(pY 2048 j).set j 1024=_));have L:=J (λj (h:j<=2048)=>(RF h:(pY 2048 j).length=2048));simp only[G] at M L S z;clear F I G;go_in;go_wp2;go_loopw [6,17] (λ_ i wr=>∃j:Nat,j<=2048/\i=.int .i64 j/\Bk wr w 3 (nc (B j))/\Below w w wr/\wr=w.heap.size+1) (λ_ i _=>(2048-intOf i).toNat);exact IY;obtain⟨j,a0,rfl,q,l,y⟩:=hrel;by_cases ab:j<2048;.have a4:=q.cell j;rw[Xj _ _ (by rw[L.o j a0];exact ab)] at a4;have b1:=q.frozen j;have D:=q.put j (.int .i64 ((1024:Nat):Int));rw[uX,M.o j ab] at D;have d:=J D;have t:=J y;have b0:(j:Int)<2048:=O;clear D q y z;go_wp2;go_roundw;exact⟨j+1,O,ci,d.o,l.setCell (p:=⟨w,j,none⟩) aU _,by simpa using t.o⟩;simp[intOf]<;>omega
 have a5:j=2048:=O;subst a5;have t:=J y;have a3:=J q;clear y q z;go_wp2;rw[t.o];have R:=l.alloc l.size (.cells u 244);have aa:=a3.o.alloc (.cells u 244);have Q:Bk (wr.alloc (.cells u 244)) (w.heap.size+1) 244 (tJ w 0):=(by rw[a9.o];exact t.o▸Bk.new wr _ _);go_loopw [8,9,10,28] (λ_ _ _ i E=>∃j:Nat,j<=8/\i=.int .i64 j/\Hid (Bk E (w.heap.size+1) 244 (tJ w j))/\Hid (Bk E w 3 (nc (B 2048)))/\Hid (Below w w E)) (λ_ _ _ i _=>(8-intOf i).toNat);exact⟨0,O,rfl,J Q,J aa,J R⟩;clear R aa Q l;obtain⟨j,a0,rfl,h0,hb,l⟩:=hrel;by_cases ab:j<8
 .obtain⟨t0,t1,a2⟩:=Zq8 w ab;have a1:=h0.o.cell (2*j);have q1:=h0.o.cell (2*j+1);have a6:=h0.o.frozen (2*j);have a7:=h0.o.frozen (2*j+1);rw[t0] at a1;rw[t1] at q1;have d:=(h0.o.put (2*j) (8:Int)).put (2*j+1) (.slice (some ⟨w,256*j,none⟩) 256 256);rw[a2] at d;obtain⟨d,g,k⟩:=bD d ((hb.o.off (p:=⟨w+1,2*j,none⟩) (by simp) (8:Int)).off (p:=⟨w+1,2*j+1,none⟩) (by simp) (.slice (some ⟨w,256*j,none⟩) 256 256)) ((l.o.setCell (p:=⟨w+1,2*j,none⟩) (by simp) (8:Int)).setCell (p:=⟨w+1,2*j+1,none⟩) (by simp) (.slice (some ⟨w,256*j,none⟩) 256 256));clear t0 t1 a2 h0 hb l;rcases(show j=0\/j=1\/j=2\/j=3\/j=4\/j=5\/j=6\/j=7 by omega) with rfl|rfl|rfl|rfl|rfl|rfl|rfl|rfl
  all_goals
   clear ab;simp only[Nat.reduceMul,Nat.reduceAdd] at a1 q1 a6 a7 d g k;go_wp2;go_region;go_wp2;go_roundw;.first|exact⟨1,aY,rfl,J d.o.drew,J g.o.drew,J k.o.drew⟩|exact⟨2,aY,rfl,J d.o.drew,J g.o.drew,J k.o.drew⟩|exact⟨3,aY,rfl,J d.o.drew,J g.o.drew,J k.o.drew⟩|exact⟨4,aY,rfl,J d.o.drew,J g.o.drew,J k.o.drew⟩|exact⟨5,aY,rfl,J d.o.drew,J g.o.drew,J k.o.drew⟩|exact⟨6,aY,rfl,J d.o.drew,J g.o.drew,J k.o.drew⟩|exact⟨7,aY,rfl,J d.o.drew,J g.o.drew,J k.o.drew⟩|exact⟨8,aY,rfl,J d.o.drew,J g.o.drew,J k.o.drew⟩
   simp[intOf]
 have a8:j=8:=O;subst a8;go_wp2;go_ret;exact⟨rfl,by rw[<-S.o];exact hb.o,h0.o,l.o⟩
