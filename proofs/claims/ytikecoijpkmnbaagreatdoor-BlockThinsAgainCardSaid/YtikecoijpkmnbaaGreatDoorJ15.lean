import Derived.Test.YtikecoijpkmnbaaGreatDoorJ09
set_option linter.all false
set_option maxRecDepth 100000
set_option maxHeartbeats 0
open Go.Proofs.Tryz (prog underlying103)
namespace Go.Proofs.Y
open Wv Go.RowKit
section
variable{L b eb g m n o q z:Nat}{dv x:aI}{t:List Nat}{w:aq}
def Z42:Nat->Nat->Nat->Nat->List Nat->En->List Nat×En
 |0,_,_,_,t,e=>(t,e)
 |n+1,q,v,m,t,e=>Z42 n q v (2*m+v/2 ^ n % 2) (t.set (q+m) (Yd (t.getD (q+m) 0) (v/2 ^ n % 2))) (nG (t.getD (q+m) 0) (v/2 ^ n % 2) e)
def Q5:Nat->Nat->Nat->List Nat->De->Nat×List Nat×De
 |0,_,m,t,d=>(m,t,d)
 |n+1,q,m,t,d=>Q5 n q (2*m+iP (t.getD (q+m) 0) d) (t.set (q+m) (Yd (t.getD (q+m) 0) (iP (t.getD (q+m) 0) d))) (qe (t.getD (q+m) 0) d)
theorem Sg (n q v m:Nat) (t:List Nat) (e:En):Z42 (n+1) q v m t e=Z42 n q v (2*m+v/2 ^ n % 2) (t.set (q+m) (Yd (t.getD (q+m) 0) (v/2 ^ n % 2))) (nG (t.getD (q+m) 0) (v/2 ^ n % 2) e):=rfl
theorem Se (n q m:Nat) (t:List Nat) (d:De):Q5 (n+1) q m t d=Q5 n q (2*m+iP (t.getD (q+m) 0) d) (t.set (q+m) (Yd (t.getD (q+m) 0) (iP (t.getD (q+m) 0) d))) (qe (t.getD (q+m) 0) d):=rfl
def lZ (q L:Nat) (t:List Nat):List Nat:=(t.drop q).take L
def sF (q:Nat) (t u:List Nat):List Nat:=t.take q++u++t.drop (q+u.length)
theorem KQ (h:q+L<=t):(lZ q L t)=L:=by unfold lZ;rw[ek,iW];omega
theorem V6 (h:q+L<=t):sF q t (lZ q L t)=t:=by unfold sF;rw[KQ h];unfold lZ;rw[er,<-vM,vH,vH]
theorem UN (g:m<L):(lZ q L t).getD m 0=t.getD (q+m) 0:=by unfold lZ;simp[List.getD,List.getElem?_take_of_lt g]
theorem V4 {u:List Nat} (h:q+L<=t) (k:m<L) (g:u=L):sF q (t.set (q+m) z) u=sF q t u:=by unfold sF;rw[g,List.take_set,List.drop_set];rw[List.set_eq_of_length_le vO,Vag O]
theorem Wo (h:q+L<=t) (g:m<L):lZ q L (t.set (q+m) z)=(lZ q L t).set m z:=by unfold lZ;rw[List.drop_set,Vae O,List.take_set,Nat.add_sub_cancel_left]
theorem VH (n:Nat):∀(q v m L:Nat) {t:List Nat} {e:En},q+L<=t.length->(m+1)*2 ^ n<=2*L->Z42 n q v m t e=(sF q t (fM n v m (lZ q L t) e).1,(fM n v m (lZ q L t) e).2)/\(fM n v m (lZ q L t) e).1=L:=by
 induction n with
 |zero=>intro q v m L t e h _;exact⟨by show(t,e)=_;rw[fM,V6 h],KQ h⟩
 |succ n ih=>intro q v m L t e h l;have k:m<L:=Xk (n:=n) l;have hb:v/2 ^ n % 2<2:=O;rw[Sg,UP];have p:q+L<=(t.set (q+m) (Yd (t.getD (q+m) 0) (v/2 ^ n % 2))).length:=(by rw[od];exact h);obtain⟨i1,g⟩:=ih q v (2*m+v/2 ^ n % 2) L (t:=t.set (q+m) (Yd (t.getD (q+m) 0) (v/2 ^ n % 2))) (e:=nG (t.getD (q+m) 0) (v/2 ^ n % 2) e) p (Y6 hb l);rw[Wo h k] at i1 g;rw[UN k];exact⟨by rw[i1,V4 h k g],g⟩
theorem VG (n:Nat):∀(q m L:Nat) {t:List Nat} {d:De},q+L<=t.length->(m+1)*2 ^ n<=2*L->Q5 n q m t d=((ej n m (lZ q L t) d).1,sF q t (ej n m (lZ q L t) d).2.1,(ej n m (lZ q L t) d).2.2)/\(ej n m (lZ q L t) d).2.1=L:=by
 induction n with
 |zero=>intro q m L t d h _;exact⟨by show(m,t,d)=_;rw[ej,V6 h],KQ h⟩
 |succ n ih=>intro q m L t d h l;have k:m<L:=Xk (n:=n) l;have hb:=Z2Q (t.getD (q+m) 0) d;rw[Se,UO,UN k];have p:q+L<=(t.set (q+m) (Yd (t.getD (q+m) 0) (iP (t.getD (q+m) 0) d))).length:=(by rw[od];exact h);obtain⟨i1,g⟩:=ih q (2*m+iP (t.getD (q+m) 0) d) L (t:=t.set (q+m) (Yd (t.getD (q+m) 0) (iP (t.getD (q+m) 0) d))) (d:=qe (t.getD (q+m) 0) d) p (Y6 O l);rw[Wo h k] at i1 g;exact⟨by rw[i1,V4 h k g],g⟩
structure pd (w:World) (b o g q n:Nat) (t:List Nat):Prop where
 c0:w.cell? ⟨b,o,none⟩=some (.int .i64 (n:Int))
 c1:w.cell? ⟨b,o+1,none⟩=some (.slice (some ⟨g,q,none⟩) (2 ^ n) (2 ^ n))
 nd:Bk w g 3 (nc t)
 ne:b≠g
 lt:b<w.heap.size
theorem pd.drew (h:pd w b o g q n t):pd w.drew b o g q n t:=⟨h.c0,h.c1,h.nd,h.ne,h.lt⟩
theorem pd.fr {S:Nat->Prop} {w':aq} (h:pd w b o g q n t) (k:Fr S w w') (h1:¬S b) (l:¬S g):pd w' b o g q n t:=
 ⟨by rw[k.cell (p:=⟨b,o,none⟩) h.lt h1];exact h.c0,by rw[k.cell (p:=⟨b,o+1,none⟩) h.lt h1];exact h.c1,h.nd.fr k l,h.ne,Vas h.lt k.size⟩
theorem pd.put (h:pd w b o g q n t) (m z:Nat):pd (w.setCell (g,m) z) b o g q n (t.set m z):=by have k:Fr (only g) w (w.setCell (g,m) z):=(Fr.refl (only g) w).setCell (p:=⟨g,m,none⟩) (.inl rfl) _;have l:¬only g b:=h.ne;refine⟨by rw[k.cell (p:=⟨b,o,none⟩) h.lt l];exact h.c0,by rw[k.cell (p:=⟨b,o+1,none⟩) h.lt l];exact h.c1,?_,h.ne,Vas h.lt k.size⟩;have:=h.nd.put m z;rwa [Z0k] at this
theorem dY.offG {e:En} (l:dY w eb dv e) (h:¬foot eb dv g):dY (w.setCell (g,m) x) eb dv e:=
 l.fr (S:=only g) ((Fr.refl (only g) w).setCell (p:=⟨g,m,none⟩) (.inl rfl) x) (λe=>h (.inl e.symm)) (λk q e=>h (.inr (by rw[q];exact congrArg some e)))
theorem dD.offG {d:De} (k:dD w eb d) (h:g≠eb):dD (w.setCell (g,m) x) eb d:=
 k.fr (S:=only g) ((Fr.refl (only g) w).setCell (p:=⟨g,m,none⟩) (.inl rfl) x) (λe=>h e.symm)
theorem Gq {e:En} (l:dY w eb dv e) (h:Bk w g 3 (nc t)):¬foot eb dv g:=λk=>by rcases k with k|k;exact Bk.apart h l.1 aY k;exact Z1 l.2 h aY k
theorem Te {w1:aq} {l:aI} (h:¬foot eb dv b) (k:Zu w dv l) (hb:b<w):¬foot eb l b:=λg=>by rcases g with g|g;exact h (.inl g);rcases k with k|k;exact h (.inr (k▸g));have:=k b g;omega
theorem VM (h:n<=8):2 ^ n<=256:=co (pQ O h) aY
theorem TM {e:En} (h:pd w b o g q n t) (d5:n<=8) (d8:q+2 ^ n<=t) (e8:t.length<=1000000) (b2:iV t) (b1:dY w eb dv e) (e3:¬foot eb dv b) (b3:dE 0 e) (v:Nat) (IN:v<=9223372036854775807) (f4:e.out.length<=800000):
  Calls prog 115 #[(b,o),(eb,0),v] w λx w'=>x=.returned (.tuple #[])/\pd w' b o g q n (Z42 n q v 1 t e).1/\∃b0,dY w' eb b0 (Z42 n q v 1 t e).2/\Fr (tc g eb dv) w w'/\Zu w dv b0:=by
 have f2:=HN;have c0:=h.c0;have c9:=h.lt;obtain⟨N,E⟩:=ay ((2:Nat) ^ n);have e4:N<=256:=(by rw[<-E];exact VM d5);have b4:(1+1)*2 ^ n<=2*N:=(by rw[E];omega);have a6:=J E;rw[E] at d8;clear E;go_in;go_wp2;go_loopw [6,7] (λd7 i wr=>∃(j m:Nat) (F:aI) (u:List Nat) (x:En),j<=n/\i=((j:Int)-1:Int)/\d7=m/\Hid ((m+1)*2 ^ j<=2*N)/\pd wr b o g q n u/\iV u/\u=t.length/\dY wr eb F x/\dE 0 x/\Hid (Z42 j q v m u x=Z42 n q v 1 t e)/\Fr (tc g eb dv) w wr/\Zu w dv F/\x.out.length+2*j<=800000+2*n) (λ_ i _=>(intOf i+1).toNat);exact⟨n,1,dv,t,e,aU,rfl,rfl,J b4,h,b2,rfl,b1,b3,J rfl,Fr.refl _ _,.inl rfl,O⟩;clear c0 h b2 b1 b3 b4;obtain⟨j,m,F,u,x,f3,rfl,rfl,a0,B,a3,b8,I,a2,b5,R,G,d4⟩:=hrel;by_cases ab:0<j
 .obtain⟨k,rfl⟩:∃k,j=k+1:=⟨j-1,O⟩;have e6:m<N:=Xk (n:=k) a0.o;have a5:q+m<u:=O;have Q:=Sg k q v m u x;have i1:((k+1:Nat):Int)-1=(k:Int):=O;rw[i1];obtain⟨y,l⟩:=ay (v/2 ^ k % 2);have a4:y<2:=O;have f5:(v:Int)/2 ^ k % 2=(y:Int):=IZ;have p:=Qr a3 a5;have c5:=J (show(2*m+y+1)*2 ^ k<=2*N from Y6 (L:=N) a4 a0.o);have q1:=B.c1;rw[a6.o] at q1;have M:=B.nd.cell (q+m);rw[Xj u (q+m) a5] at M;obtain⟨z,a1⟩:=ay (u.getD (q+m) 0);rw[l,a1] at Q;rw[a1] at M p;have e7:(m:Int)<N:=O;have c3:=J (KJ I a2 z y p.1 p.2 a4 O);have Ha:=J (FM z y p.1 p.2 a4);have e5:=FR z y x;have d1:=Xx a2 (b:=y) p.1 p.2;have S:=Gq I B.nd;have c6:=Te (w1:=wr) e3 G c9;have d9:iV (u.set (q+m) (Yd z y)):=Qs a3 (q+m) (YW p);have b6:(u.set (q+m) (Yd z y))=t.length:=(by rw[od];exact b8);obtain⟨c8,a7,c4⟩:=bD Q B b6;have f6:k<=7:=O;clear Q B l a1 I a2 a3 a0 a5 b8 b6;go_wp21;refine aP c3.o λw1 ⟨b9,a9,a8,d2⟩=>?_;have D:=a7.o.fr a8 c6 S;have e1:=D.c1;rw[a6.o] at e1;have e2:=D.nd.cell (q+m);have e9:=D.nd.frozen (q+m);have b7:(nc u)[q+m]? =z:=(a7.o.nd.cell (q+m)).symm.trans M;rw[b7] at e2;clear q1 M b7;have d6:=R.size;have c7:=Gq a9 D.nd;go_wp2;go_region_with ((go_at_call 153;refine(Ha.o _).mono ?_;rintro r f7 ⟨rfl,rfl⟩))
  all_goals
   go_wp2;go_roundw;exact⟨k,2*m+y,b9,u.set (q+m) (Yd z y),nG z y x,O,rfl,by congr 1,c5,(D.put (q+m) _).drew,d9,c4.o,(a9.offG c7).drew,d1,J (by rw[<-c8.o];exact b5.o),(WH (KG R a8 G)).drew,G.trans d2 d6,O⟩;simp[intOf]<;>omega
 have d3:j=0:=O;subst d3;go_wp2;go_end0;have:=b5.o;rw[Z42] at this;rw[<-this];exact⟨rfl,B,F,I,R,G⟩
theorem z_ (n:Nat):∀(q m L:Nat) (t:List Nat) (d:De),iV t->q+L<=t.length->(m+1)*2 ^ n<=2*L->DV 0 d->iV (Q5 n q m t d).2.1/\(Q5 n q m t d).2.1=t.length/\DV 0 (Q5 n q m t d).2.2/\m*2 ^ n<=(Q5 n q m t d).1/\(Q5 n q m t d).1<(m+1)*2 ^ n:=by
 induction n with
 |zero=>intro q m L t d h1 _ _ g;exact⟨h1,rfl,g,by simp[Q5],by simp[Q5]⟩
 |succ n ih=>intro q m L t d h1 u l g;have y:m<L:=Xk (n:=n) l;have k:=Qr h1 (show q+m<t by omega);have hb:=Z2Q (t.getD (q+m) 0) d;obtain⟨a,b,c,p,r⟩:=ih q (2*m+iP (t.getD (q+m) 0) d) L _ (qe (t.getD (q+m) 0) d) (Qs h1 (q+m) (YW (b:=iP (t.getD (q+m) 0) d) k)) (by rw[od];exact u) (Y6 O l) (Dz g k.1 k.2);rw[Q5];refine⟨a,by rw[b,od],c,co ?_ p,Vas r ?_⟩;exact An;exact An
theorem TL {d:De} (h:pd w b o g q n t) (d6:n<=8) (c3:q+2 ^ n<=t) (f3:t.length<=1000000) (a4:iV t) (b7:dD w eb d) (d7:b≠eb) (a5:DV 0 d):
  Calls prog 184 #[(b,o),(eb,0)] w λx w'=>x=.returned (((Q5 n q 1 t d).1-2 ^ n:Nat):Int)/\pd w' b o g q n (Q5 n q 1 t d).2.1/\dD w' eb (Q5 n q 1 t d).2.2/\Fr (vg g eb) w w':=by
 have c0:=h.c0;have e9:=h.lt;obtain⟨N,M⟩:=ay ((2:Nat) ^ n);have e4:N<=256:=(by rw[<-M];exact VM d6);have a7:(1+1)*2 ^ n<=2*N:=(by rw[M];omega);have B:=(z_ n q 1 N t d a4 (by rw[<-M];exact c3) a7 a5).2.2.2;rw[M] at B c3 a7;rw[M];have a3:=J M;have e7:(2:Int) ^ n=(N:Int):=(by rw[<-M,Int.natCast_pow];rfl);have c8:Hid ((1+1)*2 ^ (n-0)<=2*N):=J (by rw[Nat.sub_zero,a3.o];omega);clear M;go_in;go_wp2;go_loopw [5,11] (λd8 i wr=>∃(j m:Nat) (u:List Nat) (x:De),j<=n/\i=j/\d8=m/\Hid ((m+1)*2 ^ (n-j)<=2*N)/\pd wr b o g q n u/\iV u/\u=t.length/\dD wr eb x/\DV 0 x/\Hid (Q5 (n-j) q m u x=Q5 n q 1 t d)/\Fr (vg g eb) w wr) (λ_ i _=>(n-intOf i).toNat);exact⟨0,1,t,d,cf _,rfl,rfl,c8,h,a4,rfl,b7,a5,J rfl,Fr.refl _ _⟩;clear c0 h a4 b7 a5 a7 c8;obtain⟨j,m,u,x,f5,rfl,rfl,F,hu,a9,c7,D,a8,b0,I⟩:=hrel;by_cases ab:j<n
 .have f2:(j:Int)<n:=O;obtain⟨k,b8⟩:∃k,n-j=k+1:=⟨n-j-1,O⟩;have b4:n-(j+1)=k:=O;rw[b8] at F b0;have e6:m<N:=Xk (n:=k) F.o;have a2:q+m<u:=O;have S:=Se k q m u x;have Q:=Qr a9 a2;have b5:=Z2Q (u.getD (q+m) 0) x;have q1:=hu.c1;rw[a3.o] at q1;have a1:=hu.nd.cell (q+m);rw[Xj u (q+m) a2] at a1;obtain⟨z,b9⟩:=ay (u.getD (q+m) 0);rw[b9] at S b5 a1 Q;obtain⟨y,a6⟩:=ay (iP z x);rw[a6] at S b5;have c4:y<2:=O;have d1:=J (show(2*m+y+1)*2 ^ k<=2*N from Y6 (L:=N) c4 F.o);have e8:(m:Int)<N:=O;have R:=KE D a8 z Q.1 Q.2;rw[a6] at R;have R:=J R;have Ha:=J (FM z y Q.1 Q.2 c4);have d4:=Dz a8 Q.1 Q.2;have b2:g≠eb:=Bk.apart hu.nd D aY;have d9:iV (u.set (q+m) (Yd z y)):=Qs a9 (q+m) (YW Q);have c5:(u.set (q+m) (Yd z y))=t.length:=(by rw[od];exact c7);obtain⟨c9,d2,b3,b1⟩:=dc c5 S hu b4;clear S hu a6 b9 D a8 a9 F a2 c7 c5 b8 b4 B;go_wp21;refine aP R.o λw1 ⟨d3,b6⟩=>?_;have a0:=b3.o.fr b6 d7 b2;have e1:=a0.c1;rw[a3.o] at e1;have e2:=a0.nd.cell (q+m);have f4:=a0.nd.frozen (q+m);have c6:(nc u)[q+m]? =z:=(b3.o.nd.cell (q+m)).symm.trans a1;rw[c6] at e2;clear q1 a1 c6;go_wp2;go_region_with ((go_at_call 153;refine(Ha.o _).mono ?_;rintro r f7 ⟨rfl,rfl⟩))
  all_goals
   go_wp2;go_roundw;exact⟨j+1,2*m+y,u.set (q+m) (Yd z y),qe z x,O,ci,by congr 1,by rw[b1.o];exact d1,(a0.put (q+m) _).drew,d9,c9.o,(d3.offG b2).drew,d4,J (by rw[b1.o,<-d2.o];exact b0.o),((I.trans' b6 (λi hi e=>.inr e)).setCell (p:=⟨g,q+m,none⟩) (.inl (.inl rfl)) _).drew⟩;simp[intOf]<;>omega
 have d5:n=j:=O;subst d5;have l:=b0.o;rw[fh,Q5] at l;have f6:=hu.c0;have G:(Q5 n q 1 t d).1=m:=(by rw[<-l]);rw[G] at B;have e3:N<=m:=O;have a2:m<2*N:=O;have E:=J l;have e5:¬(n:Int)<n:=O;exact OK
end
variable{M j:Nat}{l:List (List Nat)}
theorem ZdY {L:Nat} (h:∀t∈l,t.length=L):l.flatten=L*l.length:=by
 induction l with
 |nil=>simp
 |cons t r ih=>exact aO
theorem J5 {L:Nat} :∀ {l:List (List Nat)},(∀t∈l,t.length=L)->∀ {j:Nat},j<l.length->lZ (L*j) L l.flatten=l.getD j []/\∀u:List Nat,u.length=L->sF (L*j) l.flatten u=(l.set j u).flatten
 |[],_,j,hj=>aO
 |t::r,h,j,hj=>by
  have y:=h t fi;have k:=λx p=>h x (gM _ p);cases j with
  |zero=>refine⟨?_,λu g=> ?_⟩;show lZ 0 L (t++r.flatten)=t;unfold lZ;grind;show sF 0 (t++r.flatten) u=u++r.flatten;unfold sF;grind
  |succ j=>obtain⟨i1,q⟩:=J5 (L:=L) (l:=r) k (j:=j) aO;have e:L*(j+1)=t.length+L*j:=aO;refine⟨?_,λu g=> ?_⟩;show lZ (L*(j+1)) L (t++r.flatten)=r.getD j [];unfold lZ at i1⊢;rw[e,<-i1,List.drop_append,oc O,pU,Nat.add_sub_cancel_left];show sF (L*(j+1)) (t++r.flatten) u=t++(r.set j u).flatten;rw[<-q u g];unfold sF;rw[e,List.take_append,d' O,Nat.add_sub_cancel_left,IG,List.drop_append,oc O,pU,Nat.add_sub_cancel_left];grind
theorem Vg (h:∀t∈l,iV t):iV l.flatten:=by intro x g;obtain⟨t,k,g⟩:=List.mem_flatten.1 g;exact h t k x g
theorem ZiA:(List.replicate 8 (wF 8)).flatten=List.replicate 2048 1024:=Aq
def pY (M j:Nat):List Nat:=List.replicate j 1024++List.replicate (M-j) 0
theorem TN (h:j<M):(pY M j).set j 1024=pY M (j+1):=by unfold pY;rw[nj _ _ (by simp),iE,fh,show M-j=(M-(j+1))+1 from by exact O,pP,List.set_cons_zero,List.replicate_succ',er];rfl
theorem RF (h:j<=M):(pY M j)=M:=by simp[pY];omega
theorem Zee (M:Nat):pY M M=List.replicate M 1024:=by simp[pY]
theorem Z4l (M:Nat):nc (pY M 0)=Array.replicate M (.int .i64 0):=by apply pS.1;simp[nc,pY]
def tJ (g j:Nat):Array aI:=((List.range 8).flatMap (λk=>if k<j then[Value.int .i64 8,.slice (some ⟨g,256*k,none⟩) 256 256] else[.int .i64 0,.slice none 0 0])).toArray
theorem Zq8 (g:Nat) (h:j<8):(tJ g j)[2*j]? =(0:Int)/\(tJ g j)[2*j+1]? =some (.slice none 0 0)/\((tJ g j).setIfInBounds (2*j) (8:Int)).setIfInBounds (2*j+1) (.slice (some ⟨g,256*j,none⟩) 256 256)=tJ g (j+1):=by rcases(show j=0\/j=1\/j=2\/j=3\/j=4\/j=5\/j=6\/j=7 by omega) with rfl|rfl|rfl|rfl|rfl|rfl|rfl|rfl<;>exact⟨rfl,rfl,rfl⟩
theorem ZbQ (w:aq):
  Calls prog 196 #[(1:Int),(1:Int)] w λx w'=>x=.returned (.slice (some (w.heap.size+1,0)) 1 1)/\Bk w' w 3 (nc (wF 1))/\Bk w' (w.heap.size+1) 239 #[(1:Int),.slice (some (w,0)) 2 2]/\Below w w w':=by
 have l:=Y5 (P:=prog) 103 3 _ _ underlying103 Y2 rfl 2 2 rfl O O w;rw[<-Z4l] at l;have a5:∀w:aq,(Instr.makeSlice 283 (1:Int) (1:Int)).run prog w=.ok (.slice (some (w,0)) 1 1) (w.alloc (.cells #[(0:Int),.slice none 0 0] 239)):=λ_=>qD;go_in;go_wp2;go_loopw [6,17] (λ_ i wr=>∃j:Nat,j<=2/\i=j/\Bk wr w 3 (nc (pY 2 j))/\Below w w wr/\wr=w.heap.size+1) (λ_ i _=>(2-intOf i).toNat);exact W2A;obtain⟨j,D,rfl,g,I,G⟩:=hrel;by_cases ab:j<2;have a0:=g.cell j;rw[Xj _ _ (by rw[RF D];exact ab)] at a0;have a4:=g.frozen j;have q:=g.put j (.int .i64 ((1024:Nat):Int));rw[Z0k,TN ab] at q;exact NJ;have a1:j=2:=O;subst a1;have k:=J G;have M:=J g;clear G g l;go_wp2;rw[k.o];have B:=I.alloc I.size (.cells #[(0:Int),.slice none 0 0] 239);have aa:=M.o.alloc (.cells #[(0:Int),.slice none 0 0] 239);have z:Bk (wr.alloc (.cells #[(0:Int),.slice none 0 0] 239)) (w.heap.size+1) 239 #[(0:Int),.slice none 0 0]:=k.o▸Bk.new wr _ _;go_loopw [8,9,10,28] (λ_ _ _ i y=>∃j:Nat,j<=1/\i=j/\(j=0->Bk y (w.heap.size+1) 239 #[(0:Int),.slice none 0 0])/\(j=1->Bk y (w.heap.size+1) 239 #[(1:Int),.slice (some (w,0)) 2 2])/\Bk y w 3 (nc (pY 2 2))/\Below w w y) (λ_ _ _ i _=>(1-intOf i).toNat);exact⟨0,O,rfl,λ_=>z,λh=>O,aa,B⟩;clear B aa z I;obtain⟨j,D,rfl,h0,h1,hb,I⟩:=hrel;by_cases ab:j<1
 .have S:j=0:=O;subst S;have u:=h0 rfl;have a2:=u.cell 0;have q1:=u.cell 1;have a6:=u.frozen 0;have a7:=u.frozen 1;simp at a2 q1;have E:=J u;clear h0 h1 u ab;go_wp2;go_region;go_wp2;go_roundw;.refine⟨1,O,rfl,λh=>O,λ_=> ?_,?_,?_⟩;have R:=(E.o.put 0 (1:Int)).put 1 (.slice (some ⟨w,0,none⟩) 2 2);have Q:=R.drew;simpa using Q;exact O';exact O4
  simp[intOf]
 have a3:j=1:=O;subst a3;have F:=J (h1 rfl);clear h0 h1;go_wp2;go_ret;exact⟨rfl,by rw[show wF 1=pY 2 2 from by exact aY];exact hb,F.o,I⟩
theorem ZbR (w:aq):
  Calls prog 196 #[(8:Int),(8:Int)] w λx w'=>x=.returned (.slice (some (w.heap.size+1,0)) 8 8)/\Bk w' w 3 (nc (List.replicate 2048 1024))/\Bk w' (w.heap.size+1) 239 (tJ w 8)/\Below w w w':=by
 have B:=Y5 (P:=prog) 103 3 _ _ underlying103 Y2 rfl 2048 2048 rfl O O w;rw[<-Z4l] at B;obtain⟨y,G⟩:=ay (tJ w 0);have b4:∀W:aq,(Instr.makeSlice 283 (8:Int) (8:Int)).run prog W=.ok (.slice (some (W,0)) 8 8) (W.alloc (.cells y 239)):=λ_=>(by rw[<-G];kernel_rfl);have b1:=J G;have a1:=J (Zee 2048);obtain⟨D,M⟩:∃f:Nat->List Nat,(λj=>pY 2048 j)=f:=⟨_,rfl⟩;have I:∀j,pY 2048 j=D j:=λj=>congrFun M j;have R:=J (λj (h:j<2048)=>(TN h:(pY 2048 j).set j 1024=_));have Q:=J (λj (h:j<=2048)=>(RF h:(pY 2048 j).length=2048));simp only[I] at R Q a1 B;clear G M I;go_in;go_wp2;go_loopw [6,17] (λ_ i wr=>∃j:Nat,j<=2048/\i=.int .i64 j/\Bk wr w 3 (nc (D j))/\Below w w wr/\wr=w.heap.size+1) (λ_ i _=>(2048-intOf i).toNat);exact W2A;obtain⟨j,a2,rfl,t,q,z⟩:=hrel;by_cases ab:j<2048;.have a6:=t.cell j;rw[Xj _ _ (by rw[Q.o j a2];exact ab)] at a6;have b3:=t.frozen j;have E:=t.put j (.int .i64 ((1024:Nat):Int));rw[Z0k,R.o j ab] at E;have g:=J E;have u:=J z;have b2:(j:Int)<2048:=O;clear E t z B;go_wp2;go_roundw;exact⟨j+1,O,ci,g.o,q.setCell (p:=⟨w,j,none⟩) aU _,by simpa using u.o⟩;simp[intOf]<;>omega
 have a7:j=2048:=O;subst a7;have u:=J z;have a5:=J t;clear z t B;go_wp2;rw[u.o];have a0:=q.alloc q.size (.cells y 239);have aa:=a5.o.alloc (.cells y 239);have S:Bk (wr.alloc (.cells y 239)) (w.heap.size+1) 239 (tJ w 0):=(by rw[b1.o];exact u.o▸Bk.new wr _ _);go_loopw [8,9,10,28] (λ_ _ _ i F=>∃j:Nat,j<=8/\i=.int .i64 j/\Hid (Bk F (w.heap.size+1) 239 (tJ w j))/\Hid (Bk F w 3 (nc (D 2048)))/\Hid (Below w w F)) (λ_ _ _ i _=>(8-intOf i).toNat);exact⟨0,O,rfl,J S,J aa,J a0⟩;clear a0 aa S q;obtain⟨j,a2,rfl,h0,hb,q⟩:=hrel;by_cases ab:j<8
 .obtain⟨t0,t1,a4⟩:=Zq8 w ab;have a3:=h0.o.cell (2*j);have q1:=h0.o.cell (2*j+1);have a8:=h0.o.frozen (2*j);have a9:=h0.o.frozen (2*j+1);rw[t0] at a3;rw[t1] at q1;have g:=(h0.o.put (2*j) (8:Int)).put (2*j+1) (.slice (some ⟨w,256*j,none⟩) 256 256);rw[a4] at g;obtain⟨g,k,l⟩:=bD g ((hb.o.off (p:=⟨w+1,2*j,none⟩) (by simp) (8:Int)).off (p:=⟨w+1,2*j+1,none⟩) (by simp) (.slice (some ⟨w,256*j,none⟩) 256 256)) ((q.o.setCell (p:=⟨w+1,2*j,none⟩) (by simp) (8:Int)).setCell (p:=⟨w+1,2*j+1,none⟩) (by simp) (.slice (some ⟨w,256*j,none⟩) 256 256));clear t0 t1 a4 h0 hb q;rcases(show j=0\/j=1\/j=2\/j=3\/j=4\/j=5\/j=6\/j=7 by omega) with rfl|rfl|rfl|rfl|rfl|rfl|rfl|rfl
  all_goals
   clear ab;simp only[Nat.reduceMul,Nat.reduceAdd] at a3 q1 a8 a9 g k l;go_wp2;go_region;go_wp2;go_roundw;.first|exact⟨1,aY,rfl,J g.o.drew,J k.o.drew,J l.o.drew⟩|exact⟨2,aY,rfl,J g.o.drew,J k.o.drew,J l.o.drew⟩|exact⟨3,aY,rfl,J g.o.drew,J k.o.drew,J l.o.drew⟩|exact⟨4,aY,rfl,J g.o.drew,J k.o.drew,J l.o.drew⟩|exact⟨5,aY,rfl,J g.o.drew,J k.o.drew,J l.o.drew⟩|exact⟨6,aY,rfl,J g.o.drew,J k.o.drew,J l.o.drew⟩|exact⟨7,aY,rfl,J g.o.drew,J k.o.drew,J l.o.drew⟩|exact⟨8,aY,rfl,J g.o.drew,J k.o.drew,J l.o.drew⟩
   simp[intOf]
 have b0:j=8:=O;subst b0;go_wp2;go_ret;exact⟨rfl,by rw[<-a1.o];exact hb.o,h0.o,q.o⟩
