import Derived.Test.YtnjkjoklnephcaaGreatDoorJ09
set_option linter.all false
set_option maxRecDepth 100000
set_option maxHeartbeats 0
open Go.Proofs.Tryz (prog underlying123)
namespace Go.Proofs.Y
open Wv Go.RowKit
section
variable{L b eb g m n o q z:Nat}{dv x:aJ}{t:List Nat}{w:au}
def vu:Nat->Nat->Nat->Nat->List Nat->En->List Nat×En
 |0,_,_,_,t,e=>(t,e)
 |n+1,q,v,m,t,e=>vu n q v (2*m+v/2 ^ n % 2) (t.set (q+m) (Yc (t.getD (q+m) 0) (v/2 ^ n % 2))) (nP (t.getD (q+m) 0) (v/2 ^ n % 2) e)
def Qa:Nat->Nat->Nat->List Nat->De->Nat×List Nat×De
 |0,_,m,t,d=>(m,t,d)
 |n+1,q,m,t,d=>Qa n q (2*m+iO (t.getD (q+m) 0) d) (t.set (q+m) (Yc (t.getD (q+m) 0) (iO (t.getD (q+m) 0) d))) (qh (t.getD (q+m) 0) d)
theorem SY (n q v m:Nat) (t:List Nat) (e:En):vu (n+1) q v m t e=vu n q v (2*m+v/2 ^ n % 2) (t.set (q+m) (Yc (t.getD (q+m) 0) (v/2 ^ n % 2))) (nP (t.getD (q+m) 0) (v/2 ^ n % 2) e):=rfl
theorem SW (n q m:Nat) (t:List Nat) (d:De):Qa (n+1) q m t d=Qa n q (2*m+iO (t.getD (q+m) 0) d) (t.set (q+m) (Yc (t.getD (q+m) 0) (iO (t.getD (q+m) 0) d))) (qh (t.getD (q+m) 0) d):=rfl
def me (q L:Nat) (t:List Nat):List Nat:=(t.drop q).take L
def sC (q:Nat) (t u:List Nat):List Nat:=t.take q++u++t.drop (q+u.length)
theorem K2 (h:q+L<=t):(me q L t)=L:=by unfold me;rw[eC,jt];omega
theorem WE (h:q+L<=t):sC q t (me q L t)=t:=by unfold sC;rw[K2 h];unfold me;rw[ey,<-rX,sT,sT]
theorem U' (g:m<L):(me q L t).getD m 0=t.getD (q+m) 0:=by unfold me;simp[List.getD,List.getElem?_take_of_lt g]
theorem WD {u:List Nat} (h:q+L<=t) (k:m<L) (g:u=L):sC q (t.set (q+m) z) u=sC q t u:=by unfold sC;rw[g,List.take_set,List.drop_set];rw[List.set_eq_of_length_le vW,aP O]
theorem VZ (h:q+L<=t) (g:m<L):me q L (t.set (q+m) z)=(me q L t).set m z:=by unfold me;rw[List.drop_set,az O,List.take_set,Nat.add_sub_cancel_left]
theorem V4 (n:Nat):∀(q v m L:Nat) {t:List Nat} {e:En},q+L<=t.length->(m+1)*2 ^ n<=2*L->vu n q v m t e=(sC q t (fY n v m (me q L t) e).1,(fY n v m (me q L t) e).2)/\(fY n v m (me q L t) e).1=L:=by
 induction n with
 |zero=>intro q v m L t e h _;exact⟨by show(t,e)=_;rw[fY,WE h],K2 h⟩
 |succ n ih=>intro q v m L t e h l;have k:m<L:=Xn (n:=n) l;have hb:v/2 ^ n % 2<2:=O;rw[SY,Uu];have p:q+L<=(t.set (q+m) (Yc (t.getD (q+m) 0) (v/2 ^ n % 2))).length:=(by rw[og];exact h);obtain⟨i1,g⟩:=ih q v (2*m+v/2 ^ n % 2) L (t:=t.set (q+m) (Yc (t.getD (q+m) 0) (v/2 ^ n % 2))) (e:=nP (t.getD (q+m) 0) (v/2 ^ n % 2) e) p (Y5 hb l);rw[VZ h k] at i1 g;rw[U' k];exact⟨by rw[i1,WD h k g],g⟩
theorem V2 (n:Nat):∀(q m L:Nat) {t:List Nat} {d:De},q+L<=t.length->(m+1)*2 ^ n<=2*L->Qa n q m t d=((er n m (me q L t) d).1,sC q t (er n m (me q L t) d).2.1,(er n m (me q L t) d).2.2)/\(er n m (me q L t) d).2.1=L:=by
 induction n with
 |zero=>intro q m L t d h _;exact⟨by show(m,t,d)=_;rw[er,WE h],K2 h⟩
 |succ n ih=>intro q m L t d h l;have k:m<L:=Xn (n:=n) l;have hb:=ze (t.getD (q+m) 0) d;rw[SW,Vc,U' k];have p:q+L<=(t.set (q+m) (Yc (t.getD (q+m) 0) (iO (t.getD (q+m) 0) d))).length:=(by rw[og];exact h);obtain⟨i1,g⟩:=ih q (2*m+iO (t.getD (q+m) 0) d) L (t:=t.set (q+m) (Yc (t.getD (q+m) 0) (iO (t.getD (q+m) 0) d))) (d:=qh (t.getD (q+m) 0) d) p (Y5 O l);rw[VZ h k] at i1 g;exact⟨by rw[i1,WD h k g],g⟩
structure pe (w:World) (b o g q n:Nat) (t:List Nat):Prop where
 c0:w.cell? ⟨b,o,none⟩=some (.int .i64 (n:Int))
 c1:w.cell? ⟨b,o+1,none⟩=some (.slice (some ⟨g,q,none⟩) (2 ^ n) (2 ^ n))
 nd:Bk w g 3 (nc t)
 ne:b≠g
 lt:b<w.heap.size
theorem pe.drew (h:pe w b o g q n t):pe w.drew b o g q n t:=⟨h.c0,h.c1,h.nd,h.ne,h.lt⟩
theorem pe.fr {S:Nat->Prop} {w':au} (h:pe w b o g q n t) (k:Fr S w w') (h1:¬S b) (l:¬S g):pe w' b o g q n t:=
 ⟨by rw[k.cell (p:=⟨b,o,none⟩) h.lt h1];exact h.c0,by rw[k.cell (p:=⟨b,o+1,none⟩) h.lt h1];exact h.c1,h.nd.fr k l,h.ne,eD h.lt k.size⟩
theorem pe.put (h:pe w b o g q n t) (m z:Nat):pe (w.setCell (g,m) z) b o g q n (t.set m z):=by have k:Fr (only g) w (w.setCell (g,m) z):=(Fr.refl (only g) w).setCell (p:=⟨g,m,none⟩) (.inl rfl) _;have l:¬only g b:=h.ne;refine⟨by rw[k.cell (p:=⟨b,o,none⟩) h.lt l];exact h.c0,by rw[k.cell (p:=⟨b,o+1,none⟩) h.lt l];exact h.c1,?_,h.ne,eD h.lt k.size⟩;have:=h.nd.put m z;rwa [vg] at this
theorem dT.offG {e:En} (l:dT w eb dv e) (h:¬foot eb dv g):dT (w.setCell (g,m) x) eb dv e:=
 l.fr (S:=only g) ((Fr.refl (only g) w).setCell (p:=⟨g,m,none⟩) (.inl rfl) x) (λe=>h (.inl e.symm)) (λk q e=>h (.inr (by rw[q];exact congrArg some e)))
theorem dA.offG {d:De} (k:dA w eb d) (h:g≠eb):dA (w.setCell (g,m) x) eb d:=
 k.fr (S:=only g) ((Fr.refl (only g) w).setCell (p:=⟨g,m,none⟩) (.inl rfl) x) (λe=>h e.symm)
theorem GJ {e:En} (l:dT w eb dv e) (h:Bk w g 3 (nc t)):¬foot eb dv g:=λk=>by rcases k with k|k;exact Bk.apart h l.1 aZ k;exact Z1 l.2 h aZ k
theorem Ty {w1:au} {l:aJ} (h:¬foot eb dv b) (k:Zu w dv l) (hb:b<w):¬foot eb l b:=λg=>by rcases g with g|g;exact h (.inl g);rcases k with k|k;exact h (.inr (k▸g));have:=k b g;omega
theorem We (h:n<=8):2 ^ n<=256:=cp (pT O h) aZ
theorem T7 {e:En} (h:pe w b o g q n t) (d2:n<=8) (d6:q+2 ^ n<=t) (e8:t.length<=1000000) (b1:iU t) (b0:dT w eb dv e) (d8:¬foot eb dv b) (b2:dB 0 e) (v:Nat) (e5:v<=9223372036854775807) (f4:e.out.length<=800000):
  Calls prog 118 #[(b,o),(eb,0),v] w λx w'=>x=.returned (.tuple #[])/\pe w' b o g q n (vu n q v 1 t e).1/\∃a9,dT w' eb a9 (vu n q v 1 t e).2/\Fr (tc g eb dv) w w'/\Zu w dv a9:=by
 have f2:=HS;have c0:=h.c0;have c8:=h.lt;obtain⟨N,E⟩:=ay ((2:Nat) ^ n);have e2:N<=256:=(by rw[<-E];exact We d2);have b3:(1+1)*2 ^ n<=2*N:=(by rw[E];omega);have a6:=J E;rw[E] at d6;clear E;go_in;go_wp2;go_loopw [6,7] (λd5 i wr=>∃(j m:Nat) (F:aJ) (u:List Nat) (x:En),j<=n/\i=((j:Int)-1:Int)/\d5=m/\Hid ((m+1)*2 ^ j<=2*N)/\pe wr b o g q n u/\iU u/\u=t.length/\dT wr eb F x/\dB 0 x/\Hid (vu j q v m u x=vu n q v 1 t e)/\Fr (tc g eb dv) w wr/\Zu w dv F/\x.out.length+2*j<=800000+2*n) (λ_ i _=>(intOf i+1).toNat);exact⟨n,1,dv,t,e,aW,rfl,rfl,J b3,h,b1,rfl,b0,b2,J rfl,Fr.refl _ _,.inl rfl,O⟩;clear c0 h b1 b0 b2 b3;obtain⟨j,m,F,u,x,f3,rfl,rfl,a1,B,a3,b7,I,R,b4,S,G,e7⟩:=hrel;by_cases ab:0<j
 .obtain⟨k,rfl⟩:∃k,j=k+1:=⟨j-1,O⟩;have e4:m<N:=Xn (n:=k) a1.o;have a5:q+m<u:=O;have Q:=SY k q v m u x;have i1:((k+1:Nat):Int)-1=(k:Int):=O;rw[i1];obtain⟨y,l⟩:=ay (v/2 ^ k % 2);have a4:y<2:=O;have f5:(v:Int)/2 ^ k % 2=(y:Int):=I0;have p:=Qt a3 a5;have c3:=J (show(2*m+y+1)*2 ^ k<=2*N from Y5 (L:=N) a4 a1.o);have q1:=B.c1;rw[a6.o] at q1;have M:=B.nd.cell (q+m);rw[Xm u (q+m) a5] at M;obtain⟨z,a2⟩:=ay (u.getD (q+m) 0);rw[l,a2] at Q;rw[a2] at M p;have e6:(m:Int)<N:=O;have b9:=J (KT I R z y p.1 p.2 a4 O);have Ha:=J (F2 z y p.1 p.2 a4);have e3:=F7 z y x;have c9:=XB R (b:=y) p.1 p.2;have a0:=GJ I B.nd;have c5:=Ty (w1:=wr) d8 G c8;have d7:iU (u.set (q+m) (Yc z y)):=Qu a3 (q+m) (X1 p);have b5:(u.set (q+m) (Yc z y))=t.length:=(by rw[og];exact b7);obtain⟨c7,a7,c4⟩:=bF Q B b5;have f6:k<=7:=O;clear Q B l a2 I R a3 a1 a5 b7 b5;go_wp21;refine aO b9.o λw1 ⟨b8,a8,an,d1⟩=>?_;have D:=a7.o.fr an c5 a0;have d9:=D.c1;rw[a6.o] at d9;have e1:=D.nd.cell (q+m);have e9:=D.nd.frozen (q+m);have b6:(nc u)[q+m]? =z:=(a7.o.nd.cell (q+m)).symm.trans M;rw[b6] at e1;clear q1 M b6;have d3:=S.size;have c6:=GJ a8 D.nd;go_wp2;go_region_with ((go_at_call 163;refine(Ha.o _).mono ?_;rintro r f7 ⟨rfl,rfl⟩))
  all_goals
   go_wp2;go_roundw;exact⟨k,2*m+y,b8,u.set (q+m) (Yc z y),nP z y x,O,rfl,by congr 1,c3,(D.put (q+m) _).drew,d7,c4.o,(a8.offG c6).drew,c9,J (by rw[<-c7.o];exact b4.o),(f_ (K4 S an G)).drew,G.trans d1 d3,O⟩;simp[intOf]<;>omega
 have d4:j=0:=O;subst d4;go_wp2;go_end0;have:=b4.o;rw[vu] at this;rw[<-this];exact⟨rfl,B,F,I,S,G⟩
theorem V_ (n:Nat):∀(q m L:Nat) (t:List Nat) (d:De),iU t->q+L<=t.length->(m+1)*2 ^ n<=2*L->DV 0 d->iU (Qa n q m t d).2.1/\(Qa n q m t d).2.1=t.length/\DV 0 (Qa n q m t d).2.2/\m*2 ^ n<=(Qa n q m t d).1/\(Qa n q m t d).1<(m+1)*2 ^ n:=by
 induction n with
 |zero=>intro q m L t d h1 _ _ g;exact⟨h1,rfl,g,by simp[Qa],by simp[Qa]⟩
 |succ n ih=>intro q m L t d h1 u l g;have y:m<L:=Xn (n:=n) l;have k:=Qt h1 (show q+m<t by omega);have hb:=ze (t.getD (q+m) 0) d;obtain⟨a,b,c,p,r⟩:=ih q (2*m+iO (t.getD (q+m) 0) d) L _ (qh (t.getD (q+m) 0) d) (Qu h1 (q+m) (X1 (b:=iO (t.getD (q+m) 0) d) k)) (by rw[og];exact u) (Y5 O l) (DN g k.1 k.2);rw[Qa];refine⟨a,by rw[b,og],c,cp ?_ p,eD r ?_⟩;exact Aq;exact Aq
theorem T6 {d:De} (h:pe w b o g q n t) (d4:n<=8) (b8:q+2 ^ n<=t) (e9:t.length<=1000000) (a4:iU t) (b5:dA w eb d) (d5:b≠eb) (a5:DV 0 d):
  Calls prog 215 #[(b,o),(eb,0)] w λx w'=>x=.returned (((Qa n q 1 t d).1-2 ^ n:Nat):Int)/\pe w' b o g q n (Qa n q 1 t d).2.1/\dA w' eb (Qa n q 1 t d).2.2/\Fr (vp g eb) w w':=by
 have c0:=h.c0;have e7:=h.lt;obtain⟨N,I⟩:=ay ((2:Nat) ^ n);have e3:N<=256:=(by rw[<-I];exact We d4);have a7:(1+1)*2 ^ n<=2*N:=(by rw[I];omega);have l:=(V_ n q 1 N t d a4 (by rw[<-I];exact b8) a7 a5).2.2.2;rw[I] at l b8 a7;rw[I];have a2:=J I;have e5:(2:Int) ^ n=(N:Int):=(by rw[<-I,Int.natCast_pow];rfl);have c6:Hid ((1+1)*2 ^ (n-0)<=2*N):=J (by rw[Nat.sub_zero,a2.o];omega);clear I;go_in;go_wp2;go_loopw [5,11] (λd6 i wr=>∃(j m:Nat) (u:List Nat) (x:De),j<=n/\i=j/\d6=m/\Hid ((m+1)*2 ^ (n-j)<=2*N)/\pe wr b o g q n u/\iU u/\u=t.length/\dA wr eb x/\DV 0 x/\Hid (Qa (n-j) q m u x=Qa n q 1 t d)/\Fr (vp g eb) w wr) (λ_ i _=>(n-intOf i).toNat);exact⟨0,1,t,d,cf _,rfl,rfl,c6,h,a4,rfl,b5,a5,J rfl,Fr.refl _ _⟩;clear c0 h a4 b5 a5 a7 c6;obtain⟨j,m,u,x,f3,rfl,rfl,hm,hu,a8,c5,D,a3,a9,E⟩:=hrel;by_cases ab:j<n
 .have e8:(j:Int)<n:=O;obtain⟨k,b6⟩:∃k,n-j=k+1:=⟨n-j-1,O⟩;have b1:n-(j+1)=k:=O;rw[b6] at hm a9;have e4:m<N:=Xn (n:=k) hm.o;have a1:q+m<u:=O;have R:=SW k q m u x;have M:=Qt a8 a1;have b4:=ze (u.getD (q+m) 0) x;have q1:=hu.c1;rw[a2.o] at q1;have a0:=hu.nd.cell (q+m);rw[Xm u (q+m) a1] at a0;obtain⟨z,b7⟩:=ay (u.getD (q+m) 0);rw[b7] at R b4 a0 M;obtain⟨y,a6⟩:=ay (iO z x);rw[a6] at R b4;have b9:y<2:=O;have c7:=J (show(2*m+y+1)*2 ^ k<=2*N from Y5 (L:=N) b9 hm.o);have e6:(m:Int)<N:=O;have Q:=KM D a3 z M.1 M.2;rw[a6] at Q;have Q:=J Q;have Ha:=J (F2 z y M.1 M.2 b9);have d2:=DN a3 M.1 M.2;have b2:g≠eb:=Bk.apart hu.nd D aZ;have d7:iU (u.set (q+m) (Yc z y)):=Qu a8 (q+m) (X1 M);have c3:(u.set (q+m) (Yc z y))=t.length:=(by rw[og];exact c5);obtain⟨c8,c9,b3,b0⟩:=dm c3 R hu b1;clear R hu a6 b7 D a3 a8 hm a1 c5 c3 b6 b1 l;go_wp21;refine aO Q.o λw1 ⟨d1,an⟩=>?_;have S:=b3.o.fr an d5 b2;have d8:=S.c1;rw[a2.o] at d8;have d9:=S.nd.cell (q+m);have f2:=S.nd.frozen (q+m);have c4:(nc u)[q+m]? =z:=(b3.o.nd.cell (q+m)).symm.trans a0;rw[c4] at d9;clear q1 a0 c4;go_wp2;go_region_with ((go_at_call 163;refine(Ha.o _).mono ?_;rintro r f5 ⟨rfl,rfl⟩))
  all_goals
   go_wp2;go_roundw;exact⟨j+1,2*m+y,u.set (q+m) (Yc z y),qh z x,O,ck,by congr 1,by rw[b0.o];exact c7,(S.put (q+m) _).drew,d7,c8.o,(d1.offG b2).drew,d2,J (by rw[b0.o,<-c9.o];exact a9.o),((E.trans' an (λi hi e=>.inr e)).setCell (p:=⟨g,q+m,none⟩) (.inl (.inl rfl)) _).drew⟩;simp[intOf]<;>omega
 have d3:n=j:=O;subst d3;have B:=a9.o;rw[fv,Qa] at B;have f4:=hu.c0;have F:(Qa n q 1 t d).1=m:=(by rw[<-B]);rw[F] at l;have e2:N<=m:=O;have a1:m<2*N:=O;have G:=J B;have e1:¬(n:Int)<n:=O;exact Pt
end
variable{M j:Nat}{l:List (List Nat)}
theorem Ze7 {L:Nat} (h:∀t∈l,t.length=L):l.flatten=L*l.length:=by
 induction l with
 |nil=>simp
 |cons t r ih=>exact aI
theorem Ka {L:Nat} :∀ {l:List (List Nat)},(∀t∈l,t.length=L)->∀ {j:Nat},j<l.length->me (L*j) L l.flatten=l.getD j []/\∀u:List Nat,u.length=L->sC (L*j) l.flatten u=(l.set j u).flatten
 |[],_,j,hj=>aI
 |t::r,h,j,hj=>by
  have y:=h t fm;have k:=λx p=>h x (gN _ p);cases j with
  |zero=>refine⟨?_,λu g=> ?_⟩;show me 0 L (t++r.flatten)=t;unfold me;grind;show sC 0 (t++r.flatten) u=u++r.flatten;unfold sC;grind
  |succ j=>obtain⟨i1,q⟩:=Ka (L:=L) (l:=r) k (j:=j) aI;have e:L*(j+1)=t.length+L*j:=aI;refine⟨?_,λu g=> ?_⟩;show me (L*(j+1)) L (t++r.flatten)=r.getD j [];unfold me at i1⊢;rw[e,<-i1,List.drop_append,oe O,pX,Nat.add_sub_cancel_left];show sC (L*(j+1)) (t++r.flatten) u=t++(r.set j u).flatten;rw[<-q u g];unfold sC;rw[e,List.take_append,dU O,Nat.add_sub_cancel_left,EA,List.drop_append,oe O,pX,Nat.add_sub_cancel_left];grind
theorem VB (h:∀t∈l,iU t):iU l.flatten:=by intro x g;obtain⟨t,k,g⟩:=List.mem_flatten.1 g;exact h t k x g
theorem ZiJ:(List.replicate 8 (wN 8)).flatten=List.replicate 2048 1024:=Au
def p' (M j:Nat):List Nat:=List.replicate j 1024++List.replicate (M-j) 0
theorem T8 (h:j<M):(p' M j).set j 1024=p' M (j+1):=by unfold p';rw[nz _ _ (by simp),iK,fv,show M-j=(M-(j+1))+1 from by exact O,pS,List.set_cons_zero,List.replicate_succ',ey];rfl
theorem R9 (h:j<=M):(p' M j)=M:=by simp[p'];omega
theorem Zen (M:Nat):p' M M=List.replicate M 1024:=by simp[p']
theorem Tz (M:Nat):nc (p' M 0)=Array.replicate M (.int .i64 0):=by apply pV.1;simp[nc,p']
def tI (g j:Nat):Array aJ:=((List.range 8).flatMap (λk=>if k<j then[Value.int .i64 8,.slice (some ⟨g,256*k,none⟩) 256 256] else[.int .i64 0,.slice none 0 0])).toArray
theorem Zqf (g:Nat) (h:j<8):(tI g j)[2*j]? =(0:Int)/\(tI g j)[2*j+1]? =some (.slice none 0 0)/\((tI g j).setIfInBounds (2*j) (8:Int)).setIfInBounds (2*j+1) (.slice (some ⟨g,256*j,none⟩) 256 256)=tI g (j+1):=by rcases(show j=0\/j=1\/j=2\/j=3\/j=4\/j=5\/j=6\/j=7 by omega) with rfl|rfl|rfl|rfl|rfl|rfl|rfl|rfl<;>exact⟨rfl,rfl,rfl⟩
theorem ZbZ (w:au):
  Calls prog 207 #[(1:Int),(1:Int)] w λx w'=>x=.returned (.slice (some (w.heap.size+1,0)) 1 1)/\Bk w' w 3 (nc (wN 1))/\Bk w' (w.heap.size+1) 244 #[(1:Int),.slice (some (w,0)) 2 2]/\Below w w w':=by
 have l:=Y4 (P:=prog) 123 3 _ _ underlying123 Y1 rfl 2 2 rfl O O w;rw[<-Tz] at l;have nf:∀w:au,(Instr.makeSlice 288 (1:Int) (1:Int)).run prog w=.ok (.slice (some (w,0)) 1 1) (w.alloc (.cells #[(0:Int),.slice none 0 0] 244)):=λ_=>qH;go_in;go_wp2;go_loopw [6,17] (λ_ i wr=>∃j:Nat,j<=2/\i=j/\Bk wr w 3 (nc (p' 2 j))/\Below w w wr/\wr=w.heap.size+1) (λ_ i _=>(2-intOf i).toNat);exact IZ;obtain⟨j,B,rfl,g,E,G⟩:=hrel;by_cases ab:j<2;have R:=g.cell j;rw[Xm _ _ (by rw[R9 B];exact ab)] at R;have a3:=g.frozen j;have u:=g.put j (.int .i64 ((1024:Nat):Int));rw[vg,T8 ab] at u;exact NR;have a0:j=2:=O;subst a0;have k:=J G;have I:=J g;clear G g l;go_wp2;rw[k.o];have an:=E.alloc E.size (.cells #[(0:Int),.slice none 0 0] 244);have aa:=I.o.alloc (.cells #[(0:Int),.slice none 0 0] 244);have z:Bk (wr.alloc (.cells #[(0:Int),.slice none 0 0] 244)) (w.heap.size+1) 244 #[(0:Int),.slice none 0 0]:=k.o▸Bk.new wr _ _;go_loopw [8,9,10,28] (λ_ _ _ i y=>∃j:Nat,j<=1/\i=j/\(j=0->Bk y (w.heap.size+1) 244 #[(0:Int),.slice none 0 0])/\(j=1->Bk y (w.heap.size+1) 244 #[(1:Int),.slice (some (w,0)) 2 2])/\Bk y w 3 (nc (p' 2 2))/\Below w w y) (λ_ _ _ i _=>(1-intOf i).toNat);exact⟨0,O,rfl,λ_=>z,λh=>O,aa,an⟩;clear an aa z E;obtain⟨j,B,rfl,h0,h1,hb,E⟩:=hrel;by_cases ab:j<1
 .have S:j=0:=O;subst S;have t:=h0 rfl;have a1:=t.cell 0;have q1:=t.cell 1;have a4:=t.frozen 0;have a5:=t.frozen 1;simp at a1 q1;have F:=J t;clear h0 h1 t ab;go_wp2;go_region;go_wp2;go_roundw;.refine⟨1,O,rfl,λh=>O,λ_=> ?_,?_,?_⟩;have Q:=(F.o.put 0 (1:Int)).put 1 (.slice (some ⟨w,0,none⟩) 2 2);have M:=Q.drew;simpa using M;exact Pq;exact Ph
  simp[intOf]
 have a2:j=1:=O;subst a2;have D:=J (h1 rfl);clear h0 h1;go_wp2;go_ret;exact⟨rfl,by rw[show wN 1=p' 2 2 from by exact aZ];exact hb,D.o,E⟩
theorem Zc0 (w:au):
  Calls prog 207 #[(8:Int),(8:Int)] w λx w'=>x=.returned (.slice (some (w.heap.size+1,0)) 8 8)/\Bk w' w 3 (nc (List.replicate 2048 1024))/\Bk w' (w.heap.size+1) 244 (tI w 8)/\Below w w w':=by
 have B:=Y4 (P:=prog) 123 3 _ _ underlying123 Y1 rfl 2048 2048 rfl O O w;rw[<-Tz] at B;obtain⟨y,G⟩:=ay (tI w 0);have nf:∀W:au,(Instr.makeSlice 288 (8:Int) (8:Int)).run prog W=.ok (.slice (some (W,0)) 8 8) (W.alloc (.cells y 244)):=λ_=>(by rw[<-G];kernel_rfl);have b0:=J G;have a0:=J (Zen 2048);obtain⟨D,M⟩:∃f:Nat->List Nat,(λj=>p' 2048 j)=f:=⟨_,rfl⟩;have I:∀j,p' 2048 j=D j:=λj=>congrFun M j;have R:=J (λj (h:j<2048)=>(T8 h:(p' 2048 j).set j 1024=_));have Q:=J (λj (h:j<=2048)=>(R9 h:(p' 2048 j).length=2048));simp only[I] at R Q a0 B;clear G M I;go_in;go_wp2;go_loopw [6,17] (λ_ i wr=>∃j:Nat,j<=2048/\i=.int .i64 j/\Bk wr w 3 (nc (D j))/\Below w w wr/\wr=w.heap.size+1) (λ_ i _=>(2048-intOf i).toNat);exact IZ;obtain⟨j,a1,rfl,t,q,z⟩:=hrel;by_cases ab:j<2048;.have a5:=t.cell j;rw[Xm _ _ (by rw[Q.o j a1];exact ab)] at a5;have b2:=t.frozen j;have E:=t.put j (.int .i64 ((1024:Nat):Int));rw[vg,R.o j ab] at E;have g:=J E;have u:=J z;have b1:(j:Int)<2048:=O;clear E t z B;go_wp2;go_roundw;exact⟨j+1,O,ck,g.o,q.setCell (p:=⟨w,j,none⟩) aW _,by simpa using u.o⟩;simp[intOf]<;>omega
 have a6:j=2048:=O;subst a6;have u:=J z;have a4:=J t;clear z t B;go_wp2;rw[u.o];have an:=q.alloc q.size (.cells y 244);have aa:=a4.o.alloc (.cells y 244);have S:Bk (wr.alloc (.cells y 244)) (w.heap.size+1) 244 (tI w 0):=(by rw[b0.o];exact u.o▸Bk.new wr _ _);go_loopw [8,9,10,28] (λ_ _ _ i F=>∃j:Nat,j<=8/\i=.int .i64 j/\Hid (Bk F (w.heap.size+1) 244 (tI w j))/\Hid (Bk F w 3 (nc (D 2048)))/\Hid (Below w w F)) (λ_ _ _ i _=>(8-intOf i).toNat);exact⟨0,O,rfl,J S,J aa,J an⟩;clear an aa S q;obtain⟨j,a1,rfl,h0,hb,q⟩:=hrel;by_cases ab:j<8
 .obtain⟨t0,t1,a3⟩:=Zqf w ab;have a2:=h0.o.cell (2*j);have q1:=h0.o.cell (2*j+1);have a7:=h0.o.frozen (2*j);have a8:=h0.o.frozen (2*j+1);rw[t0] at a2;rw[t1] at q1;have g:=(h0.o.put (2*j) (8:Int)).put (2*j+1) (.slice (some ⟨w,256*j,none⟩) 256 256);rw[a3] at g;obtain⟨g,k,l⟩:=bF g ((hb.o.off (p:=⟨w+1,2*j,none⟩) (by simp) (8:Int)).off (p:=⟨w+1,2*j+1,none⟩) (by simp) (.slice (some ⟨w,256*j,none⟩) 256 256)) ((q.o.setCell (p:=⟨w+1,2*j,none⟩) (by simp) (8:Int)).setCell (p:=⟨w+1,2*j+1,none⟩) (by simp) (.slice (some ⟨w,256*j,none⟩) 256 256));clear t0 t1 a3 h0 hb q;rcases(show j=0\/j=1\/j=2\/j=3\/j=4\/j=5\/j=6\/j=7 by omega) with rfl|rfl|rfl|rfl|rfl|rfl|rfl|rfl
  all_goals
   clear ab;simp only[Nat.reduceMul,Nat.reduceAdd] at a2 q1 a7 a8 g k l;go_wp2;go_region;go_wp2;go_roundw;.first|exact⟨1,aZ,rfl,J g.o.drew,J k.o.drew,J l.o.drew⟩|exact⟨2,aZ,rfl,J g.o.drew,J k.o.drew,J l.o.drew⟩|exact⟨3,aZ,rfl,J g.o.drew,J k.o.drew,J l.o.drew⟩|exact⟨4,aZ,rfl,J g.o.drew,J k.o.drew,J l.o.drew⟩|exact⟨5,aZ,rfl,J g.o.drew,J k.o.drew,J l.o.drew⟩|exact⟨6,aZ,rfl,J g.o.drew,J k.o.drew,J l.o.drew⟩|exact⟨7,aZ,rfl,J g.o.drew,J k.o.drew,J l.o.drew⟩|exact⟨8,aZ,rfl,J g.o.drew,J k.o.drew,J l.o.drew⟩
   simp[intOf]
 have a9:j=8:=O;subst a9;go_wp2;go_ret;exact⟨rfl,by rw[<-a0.o];exact hb.o,h0.o,q.o⟩
