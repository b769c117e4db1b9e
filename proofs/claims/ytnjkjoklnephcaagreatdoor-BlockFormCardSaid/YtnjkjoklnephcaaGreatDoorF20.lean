import Derived.Test.YtnjkjoklnephcaaGreatDoorF13
set_option linter.all false
set_option maxRecDepth 100000
set_option maxHeartbeats 0
section
variable{P Q:Prop}
theorem Cy(h:P:=by with_reducible rfl):P:=h
theorem EO(h:P:=by exact⟨0,cf _,rfl,J Zl,J (bf _ _)⟩):P:=h
theorem E'{P:Prop}(h:P:=by go_wp2;go_ret;exact⟨Z4 y.o.symm,g.o⟩):P:=h
theorem Q3(h:P:=by rw[g.o.cell,UV _ _ (by rw[bV,k.o,iE];omega)]):P:=h
theorem PZ(h:P:=by rw[aD h];simp only[Bool.not_eq_true] at h;rw[List.filter_cons,h];rfl):P:=h
theorem Pb(h:P:=by go_wp2;refine bodyPost_ret (by simp[results,results143,go_sem];try rfl) rfl ?_;exact⟨rfl,a2.o⟩):P:=h
theorem Of(h:P:=by
 go_wp2_with (
  at_builtin;refine Z5 (by with_reducible rfl) rfl _ _ _ rfl _ _ (by rfl) (by rfl) b7.o ?_);refine⟨⟨k+1,ab,by go_num,u,y⟩,?_⟩;simp[intOf]<;>omega):P:=h
end
namespace Go.Proofs.Y
open Tryz Wv Go.RowKit
variable{A:bN}{W W' w w':aq}{f m n s:Int}{l:List Int}{p:Addr}{v:aI}
def jF (l:List Int):Array aI:=(bO l).toArray
theorem UV (l:List Int) (i:Nat) (h:i<l):(jF l)[i]? =some (.int .i64 l[i]):=by simp[jF,bO,iv,h]
theorem Lu (l:List Int) (i:Nat) (x:Int):(jF l).setIfInBounds i x=jF (l.set i x):=by apply pS.1;simp[jF,bO,iv,List.map_set]
theorem Qh (n:Nat):Array.replicate n (.int .i64 0:aI)=jF (List.replicate n 0):=by apply pS.1;simp[jF,bO,iv]
theorem Hx {g:Nat} (h:Bk w g 3 (jF l)):At w (some ⟨g,0,none⟩) (bO l):=by have:=h.at_;simpa [jF] using this
theorem Dx (l:List Int) (i:Nat) (h:i<l):(bO l)[i]? =some (.int .i64 l[i]):=by simp[bO,iv,h]
theorem JO (B:At w A (bO l)) (n cap:Nat) (D:n=l) (L:n<=9223372036854775807):
  Calls prog 102 #[(A,n,cap)] w λx w'=>x=.returned (Zi l)/\w=w':=by
 have Ha:=J B;have I:=J D;obtain⟨V,y⟩:=ay (Zi l);have k:Hid (V=(tv (-1) l&&decide (l.length<=4096))):=J y.symm;rw[y];go_in;go_wp2;go_loopw [3,8] (λG p wr=>∃(i:Nat) (last:Int),i<=n/\G=last/\p=i/\Hid (tv (-1) l=tv last (l.drop i))/\wr=w) (λ_ p _=>(n-intOf p).toNat);exact⟨0,-1,cf _,rfl,rfl,J rfl,rfl⟩;obtain⟨i,last,hi,rfl,rfl,j,rfl⟩:=hrel;by_cases ab:i<n
 .have t:i<l:=iF;have hd:l.drop i=l[i]::l.drop (i+1):=kw t;have u:=Dx l i t;obtain⟨x,E⟩:=ay l[i];rw[E] at hd u;obtain⟨b,o,z,hb,R⟩:=Ha.o.get i _ u;subst z;have g:=j.o;rw[hd] at g;have q:tv (-1) l=(decide (last<x)&&decide (x<=1099511627776)&&tv x (l.drop (i+1))):=g;have M:(i:Int)<n:=O;by_cases h1:x<=last;.have d:Hid (V=false):=J (by rw[k.o,q,cI (show ¬last<x by omega)];rfl);go_wp2;go_ret;exact⟨Z4 d.o.symm,rfl⟩
  by_cases Q:1099511627776<x;.have d:Hid (V=false):=J (by rw[k.o,q,cI (show ¬x<=1099511627776 by omega),Bool.and_false];rfl);go_wp2;go_ret;exact⟨Z4 d.o.symm,rfl⟩
  have d:Hid (tv (-1) l=tv x (l.drop (i+1))):=J (by rw[q,dd (show last<x by omega),dd (show x<=1099511627776 by omega)];rfl);go_wp2;refine⟨⟨i+1,x,ab,rfl,ci,d,by first|trivial|rfl⟩,?_⟩;simp[intOf]<;>omega
 have F:i=n:=O;have g:=j.o;rw[oc (by rw[<-I.o];omega)] at g;have d:Hid (V=decide (n<=4096)):=J (by rw[k.o,g,I.o];rfl);subst F;go_wp2;go_ret;exact⟨Z4 (by rw[d.o];exact fj),rfl⟩
theorem F6 (D:At w A (bO l)) (n cap:Nat) (d:n=l) (E:Zi l=true):
  Calls prog 141 #[(A,n,cap)] w λx w'=>∃v,x=.returned v/\hG w' v (Za l)/\Below w w w':=by
 obtain⟨b4,L,b5⟩:=Zd.1 E;have b6:n<=4096:=O;have a4:=Y5 (P:=prog) 123 3 _ _ underlying123 Y2 rfl (n:Int) n rfl O O w;rw[Qh] at a4;obtain⟨a7,a3,Ha,I,a8⟩:=ii (Bk.new w 3 (jF (List.replicate n 0))) ((bf w w).alloc aU (.cells (jF (List.replicate n 0)) 3)) D d L;have a0:Hid ((Za l)=n):=J (by unfold Za;rw[Y4,d]);clear D d E b4 L b5;go_in;go_wp2;go_loopw [3,12] (λb2 j wr=>∃(i:Nat) (last:Int) (G:List Int),i<=n/\-1<=last/\last<=1099511627776/\b2=last/\j=i/\Hid (Za l=G++gp last (l.drop i))/\Hid (G=i)/\Hid (Bk wr w 3 (jF (G++List.replicate (n-i) 0)))/\Hid (Below w w wr)) (λ_ j _=>(n-intOf j).toNat);exact⟨0,-1,[],cf _,O,O,rfl,rfl,J rfl,J rfl,J (by simpa using a7.o),a3⟩;obtain⟨i,last,G,hi,b8,b7,rfl,rfl,B,k,g,hb⟩:=hrel;by_cases ab:i<n;.have t:i<l:=iF;have hd:l.drop i=l[i]::l.drop (i+1):=kw t;have u:=Dx l i t;have z:=a8.o l[i] (dt _);obtain⟨x,b0⟩:=ay l[i];rw[b0] at hd u z;obtain⟨b,o,a9,a5,a6⟩:=Ha.o.get i _ u;subst a9;have c4:=(hb.o.cell (p:=⟨b,o+i,none⟩) a5).trans a6;obtain⟨c5,R⟩:=z;have q:=g.o.put i (x-last-1:Int);rw[Lu,show n-i=(n-(i+1))+1 by omega,pP,nj _ _ (by rw[k.o];exact aU),k.o,fh,List.set_cons_zero] at q;have a1:Hid (Bk (wr.setCell (w,i) (x-last-1:Int)) w 3 (jF ((G++[x-last-1])++List.replicate (n-(i+1)) 0))):=J (by rw[er];exact q);have b3:=J (hb.o.setCell (p:=⟨w,i,none⟩) aU (x-last-1:Int));have M:Hid (Za l=(G++[x-last-1])++gp x (l.drop (i+1))):=J (by rw[B.o,hd,er];rfl);have Q:Hid ((G++[x-last-1]).length=i+1):=J (by rw[bV,k.o];rfl);obtain⟨c7,c3⟩:∃y:Int,wr.cell? (w,i)=y:=⟨_,Q3⟩;have c6:=g.o.frozen i;have b9:(i:Int)<n:=O;go_wp2;refine⟨⟨i+1,x,_,ab,O,R,rfl,ci,M,Q,a1,b3⟩,?_⟩;simp[intOf]<;>omega
 have b1:i=n:=O;subst b1;have F:=B.o;rw[oc Fp] at F;have S:Za l=G:=(by rw[F];exact fg _);have a2:Hid (hG wr (.slice (some (w,0)) i i) (Za l)):=J ⟨_,i,by rw[a0.o],by have:=Hx g.o;rw[fh,List.replicate_zero,fg] at this;rw[S];exact this⟩;go_wp2;go_ret;exact⟨_,rfl,a2.o,hb.o⟩
def It (w:aq) (r:Option (List Int)) (x:Ending) (w':aq):Prop:=∃v ok,x=.returned (.tuple #[v,.bool ok])/\ok=r.isSome/\(∀l,r=some l->hG w' v l)/\Below w w w'
theorem Xg {r:Option (List Int)} (h:r=none) (hb:Below w w w'):It w r (.returned (.tuple #[v,false])) w':=⟨_,_,rfl,by rw[h];rfl,(λl d=>by rw[h] at d;cases d),hb⟩
theorem F7 (F:At w A (bO l)) (n cap:Nat) (L:n=l.length) (b7:n<=1000000):
  Calls prog 172 #[(A,n,cap)] w λx w'=>It w (kS l) x w':=by
 have a5:=Y5 (P:=prog) 123 3 _ _ underlying123 Y2 rfl (n:Int) n rfl O O w;rw[Qh] at a5;obtain⟨a8,a4,Ha,I⟩:=dc (Bk.new w 3 (jF (List.replicate n 0))) ((bf w w).alloc aU (.cells (jF (List.replicate n 0)) 3)) F L;obtain⟨R,t⟩:=ay (kS l);have q:Hid (R=match jn (-1) l with|some r=>if r.length<=4096 then some r else none|none=>none):=J t.symm;rw[t];clear F L t;go_in;go_wp2;go_loopw [4,13] (λb6 u wr=>∃(i:Nat) (last:Int) (G:List Int),i<=n/\-1<=last/\last<=1099511627776/\b6=last/\u=i/\Hid (jn (-1) l=(jn last (l.drop i)).map (G++·))/\Hid (G=i)/\Hid (Bk wr w 3 (jF (G++List.replicate (n-i) 0)))/\Hid (Below w w wr)) (λ_ u _=>(n-intOf u).toNat);exact⟨0,-1,[],cf _,O,O,rfl,rfl,J (by simp),J rfl,J (by simpa using a8.o),a4⟩;obtain⟨i,last,G,hi,b9,b8,rfl,rfl,E,k,g,hb⟩:=hrel;by_cases ab:i<n
 .have B:i<l.length:=iF;have hd:l.drop i=l[i]::l.drop (i+1):=kw B;have D:=Dx l i B;obtain⟨x,b3⟩:=ay l[i];rw[b3] at hd D;obtain⟨b,o,b1,a6,a7⟩:=Ha.o.get i _ D;subst b1;have c6:=(hb.o.cell (p:=⟨b,o+i,none⟩) a6).trans a7;have b2:jn last (x::l.drop (i+1))=if x<0\/1099511627776<x\/1099511627776<last+x+1 then none else(jn (last+x+1) (l.drop (i+1))).map ((last+x+1)::·):=rfl;have d:=E.o;rw[hd,b2] at d;have c3:(i:Int)<n:=O;by_cases h1:x<0;.have j:Hid (R=none):=J (by rw[q.o,d,Vag (.inl h1)];rfl);go_wp2;go_ret2;exact Xg j.o hb.o
  by_cases a9:1099511627776<x;.have j:Hid (R=none):=J (by rw[q.o,d,Vag (.inr (.inl a9))];rfl);go_wp2;go_ret2;exact Xg j.o hb.o
  have c4:last+(x+1)=last+x+1:=O;obtain⟨y,b4⟩:=ay (last+x+1);have z:=g.o.put i y;rw[Lu,show n-i=(n-(i+1))+1 by omega,pP,nj _ _ (by rw[k.o];exact aU),k.o,fh,List.set_cons_zero] at z;have a2:Hid (Bk (wr.setCell (w,i) y) w 3 (jF ((G++[y])++List.replicate (n-(i+1)) 0))):=J (by rw[er];exact z);have M:=J (hb.o.setCell (p:=⟨w,i,none⟩) aU y);have S:Hid ((G++[y]).length=i+1):=J (by rw[bV,k.o];rfl);obtain⟨c8,c5⟩:∃y:Int,wr.cell? (w,i)=y:=⟨_,Q3⟩;have c7:=g.o.frozen i;rw[b4] at d;by_cases b0:1099511627776<y;.have j:Hid (R=none):=J (by rw[q.o,d,Vag (.inr (.inr b0))];rfl);have a0:last+(x+1)=y:=O;go_wp2;go_ret2;exact Xg j.o M.o
  have Q:Hid (jn (-1) l=(jn y (l.drop (i+1))).map ((G++[y])++·)):=J (by rw[d,aD O,Option.map_map];congr 1;funext r;simp);have a0:last+(x+1)=y:=O;go_wp2;refine⟨⟨i+1,y,_,ab,O,O,rfl,ci,Q,S,a2,M⟩,?_⟩;simp[intOf]<;>omega
 have b5:i=n:=O;subst b5;have d:=E.o;rw[oc Fp] at d;have a1:jn (-1) l=some G:=(by rw[d];simp[jn]);have a3:Hid (hG wr (.slice (some (w,0)) i i) G):=J ⟨_,i,by rw[k.o],by have:=Hx g.o;rw[fh,List.replicate_zero,fg] at this;exact this⟩;have j:Hid (R=if i<=4096 then some G else none):=J (by rw[q.o,a1];simp only;rw[k.o]);go_wp2;go_ret2;refine⟨_,_,rfl,?_,λl h=> ?_,hb.o⟩;rw[j.o];by_cases h:i<=4096;rw[Vag h];exact fj;rw[aD h];exact fj;rw[j.o] at h;split at h;injection h with h;subst h;exact a3.o;cases h
def CV (c:dX):aI:=.agg #[c.st,c.f,c.s,c.n]
def H6 (c:dX):Prop:=0<=c.st/\c.st<=1099511627776/\1<=c.f/\c.f<=1099511627776/\1<=c.s/\c.s<=1099511627776
theorem MH {c:dX} (h:sw c):H6 c:=⟨h.2.2.1,h.2.2.2.1,h.2.2.2.2.1,h.2.2.2.2.2.1,h.2.2.2.2.2.2.1,h.2.2.2.2.2.2.2⟩
theorem OO {k:Nat} (g:k<=3000) (h1:1<=f) (d:f<=1099511627776):0<=(k:Int)*f/\(k:Int)*f<=3298534883328000:=by
  constructor;exact Int.mul_nonneg (Int.natCast_nonneg k) O
  calc (k : Int) * f <= 3000 * f := Int.mul_le_mul_of_nonneg_right O O
    _<=3298534883328000:=O
theorem LG {c:dX} (B:H6 c) (i:Nat) (hi:i<=5000) (w:aq):
  Calls prog 192 #[CV c,i] w (bM w (fL c i:Int)):=by obtain⟨h1,R,t,u,y,z⟩:=B;obtain⟨st,f,s,n⟩:=c;simp only at*;have d:fL ⟨st,f,s,n⟩ i=st+((i+1)/2:Nat)*f+(i/2:Nat)*s:=rfl;obtain⟨k1,g⟩:=ay ((i+1)/2);obtain⟨k2,j⟩:=ay (i/2);rw[g,j] at d;obtain⟨D,E⟩:=OO (k:=k1) O t u;obtain⟨F,G⟩:=OO (k:=k2) O y z;have M:((i:Int)+1)/2=(k1:Int):=O;have Q:(i:Int)/2=(k2:Int):=O;obtain⟨I,l⟩:=ay ((k1:Int)*f);obtain⟨L,p⟩:=ay ((k2:Int)*s);rw[l] at D E d;rw[p] at F G d;have q:=J d;clear g j d;unfold CV;simp only;go_in;go_wp2;go_ret;exact⟨by rw[q.o];rfl,(bf w w).alloc aU _⟩
theorem GY (n a b:Int) (w:aq):
  Calls prog 258 #[n,a,b] w λx w'=>x=.returned (.bool (decide (a<=n)&&decide (n<=b)))/\w=w':=by
 by_cases h1:a<=n
 .by_cases d:n<=b;.go_in;go_wp2;go_ret;exact⟨Z4 (by simp[h1,d]),rfl⟩
  go_in;go_wp2;go_ret;exact⟨Z4 (by rw[eq_comm,Vbp];omega),rfl⟩
 go_in;go_wp2;go_ret;exact⟨Z4 (by rw[eq_comm,Ca,Vbp,Vbp];omega),rfl⟩
theorem ZgK (c:dX) (w:aq):
  Calls prog 227 #[CV c] w (bM w (nU c)):=by
 obtain⟨b1,k⟩:=ay ((decide (1<=c.n)&&decide (c.n<=4096)));obtain⟨D,aa⟩:=ay ((decide (0<=c.st)&&decide (c.st<=1099511627776)));obtain⟨b3,d⟩:=ay ((decide (1<=c.f)&&decide (c.f<=1099511627776)));obtain⟨t,an⟩:=ay ((decide (1<=c.s)&&decide (c.s<=1099511627776)));obtain⟨l,q,z,E⟩:=dc (λW=>GY c.n 1 4096 W) (λW=>GY c.st 0 1099511627776 W) (λW=>GY c.f 1 1099511627776 W) (λW=>GY c.s 1 1099511627776 W);rw[k] at l;rw[aa] at q;rw[d] at z;rw[an] at E;have p:nU c=(b1&&D&&b3&&t&&decide (fL c (c.n-1).toNat<=1099511627776)):=by unfold nU;congr 1;rw[<-k,<-aa,<-d,<-an,lN,fq];unfold sw;simp[and_assoc]
 have g:=J ((bf w w).alloc aU (.cells #[c.st,c.f,c.s,c.n] 220));by_cases j:b1=true/\D=true/\b3=true/\t=true
 .obtain⟨rfl,rfl,rfl,rfl⟩:=j;have B:sw c:=by simp at k aa d an;exact⟨k.1,k.2,aa.1,aa.2,d.1,d.2,an.1,an.2⟩
  have n1:=B.1;have n2:=B.2.1;have u:=J (λW=>LG (MH B) (c.n-1).toNat O W);obtain⟨m,G⟩:=ay ((c.n-1).toNat);have hmi:c.n-1=(m:Int):=O;rw[G] at u p;obtain⟨T,F⟩:=ay (fL c m);rw[F] at u p;have y:=J p;clear k aa d an p B G F;obtain⟨st,f,s,n⟩:=c;simp only at*;unfold CV at u⊢;simp only at u⊢;go_in;go_wp21;refine cp (l.o _) ?_;go_wp21;refine cp (q.o _) ?_;go_wp21;refine cp (z.o _) ?_;go_wp21;refine cp (E.o _) ?_;go_wp21;refine ij (u.o _) g λw1 I=>?_;go_wp2;go_ret;exact⟨Z4 (by rw[y.o];simp),I.o⟩
 have y:Hid (nU c=false):=J (by rw[p];cases b1<;>cases D<;>cases b3<;>cases t<;>simp at j<;>rfl);clear k aa d an p;obtain⟨st,f,s,n⟩:=c;simp only at*;unfold CV;simp only;cases b1;.clear j;go_in;go_wp21;refine cp (l.o _) ?_;exact E'
 cases D;.clear j;go_in;go_wp21;refine cp (l.o _) ?_;go_wp21;refine cp (q.o _) ?_;exact E'
 cases b3;.clear j;go_in;go_wp21;refine cp (l.o _) ?_;go_wp21;refine cp (q.o _) ?_;go_wp21;refine cp (z.o _) ?_;exact E'
 obtain rfl:t=false:=(by cases t<;>simp at j⊢);clear j;go_in;go_wp21;refine cp (l.o _) ?_;go_wp21;refine cp (q.o _) ?_;go_wp21;refine cp (z.o _) ?_;go_wp21;refine cp (E.o _) ?_;exact E'
def wh (w:aq) (c:dX) (x:Ending) (w':aq):Prop:=if nU c=true then(∃g,x=.returned (.tuple #[.slice (some ⟨g,0,none⟩) c.n.toNat c.n.toNat,(0:Int)])/\Bk w' g 3 (jF (ZP c))/\w.heap.size<=g/\Below w w w') else(x=.returned (.tuple #[.slice none 0 0,(1:Int)])/\Below w w w')
theorem Sl (c:dX) (w:aq):
  Calls prog 193 #[CV c] w λx w'=>wh w c x w':=by
 have d:=J (λW=>ZgK c W);cases l:nU c;.rw[l] at d;have E:Hid (∀x w',wh w c x w'↔(x=.returned (.tuple #[.slice none 0 0,(1:Int)])/\Below w w w')):=J (λx w'=>by unfold wh;rw[aD (by rw[l];simp)]);have t:=J ((bf w w).alloc aU (.cells #[c.st,c.f,c.s,c.n] 220));clear l;obtain⟨st,f,s,n⟩:=c;unfold CV at d⊢;simp only at d t⊢;go_in;go_wp21;refine ij (d.o _) t λw1 b9=>?_;go_wp2;go_ret2;exact(E.o _ _).2 ⟨rfl,b9.o⟩
 rw[l] at d;have E:Hid (∀x w',wh w c x w'↔(∃g,x=.returned (.tuple #[.slice (some ⟨g,0,none⟩) c.n.toNat c.n.toNat,(0:Int)])/\Bk w' g 3 (jF (ZP c))/\w.heap.size<=g/\Below w w w')):=J (λx w'=>by unfold wh;rw[Vag l]);obtain⟨F,_⟩:=YH.1 l;have n1:=F.1;have n2:=F.2.1;have R:=J (λ(i:Nat) (hi:i<=5000) W=>LG (MH F) i hi W);have z:=Ru c;have L:∀i (h:i<c.n.toNat),ZP c=(ZP c).take i++fL c i::(ZP c).drop (i+1):=λi h=>by have h1:i<(ZP c).length:=(by rw[z];exact h);have c6:(ZP c)[i]=fL c i:=(by simp[ZP]);rw[<-c6,<-kw h1,vH]
 obtain⟨N,b0⟩:=ay c.n.toNat;have a5:c.n=(N:Int):=O;rw[b0] at E z L;obtain⟨j,a3⟩:=ay (ZP c);rw[a3] at E z L;obtain⟨a6,a1,t,S⟩:=dc L z ((bf w w).alloc aU (.cells #[c.st,c.f,c.s,c.n] 220)) (Bk.new w 220 #[c.st,c.f,c.s,c.n]);obtain⟨b6,b3⟩:=ay (fL c);rw[b3] at R a6;clear l F z L a3 b3 b0;obtain⟨st,f,s,n⟩:=c;simp only at a5;subst a5;unfold CV at d R⊢;simp only at*;have d3:N<=4096:=O;have d2:1<=N:=O;clear n1 n2;go_in;go_wp21;refine aP (d.o _) λw1 hb=>?_;have G:=J (t.o.trans (hb.mono t.o.size));have ff:=J (S.o.below hb S.o.lt);clear hb t S d;have a8:=Y5 (P:=prog) 123 3 _ _ underlying123 Y2 rfl (N:Int) N rfl O O w1;rw[Qh] at a8;obtain⟨c5,c3,b5,a9⟩:=dc (Bk.new w1 3 (jF (List.replicate N 0))) (G.o.alloc G.o.size (.cells (jF (List.replicate N 0)) 3)) (ff.o.alloc (.cells (jF (List.replicate N 0)) 3)) G.o.size;have B:=ff.o.cell 0;have k1:=ff.o.cell 1;have k2:=ff.o.cell 2;have k3:=ff.o.cell 3;have D:=ff.o.lt;have c7:=J D;simp at B k1 k2 k3;go_wp2;clear B k1 k2 k3 D a8 ff G;go_loopw [14] (λa0 wr=>∃i:Nat,i<=N/\a0=(i:Int)/\Hid (Bk wr w1.heap.size 3 (jF (j.take i++List.replicate (N-i) 0)))/\Hid (Bk wr w 220 #[st,f,s,N])/\Hid (Below w w wr)) (λa0 _=>(N-intOf a0).toNat);exact⟨0,cf _,rfl,J (by simpa using c5.o),b5,c3⟩;obtain⟨i,hi,rfl,u,q,hb⟩:=hrel;by_cases ab:i<N
 .have d4:(i:Int)<N:=O;have a2:=J (R.o i O);obtain⟨T,b1⟩:=ay (b6 i);have M:=a6.o i ab;rw[b1] at a2 M
  have a7:j.take (i+1)=j.take i++[T]:=by
   have k:(j.take i).length=i:=(by rw[ek,a1.o];omega);conv=>lhs;rw[M]
   rw[List.take_append,k,show i+1-i=1 by omega,d' (by rw[k];omega)];rfl
  have B:=q.o.cell 0;have k1:=q.o.cell 1;have k2:=q.o.cell 2;have k3:=q.o.cell 3;simp at B k1 k2 k3;have b8:=J a7;clear M b1 a7;go_wp21;refine aP (a2.o _) λb4 aa=>?_;have I:=u.o.below aa u.o.lt;have a4:=q.o.below aa q.o.lt;have b2:=hb.o.trans (aa.mono hb.o.size);have Q:=I.put i T;have k:(j.take i).length=i:=(by rw[ek,a1.o];omega);rw[Lu,show N-i=(N-(i+1))+1 by omega,pP,nj _ _ (by rw[k];exact aU),k,fh,List.set_cons_zero] at Q;have b7:Hid (Bk (b4.setCell (w1.heap.size,i) T) w1.heap.size 3 (jF (j.take (i+1)++List.replicate (N-(i+1)) 0))):=J (by rw[b8.o,er];exact Q);have c9:=J (b2.setCell (p:=⟨w1.heap.size,i,none⟩) a9.o T);have d1:=J (a4.off (p:=⟨w1.heap.size,i,none⟩) (by show w.heap.size≠w1.heap.size;have:=c7.o;omega) T);obtain⟨d7,d5⟩:∃y:Int,b4.cell? (w1.heap.size,i)=y:=⟨_,by rw[I.cell,UV _ _ (by rw[bV,k,iE];omega)]⟩;have d6:=I.frozen i;clear B k1 k2 k3 Q I a4 b2 aa u q hb k;go_wp2;refine⟨⟨i+1,ab,ci,b7,d1,c9⟩,?_⟩;simp[intOf]<;>omega
 have c8:i=N:=O;subst c8;have c4:Hid (Bk wr w1.heap.size 3 (jF j)):=J (by have:=u.o;rw[fh,List.replicate_zero,fg,d' (by rw[a1.o];exact aU)] at this;exact this);clear u;go_wp2;go_ret2;exact(E.o _ _).2 ⟨_,rfl,c4.o,a9.o,hb.o⟩
theorem Jz (k:At w A (bO l)) (n cap:Nat) (B:n=l) (F:n<=1000000) (D:l.Pairwise (· <·)) (x:Int):
  cK 194 #[(A,n,cap),x] w λe w'=>(∃p:Int,e=.returned (.tuple #[p,l.contains x]))/\∃q,w'=w.drewN q:=by by_cases h0:n=0;subst h0;have z:l=[]:=ia B.symm;subst z;exact(Tryz.slices_BinarySearch_int_empty A cap x w).mono λe w' ⟨h1,d⟩=>⟨⟨0,h1⟩,0,d⟩;obtain⟨b,o,rfl,hb,_⟩:=k 0 (by simp[bO];omega);refine(Tryz.slices_BinarySearch_int b o n cap l x w O O (λj t=> ?_) ?_).mono λe w' ⟨h1,d⟩=>⟨⟨_,by rw[d' O] at h1;exact h1⟩,d⟩;obtain⟨G,L,g,I,y⟩:=k j (by simpa [bO] using t);injection g with g;injection g with E u;subst E;subst u;rw[y];simp[bO,iv,t];rw[d' O];exact D.imp (λh=>Int.le_of_lt h)
def Zqp (w:aq) (r:Option (List Int×List Int)) (x:Ending) (w':aq):Prop:=match r with
 |some (m,f)=>∃d g,x=.returned (.tuple #[d,g,(0:Int)])/\hG w' d m/\hG w' g f/\Below w w w'
 |none=>x=.returned (.tuple #[.slice none 0 0,.slice none 0 0,(1:Int)])/\Below w w w'
def xE (c:dX) (l:List Int) (i:Nat):List Int:=((List.range i).filter (λi=> !l.contains (fL c i))).map Int.ofNat
theorem Zby (c:dX) (l:List Int) (i:Nat):xE c l (i+1)=if l.contains (fL c i)=true then xE c l i else xE c l i++[(i:Int)]:=by unfold xE;rw[vK,List.filter_append,jy];by_cases h:l.contains (fL c i)=true;rw[Vag h,List.filter_cons,h];simp;exact PZ
theorem ZeB (c:dX) (l:List Int) (i:Nat):(xE c l i).length<=i:=by unfold xE;rw[c'];have h1:=List.length_filter_le (λi=> !l.contains (fL c i)) (List.range i);rw[rm] at h1;exact h1
theorem ZiR {base n:Nat} (h:w.ownsRow base 3 1 v n (bO l)) (g:n=l):hG w v l:=by obtain⟨A,cap,j,d⟩:=Zh h;exact⟨A,cap,by rw[j,g],d⟩
theorem hG.bel (h:hG w v l) (hb:Below w w w'):hG w' v l:=by obtain⟨A,cap,g,d⟩:=h;exact⟨A,cap,g,d.below hb⟩
theorem Zka (c:dX) (b1:At w A (bO l)) (n cap:Nat) (b2:n=l) (g1:n<=9223372036854775807):
  Calls prog 144 #[CV c,(A,n,cap)] w λx w'=>Zqp w (HY c l) x w':=by
 obtain⟨a7,Ha,I,a0⟩:=dc (λW=>Sl c W) b1 b2 ((bf w w).alloc aU (.cells #[c.st,c.f,c.s,c.n] 220));have d:HY c l=if nU c=true/\Zi l=true then some (Qy c l,qg c l) else none:=rfl;cases F:nU c;.rw[F,aD (by simp)] at d;rw[d];have E:Hid (∀W,Calls prog 193 #[CV c] W (bM W (.tuple #[.slice none 0 0,(1:Int)]))):=J (λW=>(a7.o W).mono λx w' h=>by unfold wh at h;rw[aD (by rw[F];simp)] at h;exact h);obtain⟨st,f,s,cn⟩:=c;unfold CV at E⊢;simp only at*;go_in;go_wp21;refine aP (E.o _) λw1 hb=>?_;have B:=J (a0.o.trans (hb.mono a0.o.size));go_wp2;go_ret3;exact⟨rfl,B.o⟩
 obtain⟨a3,_⟩:=YH.1 F;have E:Hid (∀W,Calls prog 193 #[CV c] W λx w'=>(∃g,x=.returned (.tuple #[.slice (some ⟨g,0,none⟩) c.n.toNat c.n.toNat,(0:Int)])/\Bk w' g 3 (jF (ZP c))/\W.heap.size<=g/\Below W.heap.size W w')):=J (λW=>(a7.o W).mono λx w' h=>by unfold wh at h;rw[Vag F] at h;exact h);have n1:=a3.1;have n2:=a3.2.1;have a4:=Ru c;have a9:=Rw a3;have a2:∀i,i<c.n.toNat->(ZP c)[i]? =some (fL c i):=λi h=>(by simp[ZP,h]);have b5:Qy c l=xE c l c.n.toNat:=rfl;have b0:=J (λW (h:Below w w W)=>JO (b1.below h) n cap b2 g1);cases M:Zi l;.rw[F,M,aD (by simp)] at d;rw[d];rw[M] at b0;clear d F a7 b1 b2 a3 M a4 a9 a2 b5;obtain⟨st,f,s,cn⟩:=c;unfold CV at E⊢;simp only at*;go_in;go_wp21;refine(E.o _).mono ?_;rintro x w1 ⟨g,rfl,e2,c7,hb⟩;have B:=J (a0.o.trans (hb.mono a0.o.size));go_wp21;refine cp (b0.o _ B.o) ?_;go_wp2;go_ret3;exact⟨rfl,B.o⟩
 rw[F,M,Vag ⟨rfl,rfl⟩,b5] at d;rw[d];rw[M] at b0;obtain⟨e8,i2,i3⟩:=Zd.1 M;have i7:n<=4096:=O;have z:=λi=>Zby c l i;have a6:=λi=>ZeB c l i;have GB:qg c l=l.filter (λt=> !(ZP c).contains t):=rfl;rw[GB];obtain⟨N,d9⟩:=ay c.n.toNat;rw[d9] at a4 a2 E⊢;obtain⟨j,d4⟩:=ay (ZP c);rw[d4] at a4 a9 a2 E⊢;obtain⟨R,b8⟩:=ay (xE c l);rw[b8] at z a6⊢;obtain⟨f8,e7⟩:=ay (fL c);rw[e7] at z a2;have e5:R 0=[]:=(by rw[<-b8];rfl);obtain⟨f3,i5,g0,i4,f7,f4⟩:=fA e5 z a6 a4 a9 a2;have f2:=J e8;have i6:N<=4096:=O;clear d F a7 b1 b2 a3 M a4 a9 a2 b5 e8 i2 i3 z a6 GB d9 d4 b8 e7 e5 n1 n2;obtain⟨st,f,s,cn⟩:=c;unfold CV at E⊢;simp only at*;go_in;go_wp21;refine(E.o _).mono ?_;rintro x w1 ⟨g,rfl,e2,c7,hb⟩;have B:=J (a0.o.trans (hb.mono a0.o.size));have g8:=J (Hx e2);go_wp21;refine cp (b0.o _ B.o) ?_;have b3:=J (Ha.o.below B.o);go_upto_region 5 with fail;go_wp2;go_loopw [9,33] (λh9 b9 wr=>∃i:Nat,i<=N/\b9=(i:Int)/\Hid (wr.ownsRow w1.heap.size 3 1 h9 (R i) (bO (R i)))/\Hid (Below w1.heap.size w1 wr)) (λ_ b9 _=>(N-intOf b9).toNat);exact⟨0,cf _,rfl,J (by rw[f3.o];exact Zl),J (bf _ _)⟩;obtain⟨i,hi,rfl,G,a1⟩:=hrel;have d7:=g8.o.below a1.o;have d5:=b3.o.below a1.o;by_cases ab:i<N
 .have e6:=f4.o i ab;obtain⟨T,c6⟩:=ay (f8 i);have z:=i5.o i;rw[c6] at e6 z;have h6:(bO j)[i]? =T:=(by unfold bO;rw[jX,e6];rfl);obtain⟨g2,h7,a5,g9,e1⟩:=d7.get i _ h6;injection a5 with a5;injection a5 with h5 g7;subst h5;subst g7;rw[jK] at e1;have D:=J (Jz d5 n cap I.o O f2.o T);have g4:(i:Int)<N:=O;have a6:=g0.o i;have i8:=J a6;cases Q:l.contains T with
  |true=>rw[Q] at D z;rw[Vag rfl] at z;have S:=J z;go_wp21;refine(D.o).mono ?_;rintro x d1 ⟨⟨p,rfl⟩,q,rfl⟩;go_wp2;refine⟨⟨i+1,ab,ci,J (by rw[S.o];exact G.o),J (mN a1.o q)⟩,?_⟩;simp[intOf]<;>omega
  |false=>
   rw[Q] at D z;rw[aD (by simp)] at z;have S:=J z;go_wp21;refine(D.o).mono ?_;rintro x d1 ⟨⟨p,rfl⟩,q,rfl⟩;obtain⟨c9,d2,c4,c5,c3,_⟩:=ZU (P:=prog) 123 3 _ _ underlying123 Y2 rfl (w:=wr.drewN q) G.o (mN a1.o q) a1.o.size (i:Int) rfl fU O;have b7:=J c4;have u:Hid (d2.ownsRow w1.heap.size 3 1 c9 (R (i+1)) (bO (R (i+1)))):=J (by rw[S.o,bV,AP];exact c5);have y:=J c3
   go_wp2_with (
    at_builtin;refine Z5 Cy rfl _ _ _ rfl _ _ (by rfl) (by rfl) b7.o ?_);refine⟨⟨i+1,ab,ci,u,y⟩,?_⟩;simp[intOf]<;>omega
 have h8:i=N:=O;subst h8;obtain⟨a8,rfl⟩:∃W,W=wr:=⟨_,rfl⟩;obtain⟨d3,e4,i0,h2⟩:=Zh G.o;subst i0;obtain⟨h3,f6,h0,e3,b4⟩:=ii h2 d5 d7 (B.o.trans (a1.o.mono B.o.size)) (show l.filter (λt=> !j.contains t)=(l.take n).filter (λt=> !j.contains t) by rw[d' (by rw[I.o];exact aU)]);go_wp2;go_loopw [10,53] (λh4 b6 wx=>∃k:Nat,k<=n/\b6=k/\Hid (wx.ownsRow a8 3 1 h4 ((l.take k).filter (λt=> !j.contains t)) (bO ((l.take k).filter (λt=> !j.contains t))))/\Hid (Below a8 a8 wx)) (λ_ b6 _=>(n-intOf b6).toNat);exact EO;obtain⟨k,j0,rfl,G,L⟩:=hrel;have g6:=h0.o.below L.o;have f9:=f6.o.below L.o;by_cases ab:k<n
 .have d6:k<l:=iF;have d8:=Dx l k d6;have c8:l.take (k+1)=l.take k++[l[k]]:=dK d6;obtain⟨T,c6⟩:=ay l[k];rw[c6] at d8 c8;obtain⟨g2,h7,a5,g9,e1⟩:=f9.get k _ d8;subst a5;have D:=J (Jz g6 i i i4.o.symm O f7.o T);have g4:(k:Int)<n:=O;have f5:Hid (((l.take k).filter (λt=> !j.contains t)).length<=4096):=J (by have h1:=List.length_filter_le (λt=> !j.contains t) (l.take k);rw[ek] at h1;omega)
  cases Q:j.contains T with
  |true=>rw[Q] at D;have S:Hid ((l.take (k+1)).filter (λt=> !j.contains t)=(l.take k).filter (λt=> !j.contains t)):=J (by rw[c8,List.filter_append,List.filter_cons,Q];simp);go_wp21;refine(D.o).mono ?_;rintro x d1 ⟨⟨p,rfl⟩,q,rfl⟩;go_wp2;refine⟨⟨k+1,ab,ci,J (by rw[S.o];exact G.o),J (mN L.o q)⟩,?_⟩;simp[intOf]<;>omega
  |false=>rw[Q] at D;have S:Hid ((l.take (k+1)).filter (λt=> !j.contains t)=(l.take k).filter (λt=> !j.contains t)++[T]):=J (by rw[c8,List.filter_append,List.filter_cons,Q];rfl);go_wp21;refine(D.o).mono ?_;rintro x d1 ⟨⟨p,rfl⟩,q,rfl⟩;have i9:=f5.o;obtain⟨c9,d2,c4,c5,c3,_⟩:=ZU (P:=prog) 123 3 _ _ underlying123 Y2 rfl (w:=wr.drewN q) G.o (mN L.o q) L.o.size T rfl fU O;have b7:=J c4;have u:Hid (d2.ownsRow a8 3 1 c9 ((l.take (k+1)).filter (λt=> !j.contains t)) (bO ((l.take (k+1)).filter (λt=> !j.contains t)))):=J (by rw[S.o,bV,AP];exact c5);have y:=J c3;exact Of
 have g3:k=n:=O;subst g3;have g5:=J (ZiR G.o rfl);have i1:Hid (hG wr (.slice d3 (R i) e4) (R i)):=J ⟨d3,e4,rfl,h3.o.below L.o⟩;have e9:=J (e3.o.trans (L.o.mono e3.o.size));go_wp2;go_ret3;exact⟨_,_,rfl,i1.o,by rw[b4.o];exact g5.o,e9.o⟩
def tp (c:dX):Array aI:= #[.int .i64 c.st,.int .i64 c.f,.int .i64 c.s,.int .i64 c.n]
structure me (w wx:World) (c:dX):Prop where
 kc:Bk wx (w.heap.size+1) 220 (tp c)
 kr:Bk wx w.heap.size 220 (tp zo)
 bel:Below w.heap.size w wx
theorem me.below {c:dX} (h:me w W c) (hb:Below W W W'):me w W' c:=⟨h.kc.below hb h.kc.lt,h.kr.below hb h.kr.lt,h.bel.trans (hb.mono h.bel.size)⟩
theorem me.put {c:dX} (h:me w W c) (i:Nat) (x:Int) (d:dX) (g:tp d=(tp c).setIfInBounds i x):me w (W.setCell (w.heap.size+1,i) x) d:=
 ⟨by rw[g];exact h.kc.put i _,h.kr.off (p:=⟨w+1,i,none⟩) (by show w.heap.size≠w+1;omega) _,h.bel.setCell (p:=⟨w+1,i,none⟩) (by show w.heap.size<=w+1;omega) _⟩
theorem me.start (w:aq) (c:dX):me w ((w.alloc (.cells (tp zo) 220)).alloc (.cells (tp c) 220)) c where
 kc:=by have:=Bk.new (w.alloc (.cells (tp zo) 220)) 220 (tp c);rw[World.size_alloc] at this;exact this
 kr:=(Bk.new w _ _).alloc _
 bel:=((bf w w).alloc aU _).alloc (by simp) _
def qw (w:aq) (st f s n:Int) (p:Addr) (m:Int) (W:aq):Prop:=
 W.cell? ⟨w+1,0,none⟩=st/\W.cell? ⟨w+1,1,none⟩=f/\W.cell? ⟨w+1,2,none⟩=s/\W.cell? ⟨w+1,3,none⟩=n/\W.cell? p=m/\me w W ⟨st,f,s,n⟩
theorem qw.of {st:Int} (h:me w W ⟨st,f,s,n⟩) (d:W.cell? p=m):qw w st f s n p m W:=⟨h.kc.cell 0,h.kc.cell 1,h.kc.cell 2,h.kc.cell 3,d,h⟩
theorem qw.st {st:Int} (h:qw w st f s n p m W):me w W ⟨st,f,s,n⟩:=h.2.2.2.2.2
theorem qw.below {st:Int} (h:qw w st f s n p m W) (hb:Below W W W'):qw w st f s n p m W':=qw.of (h.st.below hb) ((hb.cell (World.block_lt_of_cell? W p h.2.2.2.2.1)).trans h.2.2.2.2.1)
def MQ (r:Nat) (w:aq):Nat:=match w.cell? ⟨r,3,none⟩ with
 |some (.int _ n)=>(4096-n).toNat
 |_=>0
theorem NZ {c:dX} (h:me w W c):MQ (w.heap.size+1) W=(4096-c.n).toNat:=by have:=h.kc.cell 3;simp[tp] at this;unfold MQ;rw[this]
theorem ZoU {c:dX} (h:me w W c):
  ∃d,((((W.setCell (w,0) c.st).setCell (w,1) c.f).setCell (w,2) c.s).setCell (w,3) c.n)=d/\d.cell? (w,0)=some (.int .i64 c.st)/\d.cell? (w,1)=some (.int .i64 c.f)/\d.cell? (w,2)=some (.int .i64 c.s)/\d.cell? (w,3)=some (.int .i64 c.n)/\Below w w d:=by have g:=(((h.kr.put 0 c.st).put 1 c.f).put 2 c.s).put 3 c.n;refine⟨_,rfl,g.cell 0,g.cell 1,g.cell 2,g.cell 3,?_⟩;exact(((h.bel.setCell (p:=⟨w,0,none⟩) aU _).setCell (p:=⟨w,1,none⟩) aU _).setCell (p:=⟨w,2,none⟩) aU _).setCell (p:=⟨w,3,none⟩) aU _
theorem Zdp {a b:Int} {r:List Int} (h:Zi (a::b::r)=true):Zt (a::b::r)= { tw a b r with n:=(nD (tw a b r) ((a::b::r).getLast (by simp)) 4096 1:Nat) } :=by show(if _ then _ else _)=_;rw[Vag h]
theorem S' (h:l.length<2\/Zi l=false):Zt l=zo:=by
 match l,h with
 |[],_=>rfl
 |[_],_=>rfl
 |a::b::r,h=>show(if _ then _ else _)=_;rw[aD];rcases h with h|h;simp at h;omega;rw[h];simp
theorem Z98 (S:At w A (bO l)) (n cap:Nat) (z:n=l) (j2:n<=9223372036854775807):
  Calls prog 143 #[(A,n,cap)] w (bM w (CV (Zt l))):=by
 have a3:=J (λW (h:Below w w W)=>JO (S.below h) n cap z j2);have a2:=J ((bf w w).alloc aU (.cells #[(0:Int),(0:Int),(0:Int),(0:Int)] 220));by_cases j4:n<2;.rw[S' (.inl O)];have k8:(n:Int)<2:=O;clear S z a3;go_in;exact Pb
 have k8:¬(n:Int)<2:=O;cases a0:Zi l;.rw[S' (.inr a0)];rw[a0] at a3;clear S z a0;go_in;go_wp21;refine cp (a3.o _ a2.o) ?_;exact Pb
 rw[a0] at a3
 obtain⟨a,b,r,rfl⟩:∃a b r,l=a::b::r:=by
  match l,z with
  |[],z=>simp at z;omega
  |[_],z=>simp at z;omega
  |a::b::r,_=>exact⟨a,b,r,rfl⟩
 have hd:=Zdp a0;have e4:=(YH.1 (Qf a0 (by simp))).1;obtain⟨k4,c6,k5⟩:=Zd.1 a0;have b5:r.length=n-2:=(by rw[z];simp);obtain⟨m,d2⟩:∃m,(a::b::r).getLast (by simp)=m:=⟨_,rfl⟩;have c5:(bO (a::b::r))[n-1]? =some (.int .i64 m):=by have h1:n-1<(a::b::r).length:=(by rw[<-z];omega);rw[Dx _ _ h1,<-d2,List.getLast_eq_getElem];congr 3;rw[z]
 rw[d2] at hd;have m3:=c6 a fi;have n2:=c6 b (gM _ fi);have n6:=c6 m (by rw[<-d2];exact List.getLast_mem _);obtain⟨F,hF⟩:∃F,tw a b r=F:=⟨_,rfl⟩;have g9:F=⟨a,b-a,match r with|[]=>b-a|t::_=>t-b,1⟩:=hF.symm;rw[hF] at hd;have g8:H6 F:=by rw[hd] at e4;exact MH (c:= { F with n:=(nD F m 4096 1:Nat) }) e4
 obtain⟨K,Q⟩:∃K,nD F m 4096 1=K:=⟨_,rfl⟩;rw[Q] at hd;rw[hd];obtain⟨g,u,rfl,b4,d6⟩:=S 0 yJ;simp[bO,iv] at d6;obtain⟨b1,n3,a4,j3,c9⟩:=S 1 yJ;injection a4 with a4;injection a4 with a4 M;subst a4;subst M;simp[bO,iv] at c9;obtain⟨l7,n4,M,aa,e3⟩:=S.get (n-1) _ c5;injection M with M;injection M with M k3;subst M;subst k3;obtain⟨D,h0⟩:∃k,n-1=k:=⟨_,rfl⟩;rw[h0] at e3;have k1:(n:Int)-1=(D:Int):=O;have h7:(D:Int)<n:=O;have l1:n<=4096:=O
 have b9:=J (show(r=[]/\n=2)\/(∃t q,r=t::q/\2<n/\w.cell? (g,u+2)=some (.int .i64 t)/\0<=t/\t<=1099511627776) by
  match r,b5 with
  |[],b5=>exact .inl ⟨rfl,by simp at b5;omega⟩
  |t::q,b5=>obtain⟨b3,n5,d7,_,h6⟩:=S 2 yJ;injection d7 with d7;injection d7 with a4 M;subst a4;subst M;simp[bO,iv] at h6;have:=c6 t (gM _ (gM _ fi));exact .inr ⟨t,q,rfl,by simp at b5;omega,h6,this.1,this.2⟩)
 obtain⟨a5,a1,a7,f9,g4,h9⟩:=fA g9 g8 Q (show(w.alloc (.cells #[(0:Int),(0:Int),(0:Int),(0:Int)] 220)).cell? (g,u)=some (.int .i64 a) from(a2.o.cell (p:=⟨g,u,none⟩) b4).trans d6) (show(w.alloc (.cells #[(0:Int),(0:Int),(0:Int),(0:Int)] 220)).cell? (g,u+1)=some (.int .i64 b) from(a2.o.cell (p:=⟨g,u+1,none⟩) b4).trans c9) (λc=>me.start w c);have a6:=J e3;have d3:=J c9;have i7:(2:Int)<=n:=O;clear S z a0 hd e4 k4 c6 k5 b5 d2 c5 hF g9 g8 Q d6 c9 e3 j3 aa j4 h0;go_in;go_wp21;refine cp (a3.o _ a2.o) ?_;have k7:=f9.o;have k2:=g4.o;have j0:g<(w.alloc (.cells #[(0:Int),(0:Int),(0:Int),(0:Int)] 220)).heap.size:=fj;go_upto_region 3 with fail;go_cut [3] (λk0 wx=>k0=.pointer (some (w.heap.size+1,0))/\me w wx ⟨a,b-a,0,1⟩)
 case first=>
  clear b9 a5 a1 a7 a6 a3;go_region
  all_goals
   go_wp2;go_meet;case rel=>exact⟨rfl,(h9.o ⟨a,b-a,0,1⟩).below ((bf _ _).drew)⟩
 obtain⟨rfl,L⟩:=hcut;have y:=J L;clear L k7 k2 j0 a3 f9 g4 h9 a2;obtain⟨c0,c1,c2,b0,_⟩:=qw.of (p:=⟨g,u+D,none⟩) (m:=m) y.o ((y.o.bel.cell (p:=⟨g,u+D,none⟩) (by first|exact b4|(have:=y.o.bel.size;omega))).trans a6.o);have h3:=y.o.kc.frozen 2;have j:=J (y.o.put 2 (b-a) ⟨a,b-a,b-a,1⟩ rfl);go_upto_region 5 with fail;clear c0 c1 c2 b0 h3 y;obtain⟨W1,g6⟩:∃W,wc.setCell ⟨w+1,2,none⟩ (b-a:Int)=W:=⟨_,rfl⟩;rw[g6] at j⊢;clear g6;go_upto_if 29 with fail;go_cut [] (λwx=>me w wx F)
 case first=>
  rcases b9.o with ⟨c4,e2⟩|⟨t,q,c4,e2,i0,n1,k9⟩;.have b8:F=⟨a,b-a,b-a,1⟩:=(by rw[a5.o,c4]);have i7:¬(2:Int)<n:=O;have d4:=J (show me w W1 F by rw[b8];exact j.o);clear b9 c4 e2 b8 a5 a1 a7 j;go_wp2;go_meet;case rel=>exact d4.o
  have b8:F=⟨a,b-a,t-b,1⟩:=(by rw[a5.o,c4]);have i7:(2:Int)<n:=O;have l2:g<W1:=(by have:=j.o.bel.size;omega);have m2:=(j.o.bel.cell (p:=⟨g,u+2,none⟩) b4).trans i0;have cb:=(j.o.bel.cell (p:=⟨g,u+1,none⟩) b4).trans d3.o;have h3:=j.o.kc.frozen 2;have c2:=j.o.kc.cell 2;simp[tp] at c2;have d4:=J (λ(q:Nat)=>(show me w ((W1.drewN q).setCell (w.heap.size+1,2) (t-b:Int)) F by rw[b8];exact me.put (W:=W1.drewN q) ⟨j.o.kc,j.o.kr,mN j.o.bel q⟩ 2 (t-b) ⟨a,b-a,t-b,1⟩ rfl));have l5:w+1≠g:=O;clear b9 c4 e2 b8 a5 a1 a7 j i0;go_wp2;go_region
  all_goals
   go_wp2;go_meet;case rel=>exact d4.o 1
 have c8:=J hcut;clear hcut j b9;have g7:F.n=1:=(by rw[a5.o]);have b6:=J g7;clear g7 a5;obtain⟨I,G,E,f4⟩:=F;simp only at*;go_wp2;go_loopw [] (λwr=>∃k:Nat,1<=k/\k<=4096/\Hid (nD ⟨I,G,E,f4⟩ m (4097-k) k=K)/\Hid (me w wr ⟨I,G,E,(k:Int)⟩)) (λwr=>MQ (w.heap.size+1) wr);refine⟨1,aU,O,a7,J ?_⟩;have:=c8.o;rw[b6.o] at this;exact this;obtain⟨k,l6,l8,Q,L⟩:=hrel;have c7:=J (NZ L.o);have f7:wr.cell? (g,u+D)=some (.int .i64 m):=(L.o.bel.cell (p:=⟨g,u+D,none⟩) b4).trans a6.o;have f6:H6 ⟨I,G,E,(k:Int)⟩:=a1.o;obtain⟨T,d9⟩:∃T,fL ⟨I,G,E,f4⟩ k=T:=⟨_,rfl⟩;have a9:=J (λW=>LG f6 k O W);have f5:fL ⟨I,G,E,(k:Int)⟩ k=T:=d9;rw[f5] at a9;obtain⟨B,h5⟩:∃B,decide (k<4096/\T<=m)=B:=⟨_,rfl⟩;have R:=J h5;have a8:=J d9;have y:=L;have b7:=J f7;clear L f7 f6 d9 f5 h5;unfold CV at a9;simp only at a9;go_upto_region 7 with fail;go_cut [53] (λi8 wx=>i8=.bool B/\me w wx ⟨I,G,E,(k:Int)⟩)
 case first=>
  clear c8 a6 d3 Q;by_cases d1:k<4096
  .have e7:(k:Int)<4096:=O;have j5:decide ((k:Int)<4096)=true:=(by simpa using e7);have m5:IntKind.i64.wrap ((n:Int)-1)=(D:Int):=(by rw[IntWalk.i64_in _ O,k1]);have n0:(0:Int)<=D:=O;have l0:IntKind.i64.wrap (D:Int)=(D:Int):=lO;have f8:qw w I G E (k:Int) ⟨g,u+D,none⟩ m wr.drew:=qw.of (y.o.below ((bf _ _).drew)) b7.o;unfold qw at f8;have e5:Hid (decide (T<=m)=B):=J (by rw[<-R.o];simp[d1]);clear R c7 a8 a1 b6 b7 y d1
   go_region_held3 (λW=>W.cell? (w.heap.size+1,0)=some (.int .i64 I)/\W.cell? (w.heap.size+1,1)=some (.int .i64 G)/\W.cell? (w.heap.size+1,2)=some (.int .i64 E)/\W.cell? (w.heap.size+1,3)=some (.int .i64 (k:Int))/\W.cell? (g,u+D)=some (.int .i64 m)/\me w W ⟨I,G,E,(k:Int)⟩) (first|exact f8|assumption|exact qw.below mi mi)
    (first|(go_at_call 192;with_reducible refine(a9.o _).mono ?_;rintro r w' ⟨rfl,aa⟩))
   all_goals
    go_wp2;go_meet;case rel=>exact⟨by rw[e5.o],qw.st mi⟩
  have e7:¬(k:Int)<4096:=O;obtain⟨c0,c1,c2,b0,l9,_⟩:=qw.of y.o b7.o;have e5:Hid (B=false):=J (by rw[<-R.o];simp[d1]);clear R c7 a8 a1 b6 b7 d1;go_quiet (fail);go_wp2;go_meet;case rel=>exact⟨by rw[e5.o],y.o.below (by first|exact bf _ _|exact mN (bf _ _) _)⟩
 obtain⟨rfl,L⟩:=hcut;have d:=J L;clear L y b7;cases B with
 |true=>have aa:=R.o;simp at aa;obtain⟨e6,g5⟩:=aa;have d5:=Q.o;rw[show 4097-k=(4096-k)+1 by omega,Zd6 _ _ _ _ ⟨e6,by rw[a8.o];exact g5⟩,show 4096-k=4097-(k+1) by omega] at d5;have i2:=J d5;have b0:=d.o.kc.cell 3;have m4:=d.o.kc.frozen 3;simp[tp] at b0;obtain⟨k',e1⟩:∃k',k+1=k':=⟨_,rfl⟩;rw[e1] at i2;have e7:(k:Int)+1=(k':Int):=O;have AN:1<=k':=O;have j1:k'<=4096:=O;have e8:=J (d.o.put 3 (k':Int) ⟨I,G,E,(k':Int)⟩ rfl);have i9:=J (NZ e8.o);have k6:=J (And.intro e6 e1);clear Q d5 R g5 e1 d a7 a6 d3 c8 a8 a1 b6 a9 e6;go_wp2;refine⟨⟨k',AN,j1,i2,e8⟩,?_⟩;rw[i9.o,c7.o];obtain⟨n7,n8⟩:=k6.o;exact dz
 |false=>
  have aa:=R.o;have d8:K=k:=by have:=Q.o;rw[Zd7 _ _ _ _ (by rw[a8.o];simpa using aa)] at this;exact this.symm
  subst d8;obtain⟨l3,h8,i3,i4,i5,i6,h4⟩:=ZoU d.o;have i1:=J h8;have j6:=J h4;have r0:=d.o.kr.cell 0;have j7:=d.o.kr.cell 1;have j8:=d.o.kr.cell 2;have j9:=d.o.kr.cell 3;have m6:=d.o.kr.frozen 0;have m7:=d.o.kr.frozen 1;have m8:=d.o.kr.frozen 2;have m9:=d.o.kr.frozen 3;have c0:=d.o.kc.cell 0;have c1:=d.o.kc.cell 1;have c2:=d.o.kc.cell 2;have b0:=d.o.kc.cell 3;simp[tp,zo] at r0 j7 j8 j9 c0 c1 c2 b0;simp only at i1 i3 i4 i5 i6;clear h8 h4 aa Q R d a7 a6 d3 c8 a8 a1 b6 a9 c7;go_wp2_with ((with_reducible show bodyPost _ _ _ _ _ _);rw[i1.o];refine bodyPost_ret (v:=.agg #[I,G,E,.int .i64 (K:Int)]) (by simp[results,results143,go_sem,i3,i4,i5,i6];try rfl) rfl ?_;exact⟨rfl,j6.o⟩)
