import Derived.Test.YtnjkjoklnephcaaGreatDoorJ13
set_option linter.all false
set_option maxRecDepth 100000
set_option maxHeartbeats 0
section
variable{P Q:Prop}
theorem Cy(h:P:=by with_reducible rfl):P:=h
theorem EO(h:P:=by exact⟨0,cf _,rfl,J Zl,J (bf _ _)⟩):P:=h
theorem E'{P:Prop}(h:P:=by go_wp2;go_ret;exact⟨Z4 y.o.symm,g.o⟩):P:=h
theorem Q3(h:P:=by rw[g.o.cell,UV _ _ (by rw[bV,k.o,iE];omega)]):P:=h
theorem PZ(h:P:=by rw[aD h];simp only[Bool.not_eq_true] at h;rw[List.filter_cons,h];rfl):P:=h
theorem Pb(h:P:=by go_wp2;refine bodyPost_ret (by simp[results,results143,go_sem];try rfl) rfl ?_;exact⟨rfl,a2.o⟩):P:=h
theorem Of(h:P:=by
 go_wp2_with (
  at_builtin;refine Z5 (by with_reducible rfl) rfl _ _ _ rfl _ _ (by rfl) (by rfl) b7.o ?_);refine⟨⟨k+1,ab,by go_num,u,y⟩,?_⟩;simp[intOf]<;>omega):P:=h
end
namespace Go.Proofs.Y
open Tryz Wv Go.RowKit
variable{A:bN}{W W' w w':aq}{f m n s:Int}{l:List Int}{p:Addr}{v:aI}
def jF (l:List Int):Array aI:=(bO l).toArray
theorem UV (l:List Int) (i:Nat) (h:i<l):(jF l)[i]? =some (.int .i64 l[i]):=by simp[jF,bO,iv,h]
theorem Lu (l:List Int) (i:Nat) (x:Int):(jF l).setIfInBounds i x=jF (l.set i x):=by apply pS.1;simp[jF,bO,iv,List.map_set]
theorem Qh (n:Nat):Array.replicate n (.int .i64 0:aI)=jF (List.replicate n 0):=by apply pS.1;simp[jF,bO,iv]
theorem Hx {g:Nat} (h:Bk w g 3 (jF l)):At w (some ⟨g,0,none⟩) (bO l):=by have:=h.at_;simpa [jF] using this
theorem Dx (l:List Int) (i:Nat) (h:i<l):(bO l)[i]? =some (.int .i64 l[i]):=by simp[bO,iv,h]
theorem JO (E:At w A (bO l)) (n cap:Nat) (F:n=l) (Q:n<=9223372036854775807):
  Calls prog 102 #[(A,n,cap)] w λx w'=>x=.returned (Zi l)/\w=w':=by
 have Ha:=J E;have I:=J F;obtain⟨V,B⟩:=ay (Zi l);have q:Hid (V=(tv (-1) l&&decide (l.length<=4096))):=J B.symm;rw[B];go_in;go_wp2;go_loopw [3,8] (λs3 t wr=>∃(i:Nat) (last:Int),i<=n/\s3=last/\t=i/\Hid (tv (-1) l=tv last (l.drop i))/\wr=w) (λ_ t _=>(n-intOf t).toNat);exact⟨0,-1,cf _,rfl,rfl,J rfl,rfl⟩;obtain⟨i,last,hi,rfl,rfl,p,rfl⟩:=hrel;by_cases ab:i<n
 .have y:i<l:=iF;have hd:l.drop i=l[i]::l.drop (i+1):=kw y;have z:=Dx l i y;obtain⟨x,G⟩:=ay l[i];rw[G] at hd z;obtain⟨b,o,D,hb,a0⟩:=Ha.o.get i _ z;subst D;have k:=p.o;rw[hd] at k;have u:tv (-1) l=(decide (last<x)&&decide (x<=1099511627776)&&tv x (l.drop (i+1))):=k;have R:(i:Int)<n:=O;by_cases h1:x<=last;.have g:Hid (V=false):=J (by rw[q.o,u,cI (show ¬last<x by omega)];rfl);go_wp2;go_ret;exact⟨Z4 g.o.symm,rfl⟩
  by_cases S:1099511627776<x;.have g:Hid (V=false):=J (by rw[q.o,u,cI (show ¬x<=1099511627776 by omega),Bool.and_false];rfl);go_wp2;go_ret;exact⟨Z4 g.o.symm,rfl⟩
  have g:Hid (tv (-1) l=tv x (l.drop (i+1))):=J (by rw[u,dd (show last<x by omega),dd (show x<=1099511627776 by omega)];rfl);go_wp2;refine⟨⟨i+1,x,ab,rfl,ci,g,by first|trivial|rfl⟩,?_⟩;simp[intOf]<;>omega
 have M:i=n:=O;have k:=p.o;rw[oc (by rw[<-I.o];omega)] at k;have g:Hid (V=decide (n<=4096)):=J (by rw[q.o,k,I.o];rfl);subst M;go_wp2;go_ret;exact⟨Z4 (by rw[g.o];exact fj),rfl⟩
theorem F6 (F:At w A (bO l)) (n cap:Nat) (q:n=l) (M:Zi l=true):
  Calls prog 141 #[(A,n,cap)] w λx w'=>∃v,x=.returned v/\hG w' v (Za l)/\Below w w w':=by
 obtain⟨b6,R,b7⟩:=Zd.1 M;have b8:n<=4096:=O;have a7:=Y5 (P:=prog) 123 3 _ _ underlying123 Y2 rfl (n:Int) n rfl O O w;rw[Qh] at a7;obtain⟨b0,a6,Ha,I,b1⟩:=ii (Bk.new w 3 (jF (List.replicate n 0))) ((bf w w).alloc aU (.cells (jF (List.replicate n 0)) 3)) F q R;have a3:Hid ((Za l)=n):=J (by unfold Za;rw[Y4,q]);clear F q M b6 R b7;go_in;go_wp2;go_loopw [3,12] (λs3 t wr=>∃(i:Nat) (last:Int) (G:List Int),i<=n/\-1<=last/\last<=1099511627776/\s3=last/\t=i/\Hid (Za l=G++gp last (l.drop i))/\Hid (G=i)/\Hid (Bk wr w 3 (jF (G++List.replicate (n-i) 0)))/\Hid (Below w w wr)) (λ_ t _=>(n-intOf t).toNat);exact⟨0,-1,[],cf _,O,O,rfl,rfl,J rfl,J rfl,J (by simpa using b0.o),a6⟩;obtain⟨i,last,G,hi,c3,b9,rfl,rfl,E,k,g,hb⟩:=hrel;by_cases ab:i<n;.have z:i<l:=iF;have hd:l.drop i=l[i]::l.drop (i+1):=kw z;have B:=Dx l i z;have D:=b1.o l[i] (dt _);obtain⟨x,b3⟩:=ay l[i];rw[b3] at hd B D;obtain⟨b,o,b2,a8,a9⟩:=Ha.o.get i _ B;subst b2;have c6:=(hb.o.cell (p:=⟨b,o+i,none⟩) a8).trans a9;obtain⟨c7,a1⟩:=D;have u:=g.o.put i (x-last-1:Int);rw[Lu,show n-i=(n-(i+1))+1 by omega,pP,nj _ _ (by rw[k.o];exact aU),k.o,fh,List.set_cons_zero] at u;have a4:Hid (Bk (wr.setCell (w,i) (x-last-1:Int)) w 3 (jF ((G++[x-last-1])++List.replicate (n-(i+1)) 0))):=J (by rw[er];exact u);have b5:=J (hb.o.setCell (p:=⟨w,i,none⟩) aU (x-last-1:Int));have S:Hid (Za l=(G++[x-last-1])++gp x (l.drop (i+1))):=J (by rw[E.o,hd,er];rfl);have a0:Hid ((G++[x-last-1]).length=i+1):=J (by rw[bV,k.o];rfl);obtain⟨c9,c5⟩:∃y:Int,wr.cell? (w,i)=y:=⟨_,Q3⟩;have c8:=g.o.frozen i;have c4:(i:Int)<n:=O;go_wp2;refine⟨⟨i+1,x,_,ab,O,a1,rfl,ci,S,a0,a4,b5⟩,?_⟩;simp[intOf]<;>omega
 have b4:i=n:=O;subst b4;have Q:=E.o;rw[oc Fp] at Q;have a2:Za l=G:=(by rw[Q];exact fg _);have a5:Hid (hG wr (.slice (some (w,0)) i i) (Za l)):=J ⟨_,i,by rw[a3.o],by have:=Hx g.o;rw[fh,List.replicate_zero,fg] at this;rw[a2];exact this⟩;go_wp2;go_ret;exact⟨_,rfl,a5.o,hb.o⟩
def It (w:aq) (r:Option (List Int)) (x:Ending) (w':aq):Prop:=∃v ok,x=.returned (.tuple #[v,.bool ok])/\ok=r.isSome/\(∀l,r=some l->hG w' v l)/\Below w w w'
theorem Xg {r:Option (List Int)} (h:r=none) (hb:Below w w w'):It w r (.returned (.tuple #[v,false])) w':=⟨_,_,rfl,by rw[h];rfl,(λl g=>by rw[h] at g;cases g),hb⟩
theorem F7 (Q:At w A (bO l)) (n cap:Nat) (S:n=l.length) (c3:n<=1000000):
  Calls prog 172 #[(A,n,cap)] w λx w'=>It w (kS l) x w':=by
 have a8:=Y5 (P:=prog) 123 3 _ _ underlying123 Y2 rfl (n:Int) n rfl O O w;rw[Qh] at a8;obtain⟨b1,a7,Ha,I⟩:=dc (Bk.new w 3 (jF (List.replicate n 0))) ((bf w w).alloc aU (.cells (jF (List.replicate n 0)) 3)) Q S;obtain⟨R,z⟩:=ay (kS l);have u:Hid (R=match jn (-1) l with|some r=>if r.length<=4096 then some r else none|none=>none):=J z.symm;rw[z];clear Q S z;go_in;go_wp2;go_loopw [4,13] (λb9 B wr=>∃(i:Nat) (last:Int) (G:List Int),i<=n/\-1<=last/\last<=1099511627776/\b9=last/\B=i/\Hid (jn (-1) l=(jn last (l.drop i)).map (G++·))/\Hid (G=i)/\Hid (Bk wr w 3 (jF (G++List.replicate (n-i) 0)))/\Hid (Below w w wr)) (λ_ B _=>(n-intOf B).toNat);exact⟨0,-1,[],cf _,O,O,rfl,rfl,J (by simp),J rfl,J (by simpa using b1.o),a7⟩;obtain⟨i,last,G,hi,c5,c4,rfl,rfl,M,k,g,hb⟩:=hrel;by_cases ab:i<n
 .have E:i<l.length:=iF;have hd:l.drop i=l[i]::l.drop (i+1):=kw E;have F:=Dx l i E;obtain⟨x,b6⟩:=ay l[i];rw[b6] at hd F;obtain⟨b,o,b4,a9,b0⟩:=Ha.o.get i _ F;subst b4;have c9:=(hb.o.cell (p:=⟨b,o+i,none⟩) a9).trans b0;have b5:jn last (x::l.drop (i+1))=if x<0\/1099511627776<x\/1099511627776<last+x+1 then none else(jn (last+x+1) (l.drop (i+1))).map ((last+x+1)::·):=rfl;have q:=M.o;rw[hd,b5] at q;have c6:(i:Int)<n:=O;by_cases h1:x<0;.have t:Hid (R=none):=J (by rw[u.o,q,aQ (.inl h1)];rfl);go_wp2;go_ret2;exact Xg t.o hb.o
  by_cases b2:1099511627776<x;.have t:Hid (R=none):=J (by rw[u.o,q,aQ (.inr (.inl b2))];rfl);go_wp2;go_ret2;exact Xg t.o hb.o
  have c7:last+(x+1)=last+x+1:=O;obtain⟨y,b7⟩:=ay (last+x+1);have D:=g.o.put i y;rw[Lu,show n-i=(n-(i+1))+1 by omega,pP,nj _ _ (by rw[k.o];exact aU),k.o,fh,List.set_cons_zero] at D;have a5:Hid (Bk (wr.setCell (w,i) y) w 3 (jF ((G++[y])++List.replicate (n-(i+1)) 0))):=J (by rw[er];exact D);have a0:=J (hb.o.setCell (p:=⟨w,i,none⟩) aU y);have a2:Hid ((G++[y]).length=i+1):=J (by rw[bV,k.o];rfl);obtain⟨d2,c8⟩:∃y:Int,wr.cell? (w,i)=y:=⟨_,Q3⟩;have d1:=g.o.frozen i;rw[b7] at q;by_cases b3:1099511627776<y;.have t:Hid (R=none):=J (by rw[u.o,q,aQ (.inr (.inr b3))];rfl);have a3:last+(x+1)=y:=O;go_wp2;go_ret2;exact Xg t.o a0.o
  have a1:Hid (jn (-1) l=(jn y (l.drop (i+1))).map ((G++[y])++·)):=J (by rw[q,aD O,Option.map_map];congr 1;funext r;simp);have a3:last+(x+1)=y:=O;go_wp2;refine⟨⟨i+1,y,_,ab,O,O,rfl,ci,a1,a2,a5,a0⟩,?_⟩;simp[intOf]<;>omega
 have b8:i=n:=O;subst b8;have q:=M.o;rw[oc Fp] at q;have a4:jn (-1) l=some G:=(by rw[q];simp[jn]);have a6:Hid (hG wr (.slice (some (w,0)) i i) G):=J ⟨_,i,by rw[k.o],by have:=Hx g.o;rw[fh,List.replicate_zero,fg] at this;exact this⟩;have t:Hid (R=if i<=4096 then some G else none):=J (by rw[u.o,a4];simp only;rw[k.o]);go_wp2;go_ret2;refine⟨_,_,rfl,?_,λl h=> ?_,hb.o⟩;rw[t.o];by_cases h:i<=4096;rw[aQ h];exact fj;rw[aD h];exact fj;rw[t.o] at h;split at h;injection h with h;subst h;exact a6.o;cases h
def CV (c:dX):aI:=.agg #[c.st,c.f,c.s,c.n]
def H6 (c:dX):Prop:=0<=c.st/\c.st<=1099511627776/\1<=c.f/\c.f<=1099511627776/\1<=c.s/\c.s<=1099511627776
theorem MH {c:dX} (h:sw c):H6 c:=⟨h.2.2.1,h.2.2.2.1,h.2.2.2.2.1,h.2.2.2.2.2.1,h.2.2.2.2.2.2.1,h.2.2.2.2.2.2.2⟩
theorem ZkX {k:Nat} (l:k<=3000) (h1:1<=f) (g:f<=1099511627776):0<=(k:Int)*f/\(k:Int)*f<=3298534883328000:=by
  constructor;exact Int.mul_nonneg (Int.natCast_nonneg k) O
  calc (k : Int) * f <= 3000 * f := Int.mul_le_mul_of_nonneg_right O O
    _<=3298534883328000:=O
theorem LG {c:dX} (E:H6 c) (i:Nat) (hi:i<=5000) (w:aq):
  Calls prog 192 #[CV c,i] w (bM w (fL c i:Int)):=by obtain⟨h1,a1,y,z,B,D⟩:=E;obtain⟨st,f,s,n⟩:=c;simp only at*;have g:fL ⟨st,f,s,n⟩ i=st+((i+1)/2:Nat)*f+(i/2:Nat)*s:=rfl;obtain⟨k1,l⟩:=ay ((i+1)/2);obtain⟨k2,p⟩:=ay (i/2);rw[l,p] at g;obtain⟨F,G⟩:=ZkX (k:=k1) O y z;obtain⟨I,M⟩:=ZkX (k:=k2) O B D;have S:((i:Int)+1)/2=(k1:Int):=O;have a0:(i:Int)/2=(k2:Int):=O;obtain⟨Q,q⟩:=ay ((k1:Int)*f);obtain⟨R,t⟩:=ay ((k2:Int)*s);rw[q] at F G g;rw[t] at I M g;have u:=J g;clear l p g;unfold CV;simp only;go_in;go_wp2;go_ret;exact⟨by rw[u.o];rfl,(bf w w).alloc aU _⟩
theorem GY (n a b:Int) (w:aq):
  Calls prog 258 #[n,a,b] w λx w'=>x=.returned (.bool (decide (a<=n)&&decide (n<=b)))/\w=w':=by
 by_cases h1:a<=n
 .by_cases g:n<=b;.go_in;go_wp2;go_ret;exact⟨Z4 (by simp[h1,g]),rfl⟩
  go_in;go_wp2;go_ret;exact⟨Z4 (by rw[eq_comm,uJ];omega),rfl⟩
 go_in;go_wp2;go_ret;exact⟨Z4 (by rw[eq_comm,Ca,uJ,uJ];omega),rfl⟩
theorem ZgK (c:dX) (w:aq):
  Calls prog 227 #[CV c] w (bM w (nU c)):=by
 obtain⟨b1,k⟩:=ay ((decide (1<=c.n)&&decide (c.n<=4096)));obtain⟨F,aa⟩:=ay ((decide (0<=c.st)&&decide (c.st<=1099511627776)));obtain⟨b3,l⟩:=ay ((decide (1<=c.f)&&decide (c.f<=1099511627776)));obtain⟨z,an⟩:=ay ((decide (1<=c.s)&&decide (c.s<=1099511627776)));obtain⟨q,u,D,G⟩:=dc (λW=>GY c.n 1 4096 W) (λW=>GY c.st 0 1099511627776 W) (λW=>GY c.f 1 1099511627776 W) (λW=>GY c.s 1 1099511627776 W);rw[k] at q;rw[aa] at u;rw[l] at D;rw[an] at G;have t:nU c=(b1&&F&&b3&&z&&decide (fL c (c.n-1).toNat<=1099511627776)):=by unfold nU;congr 1;rw[<-k,<-aa,<-l,<-an,lN,fq];unfold sw;simp[and_assoc]
 have g:=J ((bf w w).alloc aU (.cells #[c.st,c.f,c.s,c.n] 220));by_cases p:b1=true/\F=true/\b3=true/\z=true
 .obtain⟨rfl,rfl,rfl,rfl⟩:=p;have E:sw c:=by simp at k aa l an;exact⟨k.1,k.2,aa.1,aa.2,l.1,l.2,an.1,an.2⟩
  have n1:=E.1;have n2:=E.2.1;have B:=J (λW=>LG (MH E) (c.n-1).toNat O W);obtain⟨m,M⟩:=ay ((c.n-1).toNat);have hmi:c.n-1=(m:Int):=O;rw[M] at B t;obtain⟨T,I⟩:=ay (fL c m);rw[I] at B t;have y:=J t;clear k aa l an t E M I;obtain⟨st,f,s,n⟩:=c;simp only at*;unfold CV at B⊢;simp only at B⊢;go_in;go_wp21;refine cp (q.o _) ?_;go_wp21;refine cp (u.o _) ?_;go_wp21;refine cp (D.o _) ?_;go_wp21;refine cp (G.o _) ?_;go_wp21;refine ij (B.o _) g λw1 Q=>?_;go_wp2;go_ret;exact⟨Z4 (by rw[y.o];simp),Q.o⟩
 have y:Hid (nU c=false):=J (by rw[t];cases b1<;>cases F<;>cases b3<;>cases z<;>simp at p<;>rfl);clear k aa l an t;obtain⟨st,f,s,n⟩:=c;simp only at*;unfold CV;simp only;cases b1;.clear p;go_in;go_wp21;refine cp (q.o _) ?_;exact E'
 cases F;.clear p;go_in;go_wp21;refine cp (q.o _) ?_;go_wp21;refine cp (u.o _) ?_;exact E'
 cases b3;.clear p;go_in;go_wp21;refine cp (q.o _) ?_;go_wp21;refine cp (u.o _) ?_;go_wp21;refine cp (D.o _) ?_;exact E'
 obtain rfl:z=false:=(by cases z<;>simp at p⊢);clear p;go_in;go_wp21;refine cp (q.o _) ?_;go_wp21;refine cp (u.o _) ?_;go_wp21;refine cp (D.o _) ?_;go_wp21;refine cp (G.o _) ?_;exact E'
def wh (w:aq) (c:dX) (x:Ending) (w':aq):Prop:=if nU c=true then(∃g,x=.returned (.tuple #[.slice (some ⟨g,0,none⟩) c.n.toNat c.n.toNat,(0:Int)])/\Bk w' g 3 (jF (ZP c))/\w.heap.size<=g/\Below w w w') else(x=.returned (.tuple #[.slice none 0 0,(1:Int)])/\Below w w w')
theorem Sl (c:dX) (w:aq):
  Calls prog 193 #[CV c] w λx w'=>wh w c x w':=by
 have k:=J (λW=>ZgK c W);cases t:nU c;.rw[t] at k;have G:Hid (∀x w',wh w c x w'↔(x=.returned (.tuple #[.slice none 0 0,(1:Int)])/\Below w w w')):=J (λx w'=>by unfold wh;rw[aD (by rw[t];simp)]);have z:=J ((bf w w).alloc aU (.cells #[c.st,c.f,c.s,c.n] 220));clear t;obtain⟨st,f,s,n⟩:=c;unfold CV at k⊢;simp only at k z⊢;go_in;go_wp21;refine ij (k.o _) z λw1 c5=>?_;go_wp2;go_ret2;exact(G.o _ _).2 ⟨rfl,c5.o⟩
 rw[t] at k;have G:Hid (∀x w',wh w c x w'↔(∃g,x=.returned (.tuple #[.slice (some ⟨g,0,none⟩) c.n.toNat c.n.toNat,(0:Int)])/\Bk w' g 3 (jF (ZP c))/\w.heap.size<=g/\Below w w w')):=J (λx w'=>by unfold wh;rw[aQ t]);obtain⟨I,_⟩:=YH.1 t;have n1:=I.1;have n2:=I.2.1;have a1:=J (λ(i:Nat) (hi:i<=5000) W=>LG (MH I) i hi W);have D:=Ru c;have R:∀i (h:i<c.n.toNat),ZP c=(ZP c).take i++fL c i::(ZP c).drop (i+1):=λi h=>by have h1:i<(ZP c).length:=(by rw[D];exact h);have c9:(ZP c)[i]=fL c i:=(by simp[ZP]);rw[<-c9,<-kw h1,vH]
 obtain⟨N,b3⟩:=ay c.n.toNat;have a8:c.n=(N:Int):=O;rw[b3] at G D R;obtain⟨l,a6⟩:=ay (ZP c);rw[a6] at G D R;obtain⟨a9,a4,z,a2⟩:=dc R D ((bf w w).alloc aU (.cells #[c.st,c.f,c.s,c.n] 220)) (Bk.new w 220 #[c.st,c.f,c.s,c.n]);obtain⟨b9,b6⟩:=ay (fL c);rw[b6] at a1 a9;clear t I D R a6 b6 b3;obtain⟨st,f,s,n⟩:=c;simp only at a8;subst a8;unfold CV at k a1⊢;simp only at*;have d6:N<=4096:=O;have d5:1<=N:=O;clear n1 n2;go_in;go_wp21;refine aP (k.o _) λw1 hb=>?_;have M:=J (z.o.trans (hb.mono z.o.size));have ff:=J (a2.o.below hb a2.o.lt);clear hb z a2 k;have b1:=Y5 (P:=prog) 123 3 _ _ underlying123 Y2 rfl (N:Int) N rfl O O w1;rw[Qh] at b1;obtain⟨c8,c6,b8,b2⟩:=dc (Bk.new w1 3 (jF (List.replicate N 0))) (M.o.alloc M.o.size (.cells (jF (List.replicate N 0)) 3)) (ff.o.alloc (.cells (jF (List.replicate N 0)) 3)) M.o.size;have E:=ff.o.cell 0;have k1:=ff.o.cell 1;have k2:=ff.o.cell 2;have k3:=ff.o.cell 3;have F:=ff.o.lt;have d1:=J F;simp at E k1 k2 k3;go_wp2;clear E k1 k2 k3 F b1 ff M;go_loopw [14] (λa3 wr=>∃i:Nat,i<=N/\a3=(i:Int)/\Hid (Bk wr w1.heap.size 3 (jF (l.take i++List.replicate (N-i) 0)))/\Hid (Bk wr w 220 #[st,f,s,N])/\Hid (Below w w wr)) (λa3 _=>(N-intOf a3).toNat);exact⟨0,cf _,rfl,J (by simpa using c8.o),b8,c6⟩;obtain⟨i,hi,rfl,B,u,hb⟩:=hrel;by_cases ab:i<N
 .have d7:(i:Int)<N:=O;have a5:=J (a1.o i O);obtain⟨T,b4⟩:=ay (b9 i);have S:=a9.o i ab;rw[b4] at a5 S
  have b0:l.take (i+1)=l.take i++[T]:=by
   have q:(l.take i).length=i:=(by rw[ek,a4.o];omega);conv=>lhs;rw[S]
   rw[List.take_append,q,show i+1-i=1 by omega,d' (by rw[q];omega)];rfl
  have E:=u.o.cell 0;have k1:=u.o.cell 1;have k2:=u.o.cell 2;have k3:=u.o.cell 3;simp at E k1 k2 k3;have c4:=J b0;clear S b4 b0;go_wp21;refine aP (a5.o _) λb7 aa=>?_;have Q:=B.o.below aa B.o.lt;have a7:=u.o.below aa u.o.lt;have b5:=hb.o.trans (aa.mono hb.o.size);have a0:=Q.put i T;have q:(l.take i).length=i:=(by rw[ek,a4.o];omega);rw[Lu,show N-i=(N-(i+1))+1 by omega,pP,nj _ _ (by rw[q];exact aU),q,fh,List.set_cons_zero] at a0;have c3:Hid (Bk (b7.setCell (w1.heap.size,i) T) w1.heap.size 3 (jF (l.take (i+1)++List.replicate (N-(i+1)) 0))):=J (by rw[c4.o,er];exact a0);have d3:=J (b5.setCell (p:=⟨w1.heap.size,i,none⟩) b2.o T);have d4:=J (a7.off (p:=⟨w1.heap.size,i,none⟩) (by show w.heap.size≠w1.heap.size;have:=d1.o;omega) T);obtain⟨e1,d8⟩:∃y:Int,b7.cell? (w1.heap.size,i)=y:=⟨_,by rw[Q.cell,UV _ _ (by rw[bV,q,iE];omega)]⟩;have d9:=Q.frozen i;clear E k1 k2 k3 a0 Q a7 b5 aa B u hb q;go_wp2;refine⟨⟨i+1,ab,ci,c3,d4,d3⟩,?_⟩;simp[intOf]<;>omega
 have d2:i=N:=O;subst d2;have c7:Hid (Bk wr w1.heap.size 3 (jF l)):=J (by have:=B.o;rw[fh,List.replicate_zero,fg,d' (by rw[a4.o];exact aU)] at this;exact this);clear B;go_wp2;go_ret2;exact(G.o _ _).2 ⟨_,rfl,c7.o,b2.o,hb.o⟩
theorem Jz (t:At w A (bO l)) (n cap:Nat) (D:n=l) (G:n<=1000000) (E:l.Pairwise (· <·)) (x:Int):
  cK 194 #[(A,n,cap),x] w λe w'=>(∃p:Int,e=.returned (.tuple #[p,l.contains x]))/\∃q,w'=w.drewN q:=by by_cases h0:n=0;subst h0;have B:l=[]:=ia D.symm;subst B;exact(Tryz.slices_BinarySearch_int_empty A cap x w).mono λe w' ⟨h1,g⟩=>⟨⟨0,h1⟩,0,g⟩;obtain⟨b,o,rfl,hb,_⟩:=t 0 (by simp[bO];omega);refine(Tryz.slices_BinarySearch_int b o n cap l x w O O (λj u=> ?_) ?_).mono λe w' ⟨h1,g⟩=>⟨⟨_,by rw[d' O] at h1;exact h1⟩,g⟩;obtain⟨I,Q,k,M,z⟩:=t j (by simpa [bO] using u);injection k with k;injection k with F y;subst F;subst y;rw[z];simp[bO,iv,u];rw[d' O];exact E.imp (λh=>Int.le_of_lt h)
def Zqp (w:aq) (r:Option (List Int×List Int)) (x:Ending) (w':aq):Prop:=match r with
 |some (m,f)=>∃g k,x=.returned (.tuple #[g,k,(0:Int)])/\hG w' g m/\hG w' k f/\Below w w w'
 |none=>x=.returned (.tuple #[.slice none 0 0,.slice none 0 0,(1:Int)])/\Below w w w'
def xE (c:dX) (l:List Int) (i:Nat):List Int:=((List.range i).filter (λi=> !l.contains (fL c i))).map Int.ofNat
theorem Zby (c:dX) (l:List Int) (i:Nat):xE c l (i+1)=if l.contains (fL c i)=true then xE c l i else xE c l i++[(i:Int)]:=by unfold xE;rw[vK,List.filter_append,jy];by_cases h:l.contains (fL c i)=true;rw[aQ h,List.filter_cons,h];simp;exact PZ
theorem ZeB (c:dX) (l:List Int) (i:Nat):(xE c l i).length<=i:=by unfold xE;rw[c'];have h1:=List.length_filter_le (λi=> !l.contains (fL c i)) (List.range i);rw[rm] at h1;exact h1
theorem ZiR {base n:Nat} (h:w.ownsRow base 3 1 v n (bO l)) (k:n=l):hG w v l:=by obtain⟨A,cap,p,g⟩:=Zh h;exact⟨A,cap,by rw[p,k],g⟩
theorem hG.bel (h:hG w v l) (hb:Below w w w'):hG w' v l:=by obtain⟨A,cap,k,g⟩:=h;exact⟨A,cap,k,g.below hb⟩
theorem Zka (c:dX) (b4:At w A (bO l)) (n cap:Nat) (b5:n=l) (g4:n<=9223372036854775807):
  Calls prog 144 #[CV c,(A,n,cap)] w λx w'=>Zqp w (HY c l) x w':=by
 obtain⟨b0,Ha,I,a3⟩:=dc (λW=>Sl c W) b4 b5 ((bf w w).alloc aU (.cells #[c.st,c.f,c.s,c.n] 220));have z:HY c l=if nU c=true/\Zi l=true then some (Qy c l,qg c l) else none:=rfl;cases M:nU c;.rw[M,aD (by simp)] at z;rw[z];have G:Hid (∀W,Calls prog 193 #[CV c] W (bM W (.tuple #[.slice none 0 0,(1:Int)]))):=J (λW=>(b0.o W).mono λx w' h=>by unfold wh at h;rw[aD (by rw[M];simp)] at h;exact h);obtain⟨st,f,s,cn⟩:=c;unfold CV at G⊢;simp only at*;go_in;go_wp21;refine aP (G.o _) λw1 hb=>?_;have E:=J (a3.o.trans (hb.mono a3.o.size));go_wp2;go_ret3;exact⟨rfl,E.o⟩
 obtain⟨a6,_⟩:=YH.1 M;have G:Hid (∀W,Calls prog 193 #[CV c] W λx w'=>(∃g,x=.returned (.tuple #[.slice (some ⟨g,0,none⟩) c.n.toNat c.n.toNat,(0:Int)])/\Bk w' g 3 (jF (ZP c))/\W.heap.size<=g/\Below W.heap.size W w')):=J (λW=>(b0.o W).mono λx w' h=>by unfold wh at h;rw[aQ M] at h;exact h);have n1:=a6.1;have n2:=a6.2.1;have a7:=Ru c;have b2:=Rw a6;have a5:∀i,i<c.n.toNat->(ZP c)[i]? =some (fL c i):=λi h=>(by simp[ZP,h]);have b9:Qy c l=xE c l c.n.toNat:=rfl;have b3:=J (λW (h:Below w w W)=>JO (b4.below h) n cap b5 g4);cases S:Zi l;.rw[M,S,aD (by simp)] at z;rw[z];rw[S] at b3;clear z M b0 b4 b5 a6 S a7 b2 a5 b9;obtain⟨st,f,s,cn⟩:=c;unfold CV at G⊢;simp only at*;go_in;go_wp21;refine(G.o _).mono ?_;rintro x w1 ⟨g,rfl,e5,d1,hb⟩;have E:=J (a3.o.trans (hb.mono a3.o.size));go_wp21;refine cp (b3.o _ E.o) ?_;go_wp2;go_ret3;exact⟨rfl,E.o⟩
 rw[M,S,aQ ⟨rfl,rfl⟩,b9] at z;rw[z];rw[S] at b3;obtain⟨f3,i5,i6⟩:=Zd.1 S;have j1:n<=4096:=O;have D:=λi=>Zby c l i;have a9:=λi=>ZeB c l i;have GB:qg c l=l.filter (λt=> !(ZP c).contains t):=rfl;rw[GB];obtain⟨N,e3⟩:=ay c.n.toNat;rw[e3] at a7 a5 G⊢;obtain⟨B,d7⟩:=ay (ZP c);rw[d7] at a7 b2 a5 G⊢;obtain⟨a1,c4⟩:=ay (xE c l);rw[c4] at D a9⊢;obtain⟨g1,f2⟩:=ay (fL c);rw[f2] at D a5;have e8:a1 0=[]:=(by rw[<-c4];rfl);obtain⟨f6,i8,g3,i7,g0,f7⟩:=fA e8 D a9 a7 b2 a5;have f5:=J f3;have j0:N<=4096:=O;clear z M b0 b4 b5 a6 S a7 b2 a5 b9 f3 i5 i6 D a9 GB e3 d7 c4 f2 e8 n1 n2;obtain⟨st,f,s,cn⟩:=c;unfold CV at G⊢;simp only at*;go_in;go_wp21;refine(G.o _).mono ?_;rintro x w1 ⟨g,rfl,e5,d1,hb⟩;have E:=J (a3.o.trans (hb.mono a3.o.size));have h2:=J (Hx e5);go_wp21;refine cp (b3.o _ E.o) ?_;have b6:=J (Ha.o.below E.o);go_upto_region 5 with fail;go_wp2;go_loopw [9,33] (λi2 c5 wr=>∃i:Nat,i<=N/\c5=(i:Int)/\Hid (wr.ownsRow w1.heap.size 3 1 i2 (a1 i) (bO (a1 i)))/\Hid (Below w1.heap.size w1 wr)) (λ_ c5 _=>(N-intOf c5).toNat);exact⟨0,cf _,rfl,J (by rw[f6.o];exact Zl),J (bf _ _)⟩;obtain⟨i,hi,rfl,Q,a4⟩:=hrel;have e1:=h2.o.below a4.o;have d8:=b6.o.below a4.o;by_cases ab:i<N
 .have e9:=f7.o i ab;obtain⟨T,c9⟩:=ay (g1 i);have D:=i8.o i;rw[c9] at e9 D;have h9:(bO B)[i]? =T:=(by unfold bO;rw[jX,e9];rfl);obtain⟨g5,i0,a8,h3,e4⟩:=e1.get i _ h9;injection a8 with a8;injection a8 with h8 h0;subst h8;subst h0;rw[jK] at e4;have F:=J (Jz d8 n cap I.o O f5.o T);have g7:(i:Int)<N:=O;have a9:=g3.o i;have j2:=J a9;cases a0:l.contains T with
  |true=>rw[a0] at F D;rw[aQ rfl] at D;have a2:=J D;go_wp21;refine(F.o).mono ?_;rintro x d4 ⟨⟨p,rfl⟩,q,rfl⟩;go_wp2;refine⟨⟨i+1,ab,ci,J (by rw[a2.o];exact Q.o),J (mN a4.o q)⟩,?_⟩;simp[intOf]<;>omega
  |false=>
   rw[a0] at F D;rw[aD (by simp)] at D;have a2:=J D;go_wp21;refine(F.o).mono ?_;rintro x d4 ⟨⟨p,rfl⟩,q,rfl⟩;obtain⟨d3,d5,c7,c8,c6,_⟩:=ZU (P:=prog) 123 3 _ _ underlying123 Y2 rfl (w:=wr.drewN q) Q.o (mN a4.o q) a4.o.size (i:Int) rfl fU O;have b7:=J c7;have u:Hid (d5.ownsRow w1.heap.size 3 1 d3 (a1 (i+1)) (bO (a1 (i+1)))):=J (by rw[a2.o,bV,AP];exact c8);have y:=J c6
   go_wp2_with (
    at_builtin;refine Z5 Cy rfl _ _ _ rfl _ _ (by rfl) (by rfl) b7.o ?_);refine⟨⟨i+1,ab,ci,u,y⟩,?_⟩;simp[intOf]<;>omega
 have i1:i=N:=O;subst i1;obtain⟨b1,rfl⟩:∃W,W=wr:=⟨_,rfl⟩;obtain⟨d6,e7,i3,h5⟩:=Zh Q.o;subst i3;obtain⟨h6,f9,h4,e6,b8⟩:=ii h5 d8 e1 (E.o.trans (a4.o.mono E.o.size)) (show l.filter (λt=> !B.contains t)=(l.take n).filter (λt=> !B.contains t) by rw[d' (by rw[I.o];exact aU)]);go_wp2;go_loopw [10,53] (λh7 c3 wx=>∃k:Nat,k<=n/\c3=k/\Hid (wx.ownsRow b1 3 1 h7 ((l.take k).filter (λt=> !B.contains t)) (bO ((l.take k).filter (λt=> !B.contains t))))/\Hid (Below b1 b1 wx)) (λ_ c3 _=>(n-intOf c3).toNat);exact EO;obtain⟨k,j4,rfl,Q,R⟩:=hrel;have g9:=h4.o.below R.o;have g2:=f9.o.below R.o;by_cases ab:k<n
 .have d9:k<l:=iF;have e2:=Dx l k d9;have d2:l.take (k+1)=l.take k++[l[k]]:=dK d9;obtain⟨T,c9⟩:=ay l[k];rw[c9] at e2 d2;obtain⟨g5,i0,a8,h3,e4⟩:=g2.get k _ e2;subst a8;have F:=J (Jz g9 i i i7.o.symm O g0.o T);have g7:(k:Int)<n:=O;have f8:Hid (((l.take k).filter (λt=> !B.contains t)).length<=4096):=J (by have h1:=List.length_filter_le (λt=> !B.contains t) (l.take k);rw[ek] at h1;omega)
  cases a0:B.contains T with
  |true=>rw[a0] at F;have a2:Hid ((l.take (k+1)).filter (λt=> !B.contains t)=(l.take k).filter (λt=> !B.contains t)):=J (by rw[d2,List.filter_append,List.filter_cons,a0];simp);go_wp21;refine(F.o).mono ?_;rintro x d4 ⟨⟨p,rfl⟩,q,rfl⟩;go_wp2;refine⟨⟨k+1,ab,ci,J (by rw[a2.o];exact Q.o),J (mN R.o q)⟩,?_⟩;simp[intOf]<;>omega
  |false=>rw[a0] at F;have a2:Hid ((l.take (k+1)).filter (λt=> !B.contains t)=(l.take k).filter (λt=> !B.contains t)++[T]):=J (by rw[d2,List.filter_append,List.filter_cons,a0];rfl);go_wp21;refine(F.o).mono ?_;rintro x d4 ⟨⟨p,rfl⟩,q,rfl⟩;have j3:=f8.o;obtain⟨d3,d5,c7,c8,c6,_⟩:=ZU (P:=prog) 123 3 _ _ underlying123 Y2 rfl (w:=wr.drewN q) Q.o (mN R.o q) R.o.size T rfl fU O;have b7:=J c7;have u:Hid (d5.ownsRow b1 3 1 d3 ((l.take (k+1)).filter (λt=> !B.contains t)) (bO ((l.take (k+1)).filter (λt=> !B.contains t)))):=J (by rw[a2.o,bV,AP];exact c8);have y:=J c6;exact Of
 have g6:k=n:=O;subst g6;have g8:=J (ZiR Q.o rfl);have i4:Hid (hG wr (.slice d6 (a1 i) e7) (a1 i)):=J ⟨d6,e7,rfl,h6.o.below R.o⟩;have f4:=J (e6.o.trans (R.o.mono e6.o.size));go_wp2;go_ret3;exact⟨_,_,rfl,i4.o,by rw[b8.o];exact g8.o,f4.o⟩
def tp (c:dX):Array aI:= #[.int .i64 c.st,.int .i64 c.f,.int .i64 c.s,.int .i64 c.n]
structure me (w wx:World) (c:dX):Prop where
 kc:Bk wx (w.heap.size+1) 220 (tp c)
 kr:Bk wx w.heap.size 220 (tp zo)
 bel:Below w.heap.size w wx
theorem me.below {c:dX} (h:me w W c) (hb:Below W W W'):me w W' c:=⟨h.kc.below hb h.kc.lt,h.kr.below hb h.kr.lt,h.bel.trans (hb.mono h.bel.size)⟩
theorem me.put {c:dX} (h:me w W c) (i:Nat) (x:Int) (g:dX) (k:tp g=(tp c).setIfInBounds i x):me w (W.setCell (w.heap.size+1,i) x) g:=
 ⟨by rw[k];exact h.kc.put i _,h.kr.off (p:=⟨w+1,i,none⟩) (by show w.heap.size≠w+1;omega) _,h.bel.setCell (p:=⟨w+1,i,none⟩) (by show w.heap.size<=w+1;omega) _⟩
theorem me.start (w:aq) (c:dX):me w ((w.alloc (.cells (tp zo) 220)).alloc (.cells (tp c) 220)) c where
 kc:=by have:=Bk.new (w.alloc (.cells (tp zo) 220)) 220 (tp c);rw[World.size_alloc] at this;exact this
 kr:=(Bk.new w _ _).alloc _
 bel:=((bf w w).alloc aU _).alloc (by simp) _
def qw (w:aq) (st f s n:Int) (p:Addr) (m:Int) (W:aq):Prop:=
 W.cell? ⟨w+1,0,none⟩=st/\W.cell? ⟨w+1,1,none⟩=f/\W.cell? ⟨w+1,2,none⟩=s/\W.cell? ⟨w+1,3,none⟩=n/\W.cell? p=m/\me w W ⟨st,f,s,n⟩
theorem qw.of {st:Int} (h:me w W ⟨st,f,s,n⟩) (g:W.cell? p=m):qw w st f s n p m W:=⟨h.kc.cell 0,h.kc.cell 1,h.kc.cell 2,h.kc.cell 3,g,h⟩
theorem qw.st {st:Int} (h:qw w st f s n p m W):me w W ⟨st,f,s,n⟩:=h.2.2.2.2.2
theorem qw.below {st:Int} (h:qw w st f s n p m W) (hb:Below W W W'):qw w st f s n p m W':=qw.of (h.st.below hb) ((hb.cell (World.block_lt_of_cell? W p h.2.2.2.2.1)).trans h.2.2.2.2.1)
def MQ (r:Nat) (w:aq):Nat:=match w.cell? ⟨r,3,none⟩ with
 |some (.int _ n)=>(4096-n).toNat
 |_=>0
theorem ZkJ {c:dX} (h:me w W c):MQ (w.heap.size+1) W=(4096-c.n).toNat:=by have:=h.kc.cell 3;simp[tp] at this;unfold MQ;rw[this]
theorem ZoU {c:dX} (h:me w W c):
  ∃g,((((W.setCell (w,0) c.st).setCell (w,1) c.f).setCell (w,2) c.s).setCell (w,3) c.n)=g/\g.cell? (w,0)=some (.int .i64 c.st)/\g.cell? (w,1)=some (.int .i64 c.f)/\g.cell? (w,2)=some (.int .i64 c.s)/\g.cell? (w,3)=some (.int .i64 c.n)/\Below w w g:=by have k:=(((h.kr.put 0 c.st).put 1 c.f).put 2 c.s).put 3 c.n;refine⟨_,rfl,k.cell 0,k.cell 1,k.cell 2,k.cell 3,?_⟩;exact(((h.bel.setCell (p:=⟨w,0,none⟩) aU _).setCell (p:=⟨w,1,none⟩) aU _).setCell (p:=⟨w,2,none⟩) aU _).setCell (p:=⟨w,3,none⟩) aU _
theorem Zdp {a b:Int} {r:List Int} (h:Zi (a::b::r)=true):Zt (a::b::r)= { tw a b r with n:=(nD (tw a b r) ((a::b::r).getLast (by simp)) 4096 1:Nat) } :=by show(if _ then _ else _)=_;rw[aQ h]
theorem S' (h:l.length<2\/Zi l=false):Zt l=zo:=by
 match l,h with
 |[],_=>rfl
 |[_],_=>rfl
 |a::b::r,h=>show(if _ then _ else _)=_;rw[aD];rcases h with h|h;simp at h;omega;rw[h];simp
theorem Z98 (a3:At w A (bO l)) (n cap:Nat) (E:n=l) (j7:n<=9223372036854775807):
  Calls prog 143 #[(A,n,cap)] w (bM w (CV (Zt l))):=by
 have a6:=J (λW (h:Below w w W)=>JO (a3.below h) n cap E j7);have a2:=J ((bf w w).alloc aU (.cells #[(0:Int),(0:Int),(0:Int),(0:Int)] 220));by_cases j8:n<2;.rw[S' (.inl O)];have l1:(n:Int)<2:=O;clear a3 E a6;go_in;exact Pb
 have l1:¬(n:Int)<2:=O;cases a4:Zi l;.rw[S' (.inr a4)];rw[a4] at a6;clear a3 E a4;go_in;go_wp21;refine cp (a6.o _ a2.o) ?_;exact Pb
 rw[a4] at a6
 obtain⟨a,b,r,rfl⟩:∃a b r,l=a::b::r:=by
  match l,E with
  |[],E=>simp at E;omega
  |[_],E=>simp at E;omega
  |a::b::r,_=>exact⟨a,b,r,rfl⟩
 have hd:=Zdp a4;have e8:=(YH.1 (Qf a4 (by simp))).1;obtain⟨k7,d1,k8⟩:=Zd.1 a4;have b9:r.length=n-2:=(by rw[E];simp);obtain⟨m,d6⟩:∃m,(a::b::r).getLast (by simp)=m:=⟨_,rfl⟩;have c9:(bO (a::b::r))[n-1]? =some (.int .i64 m):=by have h1:n-1<(a::b::r).length:=(by rw[<-E];omega);rw[Dx _ _ h1,<-d6,List.getLast_eq_getElem];congr 3;rw[E]
 rw[d6] at hd;have m6:=d1 a fi;have n5:=d1 b (gM _ fi);have n9:=d1 m (by rw[<-d6];exact List.getLast_mem _);obtain⟨F,hF⟩:∃F,tw a b r=F:=⟨_,rfl⟩;have h5:F=⟨a,b-a,match r with|[]=>b-a|t::_=>t-b,1⟩:=hF.symm;rw[hF] at hd;have h4:H6 F:=by rw[hd] at e8;exact MH (c:= { F with n:=(nD F m 4096 1:Nat) }) e8
 obtain⟨K,a0⟩:∃K,nD F m 4096 1=K:=⟨_,rfl⟩;rw[a0] at hd;rw[hd];obtain⟨u,z,rfl,b8,e1⟩:=a3 0 yJ;simp[bO,iv] at e1;obtain⟨b1,n6,a7,j6,d4⟩:=a3 1 yJ;injection a7 with a7;injection a7 with a7 S;subst a7;subst S;simp[bO,iv] at d4;obtain⟨m2,n7,S,aa,e7⟩:=a3.get (n-1) _ c9;injection S with S;injection S with S k6;subst S;subst k6;obtain⟨G,h6⟩:∃k,n-1=k:=⟨_,rfl⟩;rw[h6] at e7;have k4:(n:Int)-1=(G:Int):=O;have i1:(G:Int)<n:=O;have l5:n<=4096:=O
 have c7:=J (show(r=[]/\n=2)\/(∃t q,r=t::q/\2<n/\w.cell? (u,z+2)=some (.int .i64 t)/\0<=t/\t<=1099511627776) by
  match r,b9 with
  |[],b9=>exact .inl ⟨rfl,by simp at b9;omega⟩
  |t::q,b9=>obtain⟨b3,n8,e2,_,i0⟩:=a3 2 yJ;injection e2 with e2;injection e2 with a7 S;subst a7;subst S;simp[bO,iv] at i0;have:=d1 t (gM _ (gM _ fi));exact .inr ⟨t,q,rfl,by simp at b9;omega,i0,this.1,this.2⟩)
 obtain⟨a8,a5,b4,g7,g8,i3⟩:=fA h5 h4 a0 (show(w.alloc (.cells #[(0:Int),(0:Int),(0:Int),(0:Int)] 220)).cell? (u,z)=some (.int .i64 a) from(a2.o.cell (p:=⟨u,z,none⟩) b8).trans e1) (show(w.alloc (.cells #[(0:Int),(0:Int),(0:Int),(0:Int)] 220)).cell? (u,z+1)=some (.int .i64 b) from(a2.o.cell (p:=⟨u,z+1,none⟩) b8).trans d4) (λc=>me.start w c);have b0:=J e7;have d7:=J d4;have j1:(2:Int)<=n:=O;clear a3 E a4 hd e8 k7 d1 k8 b9 d6 c9 hF h5 h4 a0 e1 d4 e7 j6 aa j8 h6;go_in;go_wp21;refine cp (a6.o _ a2.o) ?_;have l0:=g7.o;have k5:=g8.o;have j4:u<(w.alloc (.cells #[(0:Int),(0:Int),(0:Int),(0:Int)] 220)).heap.size:=fj;go_upto_region 3 with fail;go_cut [3] (λs3 wx=>s3=.pointer (some (w.heap.size+1,0))/\me w wx ⟨a,b-a,0,1⟩)
 case first=>
  clear c7 a8 a5 b4 b0 a6;go_region
  all_goals
   go_wp2;go_meet;case rel=>exact⟨rfl,(i3.o ⟨a,b-a,0,1⟩).below ((bf _ _).drew)⟩
 obtain⟨rfl,R⟩:=hcut;have D:=J R;clear R l0 k5 j4 a6 g7 g8 i3 a2;obtain⟨c0,c1,c2,b7,_⟩:=qw.of (p:=⟨u,z+G,none⟩) (m:=m) D.o ((D.o.bel.cell (p:=⟨u,z+G,none⟩) (by first|exact b8|(have:=D.o.bel.size;omega))).trans b0.o);have h7:=D.o.kc.frozen 2;have y:=J (D.o.put 2 (b-a) ⟨a,b-a,b-a,1⟩ rfl);go_upto_region 5 with fail;clear c0 c1 c2 b7 h7 D;obtain⟨W1,h0⟩:∃W,wc.setCell ⟨w+1,2,none⟩ (b-a:Int)=W:=⟨_,rfl⟩;rw[h0] at y⊢;clear h0;go_upto_if 29 with fail;go_cut [] (λwx=>me w wx F)
 case first=>
  rcases c7.o with ⟨c8,e6⟩|⟨t,q,c8,e6,i4,n4,l2⟩;.have c6:F=⟨a,b-a,b-a,1⟩:=(by rw[a8.o,c8]);have j1:¬(2:Int)<n:=O;have d8:=J (show me w W1 F by rw[c6];exact y.o);clear c7 c8 e6 c6 a8 a5 b4 y;go_wp2;go_meet;case rel=>exact d8.o
  have c6:F=⟨a,b-a,t-b,1⟩:=(by rw[a8.o,c8]);have j1:(2:Int)<n:=O;have l6:u<W1:=(by have:=y.o.bel.size;omega);have m5:=(y.o.bel.cell (p:=⟨u,z+2,none⟩) b8).trans i4;have cb:=(y.o.bel.cell (p:=⟨u,z+1,none⟩) b8).trans d7.o;have h7:=y.o.kc.frozen 2;have c2:=y.o.kc.cell 2;simp[tp] at c2;have d8:=J (λ(q:Nat)=>(show me w ((W1.drewN q).setCell (w.heap.size+1,2) (t-b:Int)) F by rw[c6];exact me.put (W:=W1.drewN q) ⟨y.o.kc,y.o.kr,mN y.o.bel q⟩ 2 (t-b) ⟨a,b-a,t-b,1⟩ rfl));have l8:w+1≠u:=O;clear c7 c8 e6 c6 a8 a5 b4 y i4;go_wp2;go_region
  all_goals
   go_wp2;go_meet;case rel=>exact d8.o 1
 have d3:=J hcut;clear hcut y c7;have h3:F.n=1:=(by rw[a8.o]);have c4:=J h3;clear h3 a8;obtain⟨Q,M,I,f8⟩:=F;simp only at*;go_wp2;go_loopw [] (λwr=>∃k:Nat,1<=k/\k<=4096/\Hid (nD ⟨Q,M,I,f8⟩ m (4097-k) k=K)/\Hid (me w wr ⟨Q,M,I,(k:Int)⟩)) (λwr=>MQ (w.heap.size+1) wr);refine⟨1,aU,O,b4,J ?_⟩;have:=d3.o;rw[c4.o] at this;exact this;obtain⟨k,l9,m3,a0,R⟩:=hrel;have d2:=J (ZkJ R.o);have g5:wr.cell? (u,z+G)=some (.int .i64 m):=(R.o.bel.cell (p:=⟨u,z+G,none⟩) b8).trans b0.o;have g4:H6 ⟨Q,M,I,(k:Int)⟩:=a5.o;obtain⟨T,e4⟩:∃T,fL ⟨Q,M,I,f8⟩ k=T:=⟨_,rfl⟩;have b6:=J (λW=>LG g4 k O W);have f9:fL ⟨Q,M,I,(k:Int)⟩ k=T:=e4;rw[f9] at b6;obtain⟨B,h9⟩:∃B,decide (k<4096/\T<=m)=B:=⟨_,rfl⟩;have a1:=J h9;have b5:=J e4;have D:=R;have c5:=J g5;clear R g5 g4 e4 f9 h9;unfold CV at b6;simp only at b6;go_upto_region 7 with fail;go_cut [53] (λj2 wx=>j2=.bool B/\me w wx ⟨Q,M,I,(k:Int)⟩)
 case first=>
  clear d3 b0 d7 a0;by_cases d5:k<4096
  .have f6:(k:Int)<4096:=O;have j9:decide ((k:Int)<4096)=true:=(by simpa using f6);have m8:IntKind.i64.wrap ((n:Int)-1)=(G:Int):=(by rw[IntWalk.i64_in _ O,k4]);have n3:(0:Int)<=G:=O;have l3:IntKind.i64.wrap (G:Int)=(G:Int):=lO;have g6:qw w Q M I (k:Int) ⟨u,z+G,none⟩ m wr.drew:=qw.of (D.o.below ((bf _ _).drew)) c5.o;unfold qw at g6;have f4:Hid (decide (T<=m)=B):=J (by rw[<-a1.o];simp[d5]);clear a1 d2 b5 a5 c4 c5 D d5
   go_region_held3 (λW=>W.cell? (w.heap.size+1,0)=some (.int .i64 Q)/\W.cell? (w.heap.size+1,1)=some (.int .i64 M)/\W.cell? (w.heap.size+1,2)=some (.int .i64 I)/\W.cell? (w.heap.size+1,3)=some (.int .i64 (k:Int))/\W.cell? (u,z+G)=some (.int .i64 m)/\me w W ⟨Q,M,I,(k:Int)⟩) (first|exact g6|assumption|exact qw.below mi mi)
    (first|(go_at_call 192;with_reducible refine(b6.o _).mono ?_;rintro r w' ⟨rfl,aa⟩))
   all_goals
    go_wp2;go_meet;case rel=>exact⟨by rw[f4.o],qw.st mi⟩
  have f6:¬(k:Int)<4096:=O;obtain⟨c0,c1,c2,b7,m4,_⟩:=qw.of D.o c5.o;have f4:Hid (B=false):=J (by rw[<-a1.o];simp[d5]);clear a1 d2 b5 a5 c4 c5 d5;go_quiet (fail);go_wp2;go_meet;case rel=>exact⟨by rw[f4.o],D.o.below (by first|exact bf _ _|exact mN (bf _ _) _)⟩
 obtain⟨rfl,R⟩:=hcut;have g:=J R;clear R D c5;cases B with
 |true=>have aa:=a1.o;simp at aa;obtain⟨f5,g9⟩:=aa;have d9:=a0.o;rw[show 4097-k=(4096-k)+1 by omega,Zd6 _ _ _ _ ⟨f5,by rw[b5.o];exact g9⟩,show 4096-k=4097-(k+1) by omega] at d9;have i6:=J d9;have b7:=g.o.kc.cell 3;have m7:=g.o.kc.frozen 3;simp[tp] at b7;obtain⟨k',e5⟩:∃k',k+1=k':=⟨_,rfl⟩;rw[e5] at i6;have f6:(k:Int)+1=(k':Int):=O;have AN:1<=k':=O;have j5:k'<=4096:=O;have f7:=J (g.o.put 3 (k':Int) ⟨Q,M,I,(k':Int)⟩ rfl);have j3:=J (ZkJ f7.o);have k9:=J (And.intro f5 e5);clear a0 d9 a1 g9 e5 g b4 b0 d7 d3 b5 a5 c4 b6 f5;go_wp2;refine⟨⟨k',AN,j5,i6,f7⟩,?_⟩;rw[j3.o,d2.o];obtain⟨o0,o4⟩:=k9.o;exact dz
 |false=>
  have aa:=a1.o;have e3:K=k:=by have:=a0.o;rw[Zd7 _ _ _ _ (by rw[b5.o];simpa using aa)] at this;exact this.symm
  subst e3;obtain⟨l7,i2,i7,i8,i9,j0,h8⟩:=ZoU g.o;have i5:=J i2;have k0:=J h8;have r0:=g.o.kr.cell 0;have k1:=g.o.kr.cell 1;have k2:=g.o.kr.cell 2;have k3:=g.o.kr.cell 3;have m9:=g.o.kr.frozen 0;have n0:=g.o.kr.frozen 1;have n1:=g.o.kr.frozen 2;have n2:=g.o.kr.frozen 3;have c0:=g.o.kc.cell 0;have c1:=g.o.kc.cell 1;have c2:=g.o.kc.cell 2;have b7:=g.o.kc.cell 3;simp[tp,zo] at r0 k1 k2 k3 c0 c1 c2 b7;simp only at i5 i7 i8 i9 j0;clear i2 h8 aa a0 a1 g b4 b0 d7 d3 b5 a5 c4 b6 d2;go_wp2_with ((with_reducible show bodyPost _ _ _ _ _ _);rw[i5.o];refine bodyPost_ret (v:=.agg #[Q,M,I,.int .i64 (K:Int)]) (by simp[results,results143,go_sem,i7,i8,i9,j0];try rfl) rfl ?_;exact⟨rfl,k0.o⟩)
