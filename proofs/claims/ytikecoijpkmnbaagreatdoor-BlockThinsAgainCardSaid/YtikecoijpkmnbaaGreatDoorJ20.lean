import Derived.Test.YtikecoijpkmnbaaGreatDoorJ13
set_option linter.all false
set_option maxRecDepth 100000
set_option maxHeartbeats 0
section
variable{P Q:Prop}
theorem Cy(h:P:=by with_reducible rfl):P:=h
theorem EO(h:P:=by exact⟨0,cf _,rfl,J Zl,J (bf _ _)⟩):P:=h
theorem E'{P:Prop}(h:P:=by go_wp2;go_ret;exact⟨Z4 z.o.symm,g.o⟩):P:=h
theorem Q3(h:P:=by rw[g.o.cell,UV _ _ (by rw[Vab,k.o,iE];omega)]):P:=h
theorem PZ(h:P:=by rw[Vae h];simp only[Bool.not_eq_true] at h;rw[List.filter_cons,h];rfl):P:=h
theorem GJ(h:P:=by go_wp2;refine bodyPost_ret (by simp[results,results125,go_sem];try rfl) rfl ?_;exact⟨rfl,a2.o⟩):P:=h
theorem Of(h:P:=by
 go_wp2_with (
  at_builtin;refine Z5 (by with_reducible rfl) rfl _ _ _ rfl _ _ (by rfl) (by rfl) b7.o ?_);refine⟨⟨k+1,ab,by go_num,u,y⟩,?_⟩;simp[intOf]<;>omega):P:=h
end
namespace Go.Proofs.Y
open Tryz Wv Go.RowKit
variable{A:Wto}{W W' w w':aq}{f m n s:Int}{l:List Int}{p:Addr}{v:aI}
def jF (l:List Int):Array aI:=(bO l).toArray
theorem UV (l:List Int) (i:Nat) (h:i<l):(jF l)[i]? =some (.int .i64 l[i]):=by simp[jF,bO,iv,h]
theorem Lu (l:List Int) (i:Nat) (x:Int):(jF l).setIfInBounds i x=jF (l.set i x):=by apply pS.1;simp[jF,bO,iv,List.map_set]
theorem Qh (n:Nat):Array.replicate n (.int .i64 0:aI)=jF (List.replicate n 0):=by apply pS.1;simp[jF,bO,iv]
theorem Hx {g:Nat} (h:Bk w g 3 (jF l)):At w (some ⟨g,0,none⟩) (bO l):=by have:=h.at_;simpa [jF] using this
theorem Dx (l:List Int) (i:Nat) (h:i<l):(bO l)[i]? =some (.int .i64 l[i]):=by simp[bO,iv,h]
theorem JO (E:At w A (bO l)) (n cap:Nat) (F:n=l) (M:n<=9223372036854775807):
  Calls prog 80 #[(A,n,cap)] w λx w'=>x=.returned (Zi l)/\w=w':=by
 have Ha:=J E;have a0:=J F;obtain⟨V,B⟩:=ay (Zi l);have q:Hid (V=(tv (-1) l&&decide (l.length<=4096))):=J B.symm;rw[B];go_in;go_wp2;go_loopw [3,8] (λs3 t wr=>∃(i:Nat) (last:Int),i<=n/\s3=last/\t=i/\Hid (tv (-1) l=tv last (l.drop i))/\wr=w) (λ_ t _=>(n-intOf t).toNat);exact⟨0,-1,cf _,rfl,rfl,J rfl,rfl⟩;obtain⟨i,last,hi,rfl,rfl,p,rfl⟩:=hrel;by_cases ab:i<n
 .have y:i<l:=iF;have hd:l.drop i=l[i]::l.drop (i+1):=kw y;have z:=Dx l i y;obtain⟨x,G⟩:=ay l[i];rw[G] at hd z;obtain⟨b,o,D,hb,S⟩:=Ha.o.get i _ z;subst D;have k:=p.o;rw[hd] at k;have u:tv (-1) l=(decide (last<x)&&decide (x<=1099511627776)&&tv x (l.drop (i+1))):=k;have Q:(i:Int)<n:=O;by_cases h1:x<=last;.have g:Hid (V=false):=J (by rw[q.o,u,Vai (show ¬last<x by omega)];rfl);go_wp2;go_ret;exact⟨Z4 g.o.symm,rfl⟩
  by_cases R:1099511627776<x;.have g:Hid (V=false):=J (by rw[q.o,u,Vai (show ¬x<=1099511627776 by omega),Bool.and_false];rfl);go_wp2;go_ret;exact⟨Z4 g.o.symm,rfl⟩
  have g:Hid (tv (-1) l=tv x (l.drop (i+1))):=J (by rw[u,dd (show last<x by omega),dd (show x<=1099511627776 by omega)];rfl);go_wp2;refine⟨⟨i+1,x,ab,rfl,ci,g,by first|trivial|rfl⟩,?_⟩;simp[intOf]<;>omega
 have I:i=n:=O;have k:=p.o;rw[oc (by rw[<-a0.o];omega)] at k;have g:Hid (V=decide (n<=4096)):=J (by rw[q.o,k,a0.o];rfl);subst I;go_wp2;go_ret;exact⟨Z4 (by rw[g.o];exact fj),rfl⟩
theorem F6 (F:At w A (bO l)) (n cap:Nat) (q:n=l) (I:Zi l=true):
  Calls prog 123 #[(A,n,cap)] w λx w'=>∃v,x=.returned v/\IRes w' v (Za l)/\Below w w w':=by
 obtain⟨b6,Q,b7⟩:=Zd.1 I;have b8:n<=4096:=O;have a7:=Y5 (P:=prog) 103 3 _ _ underlying103 Y2 rfl (n:Int) n rfl O O w;rw[Qh] at a7;obtain⟨b0,a6,Ha,a0,b1⟩:=ii (Bk.new w 3 (jF (List.replicate n 0))) ((bf w w).alloc aU (.cells (jF (List.replicate n 0)) 3)) F q Q;have a3:Hid ((Za l)=n):=J (by unfold Za;rw[Y4,q]);clear F q I b6 Q b7;go_in;go_wp2;go_loopw [3,12] (λs3 t wr=>∃(i:Nat) (last:Int) (G:List Int),i<=n/\-1<=last/\last<=1099511627776/\s3=last/\t=i/\Hid (Za l=G++gp last (l.drop i))/\Hid (G=i)/\Hid (Bk wr w 3 (jF (G++List.replicate (n-i) 0)))/\Hid (Below w w wr)) (λ_ t _=>(n-intOf t).toNat);exact⟨0,-1,[],cf _,O,O,rfl,rfl,J rfl,J rfl,J (by simpa using b0.o),a6⟩;obtain⟨i,last,G,hi,c4,b9,rfl,rfl,E,k,g,hb⟩:=hrel;by_cases ab:i<n;.have z:i<l:=iF;have hd:l.drop i=l[i]::l.drop (i+1):=kw z;have B:=Dx l i z;have D:=b1.o l[i] (dt _);obtain⟨x,b3⟩:=ay l[i];rw[b3] at hd B D;obtain⟨b,o,b2,a8,a9⟩:=Ha.o.get i _ B;subst b2;have c6:=(hb.o.cell (p:=⟨b,o+i,none⟩) a8).trans a9;obtain⟨c7,a1⟩:=D;have u:=g.o.put i (x-last-1:Int);rw[Lu,show n-i=(n-(i+1))+1 by omega,pP,nj _ _ (by rw[k.o];exact aU),k.o,fh,List.set_cons_zero] at u;have a4:Hid (Bk (wr.setCell (w,i) (x-last-1:Int)) w 3 (jF ((G++[x-last-1])++List.replicate (n-(i+1)) 0))):=J (by rw[er];exact u);have b5:=J (hb.o.setCell (p:=⟨w,i,none⟩) aU (x-last-1:Int));have R:Hid (Za l=(G++[x-last-1])++gp x (l.drop (i+1))):=J (by rw[E.o,hd,er];rfl);have S:Hid ((G++[x-last-1]).length=i+1):=J (by rw[Vab,k.o];rfl);obtain⟨c9,c5⟩:∃y:Int,wr.cell? (w,i)=y:=⟨_,Q3⟩;have c8:=g.o.frozen i;have c3:(i:Int)<n:=O;go_wp2;refine⟨⟨i+1,x,_,ab,O,a1,rfl,ci,R,S,a4,b5⟩,?_⟩;simp[intOf]<;>omega
 have b4:i=n:=O;subst b4;have M:=E.o;rw[oc Fp] at M;have a2:Za l=G:=(by rw[M];exact fg _);have a5:Hid (IRes wr (.slice (some (w,0)) i i) (Za l)):=J ⟨_,i,by rw[a3.o],by have:=Hx g.o;rw[fh,List.replicate_zero,fg] at this;rw[a2];exact this⟩;go_wp2;go_ret;exact⟨_,rfl,a5.o,hb.o⟩
def It (w:aq) (r:Option (List Int)) (x:Ending) (w':aq):Prop:=∃v ok,x=.returned (.tuple #[v,.bool ok])/\ok=r.isSome/\(∀l,r=some l->IRes w' v l)/\Below w w w'
theorem Xg {r:Option (List Int)} (h:r=none) (hb:Below w w w'):It w r (.returned (.tuple #[v,false])) w':=⟨_,_,rfl,by rw[h];rfl,(λl g=>by rw[h] at g;cases g),hb⟩
theorem F7 (M:At w A (bO l)) (n cap:Nat) (Q:n=l.length) (c3:n<=1000000):
  Calls prog 141 #[(A,n,cap)] w λx w'=>It w (jnL l) x w':=by
 have a8:=Y5 (P:=prog) 103 3 _ _ underlying103 Y2 rfl (n:Int) n rfl O O w;rw[Qh] at a8;obtain⟨b1,a7,Ha,a0⟩:=dc (Bk.new w 3 (jF (List.replicate n 0))) ((bf w w).alloc aU (.cells (jF (List.replicate n 0)) 3)) M Q;obtain⟨R,z⟩:=ay (jnL l);have u:Hid (R=match jn (-1) l with|some r=>if r.length<=4096 then some r else none|none=>none):=J z.symm;rw[z];clear M Q z;go_in;go_wp2;go_loopw [4,13] (λb9 B wr=>∃(i:Nat) (last:Int) (G:List Int),i<=n/\-1<=last/\last<=1099511627776/\b9=last/\B=i/\Hid (jn (-1) l=(jn last (l.drop i)).map (G++·))/\Hid (G=i)/\Hid (Bk wr w 3 (jF (G++List.replicate (n-i) 0)))/\Hid (Below w w wr)) (λ_ B _=>(n-intOf B).toNat);exact⟨0,-1,[],cf _,O,O,rfl,rfl,J (by simp),J rfl,J (by simpa using b1.o),a7⟩;obtain⟨i,last,G,hi,c7,c4,rfl,rfl,I,k,g,hb⟩:=hrel;by_cases ab:i<n
 .have E:i<l.length:=iF;have hd:l.drop i=l[i]::l.drop (i+1):=kw E;have F:=Dx l i E;obtain⟨x,b6⟩:=ay l[i];rw[b6] at hd F;obtain⟨b,o,b4,a9,b0⟩:=Ha.o.get i _ F;subst b4;have c9:=(hb.o.cell (p:=⟨b,o+i,none⟩) a9).trans b0;have b5:jn last (x::l.drop (i+1))=if x<0\/1099511627776<x\/1099511627776<last+x+1 then none else(jn (last+x+1) (l.drop (i+1))).map ((last+x+1)::·):=rfl;have q:=I.o;rw[hd,b5] at q;have c5:(i:Int)<n:=O;by_cases h1:x<0;.have t:Hid (R=none):=J (by rw[u.o,q,Vag (.inl h1)];rfl);go_wp2;go_ret2;exact Xg t.o hb.o
  by_cases b2:1099511627776<x;.have t:Hid (R=none):=J (by rw[u.o,q,Vag (.inr (.inl b2))];rfl);go_wp2;go_ret2;exact Xg t.o hb.o
  have c6:last+(x+1)=last+x+1:=O;obtain⟨y,b7⟩:=ay (last+x+1);have D:=g.o.put i y;rw[Lu,show n-i=(n-(i+1))+1 by omega,pP,nj _ _ (by rw[k.o];exact aU),k.o,fh,List.set_cons_zero] at D;have a5:Hid (Bk (wr.setCell (w,i) y) w 3 (jF ((G++[y])++List.replicate (n-(i+1)) 0))):=J (by rw[er];exact D);have S:=J (hb.o.setCell (p:=⟨w,i,none⟩) aU y);have a2:Hid ((G++[y]).length=i+1):=J (by rw[Vab,k.o];rfl);obtain⟨d2,c8⟩:∃y:Int,wr.cell? (w,i)=y:=⟨_,Q3⟩;have d1:=g.o.frozen i;rw[b7] at q;by_cases b3:1099511627776<y;.have t:Hid (R=none):=J (by rw[u.o,q,Vag (.inr (.inr b3))];rfl);have a3:last+(x+1)=y:=O;go_wp2;go_ret2;exact Xg t.o S.o
  have a1:Hid (jn (-1) l=(jn y (l.drop (i+1))).map ((G++[y])++·)):=J (by rw[q,Vae O,Option.map_map];congr 1;funext r;simp);have a3:last+(x+1)=y:=O;go_wp2;refine⟨⟨i+1,y,_,ab,O,O,rfl,ci,a1,a2,a5,S⟩,?_⟩;simp[intOf]<;>omega
 have b8:i=n:=O;subst b8;have q:=I.o;rw[oc Fp] at q;have a4:jn (-1) l=some G:=(by rw[q];simp[jn]);have a6:Hid (IRes wr (.slice (some (w,0)) i i) G):=J ⟨_,i,by rw[k.o],by have:=Hx g.o;rw[fh,List.replicate_zero,fg] at this;exact this⟩;have t:Hid (R=if i<=4096 then some G else none):=J (by rw[u.o,a4];simp only;rw[k.o]);go_wp2;go_ret2;refine⟨_,_,rfl,?_,λl h=> ?_,hb.o⟩;rw[t.o];by_cases h:i<=4096;rw[Vag h];exact fj;rw[Vae h];exact fj;rw[t.o] at h;split at h;injection h with h;subst h;exact a6.o;cases h
def CV (c:Clk):aI:=.agg #[c.st,c.f,c.s,c.n]
def H6 (c:Clk):Prop:=0<=c.st/\c.st<=1099511627776/\1<=c.f/\c.f<=1099511627776/\1<=c.s/\c.s<=1099511627776
theorem MH {c:Clk} (h:sw c):H6 c:=⟨h.2.2.1,h.2.2.2.1,h.2.2.2.2.1,h.2.2.2.2.2.1,h.2.2.2.2.2.2.1,h.2.2.2.2.2.2.2⟩
theorem OO {k:Nat} (l:k<=3000) (h1:1<=f) (g:f<=1099511627776):0<=(k:Int)*f/\(k:Int)*f<=3298534883328000:=by
  constructor;exact Int.mul_nonneg (Int.natCast_nonneg k) O
  calc (k : Int) * f <= 3000 * f := Int.mul_le_mul_of_nonneg_right O O
    _<=3298534883328000:=O
theorem LG {c:Clk} (E:H6 c) (i:Nat) (hi:i<=5000) (w:aq):
  Calls prog 158 #[CV c,i] w (bM w (fL c i:Int)):=by obtain⟨h1,a1,y,z,B,D⟩:=E;obtain⟨st,f,s,n⟩:=c;simp only at*;have g:fL ⟨st,f,s,n⟩ i=st+((i+1)/2:Nat)*f+(i/2:Nat)*s:=rfl;obtain⟨k1,l⟩:=ay ((i+1)/2);obtain⟨k2,p⟩:=ay (i/2);rw[l,p] at g;obtain⟨F,G⟩:=OO (k:=k1) O y z;obtain⟨I,M⟩:=OO (k:=k2) O B D;have S:((i:Int)+1)/2=(k1:Int):=O;have a0:(i:Int)/2=(k2:Int):=O;obtain⟨Q,q⟩:=ay ((k1:Int)*f);obtain⟨R,t⟩:=ay ((k2:Int)*s);rw[q] at F G g;rw[t] at I M g;have u:=J g;clear l p g;unfold CV;simp only;go_in;go_wp2;go_ret;exact⟨by rw[u.o];rfl,(bf w w).alloc aU _⟩
theorem GY (n a b:Int) (w:aq):
  Calls prog 233 #[n,a,b] w λx w'=>x=.returned (.bool (decide (a<=n)&&decide (n<=b)))/\w=w':=by
 by_cases h1:a<=n
 .by_cases g:n<=b;.go_in;go_wp2;go_ret;exact⟨Z4 (by simp[h1,g]),rfl⟩
  go_in;go_wp2;go_ret;exact⟨Z4 (by rw[eq_comm,uJ];omega),rfl⟩
 go_in;go_wp2;go_ret;exact⟨Z4 (by rw[eq_comm,Ca,uJ,uJ];omega),rfl⟩
theorem ZgK (c:Clk) (w:aq):
  Calls prog 203 #[CV c] w (bM w (nU c)):=by
 obtain⟨b1,p⟩:=ay ((decide (1<=c.n)&&decide (c.n<=4096)));obtain⟨F,aa⟩:=ay ((decide (0<=c.st)&&decide (c.st<=1099511627776)));obtain⟨b3,k⟩:=ay ((decide (1<=c.f)&&decide (c.f<=1099511627776)));obtain⟨y,an⟩:=ay ((decide (1<=c.s)&&decide (c.s<=1099511627776)));obtain⟨q,u,D,G⟩:=dc (λW=>GY c.n 1 4096 W) (λW=>GY c.st 0 1099511627776 W) (λW=>GY c.f 1 1099511627776 W) (λW=>GY c.s 1 1099511627776 W);rw[p] at q;rw[aa] at u;rw[k] at D;rw[an] at G;have t:nU c=(b1&&F&&b3&&y&&decide (fL c (c.n-1).toNat<=1099511627776)):=by unfold nU;congr 1;rw[<-p,<-aa,<-k,<-an,lN,Vax];unfold sw;simp[and_assoc]
 have g:=J ((bf w w).alloc aU (.cells #[c.st,c.f,c.s,c.n] 207));by_cases l:b1=true/\F=true/\b3=true/\y=true
 .obtain⟨rfl,rfl,rfl,rfl⟩:=l;have E:sw c:=by simp at p aa k an;exact⟨p.1,p.2,aa.1,aa.2,k.1,k.2,an.1,an.2⟩
  have n1:=E.1;have n2:=E.2.1;have B:=J (λW=>LG (MH E) (c.n-1).toNat O W);obtain⟨m,M⟩:=ay ((c.n-1).toNat);have hmi:c.n-1=(m:Int):=O;rw[M] at B t;obtain⟨T,I⟩:=ay (fL c m);rw[I] at B t;have z:=J t;clear p aa k an t E M I;obtain⟨st,f,s,n⟩:=c;simp only at*;unfold CV at B⊢;simp only at B⊢;go_in;go_wp21;refine cp (q.o _) ?_;go_wp21;refine cp (u.o _) ?_;go_wp21;refine cp (D.o _) ?_;go_wp21;refine cp (G.o _) ?_;go_wp21;refine ij (B.o _) g λw1 Q=>?_;go_wp2;go_ret;exact⟨Z4 (by rw[z.o];simp),Q.o⟩
 have z:Hid (nU c=false):=J (by rw[t];cases b1<;>cases F<;>cases b3<;>cases y<;>simp at l<;>rfl);clear p aa k an t;obtain⟨st,f,s,n⟩:=c;simp only at*;unfold CV;simp only;cases b1;.clear l;go_in;go_wp21;refine cp (q.o _) ?_;exact E'
 cases F;.clear l;go_in;go_wp21;refine cp (q.o _) ?_;go_wp21;refine cp (u.o _) ?_;exact E'
 cases b3;.clear l;go_in;go_wp21;refine cp (q.o _) ?_;go_wp21;refine cp (u.o _) ?_;go_wp21;refine cp (D.o _) ?_;exact E'
 obtain rfl:y=false:=(by cases y<;>simp at l⊢);clear l;go_in;go_wp21;refine cp (q.o _) ?_;go_wp21;refine cp (u.o _) ?_;go_wp21;refine cp (D.o _) ?_;go_wp21;refine cp (G.o _) ?_;exact E'
def wh (w:aq) (c:Clk) (x:Ending) (w':aq):Prop:=if nU c=true then(∃g,x=.returned (.tuple #[.slice (some ⟨g,0,none⟩) c.n.toNat c.n.toNat,(0:Int)])/\Bk w' g 3 (jF (ZP c))/\w.heap.size<=g/\Below w w w') else(x=.returned (.tuple #[.slice none 0 0,(1:Int)])/\Below w w w')
theorem Sl (c:Clk) (w:aq):
  Calls prog 159 #[CV c] w λx w'=>wh w c x w':=by
 have k:=J (λW=>ZgK c W);cases t:nU c;.rw[t] at k;have G:Hid (∀x w',wh w c x w'↔(x=.returned (.tuple #[.slice none 0 0,(1:Int)])/\Below w w w')):=J (λx w'=>by unfold wh;rw[Vae (by rw[t];simp)]);have z:=J ((bf w w).alloc aU (.cells #[c.st,c.f,c.s,c.n] 207));clear t;obtain⟨st,f,s,n⟩:=c;unfold CV at k⊢;simp only at k z⊢;go_in;go_wp21;refine ij (k.o _) z λw1 c5=>?_;go_wp2;go_ret2;exact(G.o _ _).2 ⟨rfl,c5.o⟩
 rw[t] at k;have G:Hid (∀x w',wh w c x w'↔(∃g,x=.returned (.tuple #[.slice (some ⟨g,0,none⟩) c.n.toNat c.n.toNat,(0:Int)])/\Bk w' g 3 (jF (ZP c))/\w.heap.size<=g/\Below w w w')):=J (λx w'=>by unfold wh;rw[Vag t]);obtain⟨I,_⟩:=YH.1 t;have n1:=I.1;have n2:=I.2.1;have a1:=J (λ(i:Nat) (hi:i<=5000) W=>LG (MH I) i hi W);have D:=Ru c;have R:∀i (h:i<c.n.toNat),ZP c=(ZP c).take i++fL c i::(ZP c).drop (i+1):=λi h=>by have h1:i<(ZP c).length:=(by rw[D];exact h);have c9:(ZP c)[i]=fL c i:=(by simp[ZP]);rw[<-c9,<-kw h1,vH]
 obtain⟨N,b3⟩:=ay c.n.toNat;have a8:c.n=(N:Int):=O;rw[b3] at G D R;obtain⟨l,a6⟩:=ay (ZP c);rw[a6] at G D R;obtain⟨a9,a4,z,a2⟩:=dc R D ((bf w w).alloc aU (.cells #[c.st,c.f,c.s,c.n] 207)) (Bk.new w 207 #[c.st,c.f,c.s,c.n]);obtain⟨b9,b6⟩:=ay (fL c);rw[b6] at a1 a9;clear t I D R a6 b6 b3;obtain⟨st,f,s,n⟩:=c;simp only at a8;subst a8;unfold CV at k a1⊢;simp only at*;have d6:N<=4096:=O;have d5:1<=N:=O;clear n1 n2;go_in;go_wp21;refine aP (k.o _) λw1 hb=>?_;have M:=J (z.o.trans (hb.mono z.o.size));have ff:=J (a2.o.below hb a2.o.lt);clear hb z a2 k;have b1:=Y5 (P:=prog) 103 3 _ _ underlying103 Y2 rfl (N:Int) N rfl O O w1;rw[Qh] at b1;obtain⟨c8,c6,b8,b2⟩:=dc (Bk.new w1 3 (jF (List.replicate N 0))) (M.o.alloc M.o.size (.cells (jF (List.replicate N 0)) 3)) (ff.o.alloc (.cells (jF (List.replicate N 0)) 3)) M.o.size;have E:=ff.o.cell 0;have k1:=ff.o.cell 1;have k2:=ff.o.cell 2;have k3:=ff.o.cell 3;have F:=ff.o.lt;have d1:=J F;simp at E k1 k2 k3;go_wp2;clear E k1 k2 k3 F b1 ff M;go_loopw [14] (λa3 wr=>∃i:Nat,i<=N/\a3=(i:Int)/\Hid (Bk wr w1.heap.size 3 (jF (l.take i++List.replicate (N-i) 0)))/\Hid (Bk wr w 207 #[st,f,s,N])/\Hid (Below w w wr)) (λa3 _=>(N-intOf a3).toNat);exact⟨0,cf _,rfl,J (by simpa using c8.o),b8,c6⟩;obtain⟨i,hi,rfl,B,u,hb⟩:=hrel;by_cases ab:i<N
 .have d7:(i:Int)<N:=O;have a5:=J (a1.o i O);obtain⟨T,b4⟩:=ay (b9 i);have S:=a9.o i ab;rw[b4] at a5 S
  have b0:l.take (i+1)=l.take i++[T]:=by
   have q:(l.take i).length=i:=(by rw[ek,a4.o];omega);conv=>lhs;rw[S]
   rw[List.take_append,q,show i+1-i=1 by omega,d' (by rw[q];omega)];rfl
  have E:=u.o.cell 0;have k1:=u.o.cell 1;have k2:=u.o.cell 2;have k3:=u.o.cell 3;simp at E k1 k2 k3;have c4:=J b0;clear S b4 b0;go_wp21;refine aP (a5.o _) λb7 aa=>?_;have Q:=B.o.below aa B.o.lt;have a7:=u.o.below aa u.o.lt;have b5:=hb.o.trans (aa.mono hb.o.size);have a0:=Q.put i T;have q:(l.take i).length=i:=(by rw[ek,a4.o];omega);rw[Lu,show N-i=(N-(i+1))+1 by omega,pP,nj _ _ (by rw[q];exact aU),q,fh,List.set_cons_zero] at a0;have c3:Hid (Bk (b7.setCell (w1.heap.size,i) T) w1.heap.size 3 (jF (l.take (i+1)++List.replicate (N-(i+1)) 0))):=J (by rw[c4.o,er];exact a0);have d3:=J (b5.setCell (p:=⟨w1.heap.size,i,none⟩) b2.o T);have d4:=J (a7.off (p:=⟨w1.heap.size,i,none⟩) (by show w.heap.size≠w1.heap.size;have:=d1.o;omega) T);obtain⟨e1,d8⟩:∃y:Int,b7.cell? (w1.heap.size,i)=y:=⟨_,by rw[Q.cell,UV _ _ (by rw[Vab,q,iE];omega)]⟩;have d9:=Q.frozen i;clear E k1 k2 k3 a0 Q a7 b5 aa B u hb q;go_wp2;refine⟨⟨i+1,ab,ci,c3,d4,d3⟩,?_⟩;simp[intOf]<;>omega
 have d2:i=N:=O;subst d2;have c7:Hid (Bk wr w1.heap.size 3 (jF l)):=J (by have:=B.o;rw[fh,List.replicate_zero,fg,d' (by rw[a4.o];exact aU)] at this;exact this);clear B;go_wp2;go_ret2;exact(G.o _ _).2 ⟨_,rfl,c7.o,b2.o,hb.o⟩
theorem Z0A (t:At w A (bO l)) (n cap:Nat) (D:n=l) (G:n<=1000000) (E:l.Pairwise (· <·)) (x:Int):
  cK 160 #[(A,n,cap),x] w λe w'=>(∃p:Int,e=.returned (.tuple #[p,l.contains x]))/\∃q,w'=w.drewN q:=by by_cases h0:n=0;subst h0;have B:l=[]:=ia D.symm;subst B;exact(Tryz.slices_BinarySearch_int_empty A cap x w).mono λe w' ⟨h1,g⟩=>⟨⟨0,h1⟩,0,g⟩;obtain⟨b,o,rfl,hb,_⟩:=t 0 (by simp[bO];omega);refine(Tryz.slices_BinarySearch_int b o n cap l x w O O (λj u=> ?_) ?_).mono λe w' ⟨h1,g⟩=>⟨⟨_,by rw[d' O] at h1;exact h1⟩,g⟩;obtain⟨I,Q,k,M,z⟩:=t j (by simpa [bO] using u);injection k with k;injection k with F y;subst F;subst y;rw[z];simp[bO,iv,u];rw[d' O];exact E.imp (λh=>Int.le_of_lt h)
def Zqp (w:aq) (r:Option (List Int×List Int)) (x:Ending) (w':aq):Prop:=match r with
 |some (m,f)=>∃g k,x=.returned (.tuple #[g,k,(0:Int)])/\IRes w' g m/\IRes w' k f/\Below w w w'
 |none=>x=.returned (.tuple #[.slice none 0 0,.slice none 0 0,(1:Int)])/\Below w w w'
def Z6X (c:Clk) (l:List Int) (i:Nat):List Int:=((List.range i).filter (λi=> !l.contains (fL c i))).map Int.ofNat
theorem Zby (c:Clk) (l:List Int) (i:Nat):Z6X c l (i+1)=if l.contains (fL c i)=true then Z6X c l i else Z6X c l i++[(i:Int)]:=by unfold Z6X;rw[vK,List.filter_append,jy];by_cases h:l.contains (fL c i)=true;rw[Vag h,List.filter_cons,h];simp;exact PZ
theorem ZeB (c:Clk) (l:List Int) (i:Nat):(Z6X c l i).length<=i:=by unfold Z6X;rw[Vah];have h1:=List.length_filter_le (λi=> !l.contains (fL c i)) (List.range i);rw[rm] at h1;exact h1
theorem ZiR {base n:Nat} (h:w.ownsRow base 3 1 v n (bO l)) (k:n=l):IRes w v l:=by obtain⟨A,cap,p,g⟩:=Zh h;exact⟨A,cap,by rw[p,k],g⟩
theorem IRes.bel (h:IRes w v l) (hb:Below w w w'):IRes w' v l:=by obtain⟨A,cap,k,g⟩:=h;exact⟨A,cap,k,g.below hb⟩
theorem Zka (c:Clk) (b4:At w A (bO l)) (n cap:Nat) (b5:n=l) (g4:n<=9223372036854775807):
  Calls prog 126 #[CV c,(A,n,cap)] w λx w'=>Zqp w (excT c l) x w':=by
 obtain⟨b0,Ha,a0,a3⟩:=dc (λW=>Sl c W) b4 b5 ((bf w w).alloc aU (.cells #[c.st,c.f,c.s,c.n] 207));have z:excT c l=if nU c=true/\Zi l=true then some (Qy c l,qg c l) else none:=rfl;cases I:nU c;.rw[I,Vae (by simp)] at z;rw[z];have G:Hid (∀W,Calls prog 159 #[CV c] W (bM W (.tuple #[.slice none 0 0,(1:Int)]))):=J (λW=>(b0.o W).mono λx w' h=>by unfold wh at h;rw[Vae (by rw[I];simp)] at h;exact h);obtain⟨st,f,s,cn⟩:=c;unfold CV at G⊢;simp only at*;go_in;go_wp21;refine aP (G.o _) λw1 hb=>?_;have E:=J (a3.o.trans (hb.mono a3.o.size));go_wp2;go_ret3;exact⟨rfl,E.o⟩
 obtain⟨a6,_⟩:=YH.1 I;have G:Hid (∀W,Calls prog 159 #[CV c] W λx w'=>(∃g,x=.returned (.tuple #[.slice (some ⟨g,0,none⟩) c.n.toNat c.n.toNat,(0:Int)])/\Bk w' g 3 (jF (ZP c))/\W.heap.size<=g/\Below W.heap.size W w')):=J (λW=>(b0.o W).mono λx w' h=>by unfold wh at h;rw[Vag I] at h;exact h);have n1:=a6.1;have n2:=a6.2.1;have a7:=Ru c;have b2:=Rw a6;have a5:∀i,i<c.n.toNat->(ZP c)[i]? =some (fL c i):=λi h=>(by simp[ZP,h]);have b9:Qy c l=Z6X c l c.n.toNat:=rfl;have b3:=J (λW (h:Below w w W)=>JO (b4.below h) n cap b5 g4);cases R:Zi l;.rw[I,R,Vae (by simp)] at z;rw[z];rw[R] at b3;clear z I b0 b4 b5 a6 R a7 b2 a5 b9;obtain⟨st,f,s,cn⟩:=c;unfold CV at G⊢;simp only at*;go_in;go_wp21;refine(G.o _).mono ?_;rintro x w1 ⟨g,rfl,e5,d1,hb⟩;have E:=J (a3.o.trans (hb.mono a3.o.size));go_wp21;refine cp (b3.o _ E.o) ?_;go_wp2;go_ret3;exact⟨rfl,E.o⟩
 rw[I,R,Vag ⟨rfl,rfl⟩,b9] at z;rw[z];rw[R] at b3;obtain⟨f3,i5,i6⟩:=Zd.1 R;have j0:n<=4096:=O;have D:=λi=>Zby c l i;have a9:=λi=>ZeB c l i;have GB:qg c l=l.filter (λt=> !(ZP c).contains t):=rfl;rw[GB];obtain⟨N,e3⟩:=ay c.n.toNat;rw[e3] at a7 a5 G⊢;obtain⟨B,d7⟩:=ay (ZP c);rw[d7] at a7 b2 a5 G⊢;obtain⟨S,c4⟩:=ay (Z6X c l);rw[c4] at D a9⊢;obtain⟨g1,f2⟩:=ay (fL c);rw[f2] at D a5;have e8:S 0=[]:=(by rw[<-c4];rfl);obtain⟨f6,i8,g3,i7,g0,f7⟩:=fA e8 D a9 a7 b2 a5;have f5:=J f3;have i9:N<=4096:=O;clear z I b0 b4 b5 a6 R a7 b2 a5 b9 f3 i5 i6 D a9 GB e3 d7 c4 f2 e8 n1 n2;obtain⟨st,f,s,cn⟩:=c;unfold CV at G⊢;simp only at*;go_in;go_wp21;refine(G.o _).mono ?_;rintro x w1 ⟨g,rfl,e5,d1,hb⟩;have E:=J (a3.o.trans (hb.mono a3.o.size));have h6:=J (Hx e5);go_wp21;refine cp (b3.o _ E.o) ?_;have b6:=J (Ha.o.below E.o);go_upto_region 5 with fail;go_wp2;go_loopw [9,33] (λi2 c5 wr=>∃i:Nat,i<=N/\c5=(i:Int)/\Hid (wr.ownsRow w1.heap.size 3 1 i2 (S i) (bO (S i)))/\Hid (Below w1.heap.size w1 wr)) (λ_ c5 _=>(N-intOf c5).toNat);exact⟨0,cf _,rfl,J (by rw[f6.o];exact Zl),J (bf _ _)⟩;obtain⟨i,hi,rfl,M,a4⟩:=hrel;have e1:=h6.o.below a4.o;have d8:=b6.o.below a4.o;by_cases ab:i<N
 .have e9:=f7.o i ab;obtain⟨T,c9⟩:=ay (g1 i);have D:=i8.o i;rw[c9] at e9 D;have h9:(bO B)[i]? =T:=(by unfold bO;rw[jX,e9];rfl);obtain⟨g5,i0,a8,h2,e4⟩:=e1.get i _ h9;injection a8 with a8;injection a8 with h8 h0;subst h8;subst h0;rw[jK] at e4;have F:=J (Z0A d8 n cap a0.o O f5.o T);have g7:(i:Int)<N:=O;have a9:=g3.o i;have j1:=J a9;cases a2:l.contains T with
  |true=>rw[a2] at F D;rw[Vag rfl] at D;have a1:=J D;go_wp21;refine(F.o).mono ?_;rintro x d4 ⟨⟨p,rfl⟩,q,rfl⟩;go_wp2;refine⟨⟨i+1,ab,ci,J (by rw[a1.o];exact M.o),J (mN a4.o q)⟩,?_⟩;simp[intOf]<;>omega
  |false=>
   rw[a2] at F D;rw[Vae (by simp)] at D;have a1:=J D;go_wp21;refine(F.o).mono ?_;rintro x d4 ⟨⟨p,rfl⟩,q,rfl⟩;obtain⟨d3,d5,c7,c8,c6,_⟩:=ZU (P:=prog) 103 3 _ _ underlying103 Y2 rfl (w:=wr.drewN q) M.o (mN a4.o q) a4.o.size (i:Int) rfl fU O;have b7:=J c7;have u:Hid (d5.ownsRow w1.heap.size 3 1 d3 (S (i+1)) (bO (S (i+1)))):=J (by rw[a1.o,Vab,AP];exact c8);have y:=J c6
   go_wp2_with (
    at_builtin;refine Z5 Cy rfl _ _ _ rfl _ _ (by rfl) (by rfl) b7.o ?_);refine⟨⟨i+1,ab,ci,u,y⟩,?_⟩;simp[intOf]<;>omega
 have i1:i=N:=O;subst i1;obtain⟨b1,rfl⟩:∃W,W=wr:=⟨_,rfl⟩;obtain⟨d6,e7,i3,h4⟩:=Zh M.o;subst i3;obtain⟨h5,f9,h3,e6,b8⟩:=ii h4 d8 e1 (E.o.trans (a4.o.mono E.o.size)) (show l.filter (λt=> !B.contains t)=(l.take n).filter (λt=> !B.contains t) by rw[d' (by rw[a0.o];exact aU)]);go_wp2;go_loopw [10,53] (λh7 c3 wx=>∃k:Nat,k<=n/\c3=k/\Hid (wx.ownsRow b1 3 1 h7 ((l.take k).filter (λt=> !B.contains t)) (bO ((l.take k).filter (λt=> !B.contains t))))/\Hid (Below b1 b1 wx)) (λ_ c3 _=>(n-intOf c3).toNat);exact EO;obtain⟨k,j3,rfl,M,Q⟩:=hrel;have g9:=h3.o.below Q.o;have g2:=f9.o.below Q.o;by_cases ab:k<n
 .have d9:k<l:=iF;have e2:=Dx l k d9;have d2:l.take (k+1)=l.take k++[l[k]]:=dK d9;obtain⟨T,c9⟩:=ay l[k];rw[c9] at e2 d2;obtain⟨g5,i0,a8,h2,e4⟩:=g2.get k _ e2;subst a8;have F:=J (Z0A g9 i i i7.o.symm O g0.o T);have g7:(k:Int)<n:=O;have f8:Hid (((l.take k).filter (λt=> !B.contains t)).length<=4096):=J (by have h1:=List.length_filter_le (λt=> !B.contains t) (l.take k);rw[ek] at h1;omega)
  cases a2:B.contains T with
  |true=>rw[a2] at F;have a1:Hid ((l.take (k+1)).filter (λt=> !B.contains t)=(l.take k).filter (λt=> !B.contains t)):=J (by rw[d2,List.filter_append,List.filter_cons,a2];simp);go_wp21;refine(F.o).mono ?_;rintro x d4 ⟨⟨p,rfl⟩,q,rfl⟩;go_wp2;refine⟨⟨k+1,ab,ci,J (by rw[a1.o];exact M.o),J (mN Q.o q)⟩,?_⟩;simp[intOf]<;>omega
  |false=>rw[a2] at F;have a1:Hid ((l.take (k+1)).filter (λt=> !B.contains t)=(l.take k).filter (λt=> !B.contains t)++[T]):=J (by rw[d2,List.filter_append,List.filter_cons,a2];rfl);go_wp21;refine(F.o).mono ?_;rintro x d4 ⟨⟨p,rfl⟩,q,rfl⟩;have j2:=f8.o;obtain⟨d3,d5,c7,c8,c6,_⟩:=ZU (P:=prog) 103 3 _ _ underlying103 Y2 rfl (w:=wr.drewN q) M.o (mN Q.o q) Q.o.size T rfl fU O;have b7:=J c7;have u:Hid (d5.ownsRow b1 3 1 d3 ((l.take (k+1)).filter (λt=> !B.contains t)) (bO ((l.take (k+1)).filter (λt=> !B.contains t)))):=J (by rw[a1.o,Vab,AP];exact c8);have y:=J c6;exact Of
 have g6:k=n:=O;subst g6;have g8:=J (ZiR M.o rfl);have i4:Hid (IRes wr (.slice d6 (S i) e7) (S i)):=J ⟨d6,e7,rfl,h5.o.below Q.o⟩;have f4:=J (e6.o.trans (Q.o.mono e6.o.size));go_wp2;go_ret3;exact⟨_,_,rfl,i4.o,by rw[b8.o];exact g8.o,f4.o⟩
def tp (c:Clk):Array aI:= #[.int .i64 c.st,.int .i64 c.f,.int .i64 c.s,.int .i64 c.n]
structure me (w wx:World) (c:Clk):Prop where
 kc:Bk wx (w.heap.size+1) 207 (tp c)
 kr:Bk wx w.heap.size 207 (tp zo)
 bel:Below w.heap.size w wx
theorem me.below {c:Clk} (h:me w W c) (hb:Below W W W'):me w W' c:=⟨h.kc.below hb h.kc.lt,h.kr.below hb h.kr.lt,h.bel.trans (hb.mono h.bel.size)⟩
theorem me.put {c:Clk} (h:me w W c) (i:Nat) (x:Int) (g:Clk) (k:tp g=(tp c).setIfInBounds i x):me w (W.setCell (w.heap.size+1,i) x) g:=
 ⟨by rw[k];exact h.kc.put i _,h.kr.off (p:=⟨w+1,i,none⟩) (by show w.heap.size≠w+1;omega) _,h.bel.setCell (p:=⟨w+1,i,none⟩) (by show w.heap.size<=w+1;omega) _⟩
theorem me.start (w:aq) (c:Clk):me w ((w.alloc (.cells (tp zo) 207)).alloc (.cells (tp c) 207)) c where
 kc:=by have:=Bk.new (w.alloc (.cells (tp zo) 207)) 207 (tp c);rw[World.size_alloc] at this;exact this
 kr:=(Bk.new w _ _).alloc _
 bel:=((bf w w).alloc aU _).alloc (by simp) _
def qw (w:aq) (st f s n:Int) (p:Addr) (m:Int) (W:aq):Prop:=
 W.cell? ⟨w+1,0,none⟩=st/\W.cell? ⟨w+1,1,none⟩=f/\W.cell? ⟨w+1,2,none⟩=s/\W.cell? ⟨w+1,3,none⟩=n/\W.cell? p=m/\me w W ⟨st,f,s,n⟩
theorem qw.of {st:Int} (h:me w W ⟨st,f,s,n⟩) (g:W.cell? p=m):qw w st f s n p m W:=⟨h.kc.cell 0,h.kc.cell 1,h.kc.cell 2,h.kc.cell 3,g,h⟩
theorem qw.st {st:Int} (h:qw w st f s n p m W):me w W ⟨st,f,s,n⟩:=h.2.2.2.2.2
theorem qw.below {st:Int} (h:qw w st f s n p m W) (hb:Below W W W'):qw w st f s n p m W':=qw.of (h.st.below hb) ((hb.cell (World.block_lt_of_cell? W p h.2.2.2.2.1)).trans h.2.2.2.2.1)
def MQ (r:Nat) (w:aq):Nat:=match w.cell? ⟨r,3,none⟩ with
 |some (.int _ n)=>(4096-n).toNat
 |_=>0
theorem NZ {c:Clk} (h:me w W c):MQ (w.heap.size+1) W=(4096-c.n).toNat:=by have:=h.kc.cell 3;simp[tp] at this;unfold MQ;rw[this]
theorem ZoU {c:Clk} (h:me w W c):
  ∃g,((((W.setCell (w,0) c.st).setCell (w,1) c.f).setCell (w,2) c.s).setCell (w,3) c.n)=g/\g.cell? (w,0)=some (.int .i64 c.st)/\g.cell? (w,1)=some (.int .i64 c.f)/\g.cell? (w,2)=some (.int .i64 c.s)/\g.cell? (w,3)=some (.int .i64 c.n)/\Below w w g:=by have k:=(((h.kr.put 0 c.st).put 1 c.f).put 2 c.s).put 3 c.n;refine⟨_,rfl,k.cell 0,k.cell 1,k.cell 2,k.cell 3,?_⟩;exact(((h.bel.setCell (p:=⟨w,0,none⟩) aU _).setCell (p:=⟨w,1,none⟩) aU _).setCell (p:=⟨w,2,none⟩) aU _).setCell (p:=⟨w,3,none⟩) aU _
theorem Zdp {a b:Int} {r:List Int} (h:Zi (a::b::r)=true):Zt (a::b::r)= { tw a b r with n:=(nD (tw a b r) ((a::b::r).getLast (by simp)) 4096 1:Nat) } :=by show(if _ then _ else _)=_;rw[Vag h]
theorem S' (h:l.length<2\/Zi l=false):Zt l=zo:=by
 match l,h with
 |[],_=>rfl
 |[_],_=>rfl
 |a::b::r,h=>show(if _ then _ else _)=_;rw[Vae];rcases h with h|h;simp at h;omega;rw[h];simp
theorem Z98 (a3:At w A (bO l)) (n cap:Nat) (E:n=l) (j5:n<=9223372036854775807):
  Calls prog 125 #[(A,n,cap)] w (bM w (CV (Zt l))):=by
 have a6:=J (λW (h:Below w w W)=>JO (a3.below h) n cap E j5);have a2:=J ((bf w w).alloc aU (.cells #[(0:Int),(0:Int),(0:Int),(0:Int)] 207));by_cases j7:n<2;.rw[S' (.inl O)];have l0:(n:Int)<2:=O;clear a3 E a6;go_in;exact GJ
 have l0:¬(n:Int)<2:=O;cases a4:Zi l;.rw[S' (.inr a4)];rw[a4] at a6;clear a3 E a4;go_in;go_wp21;refine cp (a6.o _ a2.o) ?_;exact GJ
 rw[a4] at a6
 obtain⟨a,b,r,rfl⟩:∃a b r,l=a::b::r:=by
  match l,E with
  |[],E=>simp at E;omega
  |[_],E=>simp at E;omega
  |a::b::r,_=>exact⟨a,b,r,rfl⟩
 have hd:=Zdp a4;have e7:=(YH.1 (Qf a4 (by simp))).1;obtain⟨k6,c9,k7⟩:=Zd.1 a4;have b8:r.length=n-2:=(by rw[E];simp);obtain⟨m,d5⟩:∃m,(a::b::r).getLast (by simp)=m:=⟨_,rfl⟩;have c8:(bO (a::b::r))[n-1]? =some (.int .i64 m):=by have h1:n-1<(a::b::r).length:=(by rw[<-E];omega);rw[Dx _ _ h1,<-d5,List.getLast_eq_getElem];congr 3;rw[E]
 rw[d5] at hd;have m5:=c9 a fi;have n4:=c9 b (gM _ fi);have n8:=c9 m (by rw[<-d5];exact List.getLast_mem _);obtain⟨F,hF⟩:∃F,tw a b r=F:=⟨_,rfl⟩;have h4:F=⟨a,b-a,match r with|[]=>b-a|t::_=>t-b,1⟩:=hF.symm;rw[hF] at hd;have h3:H6 F:=by rw[hd] at e7;exact MH (c:= { F with n:=(nD F m 4096 1:Nat) }) e7
 obtain⟨K,a0⟩:∃K,nD F m 4096 1=K:=⟨_,rfl⟩;rw[a0] at hd;rw[hd];obtain⟨u,z,rfl,b7,d9⟩:=a3 0 yJ;simp[bO,iv] at d9;obtain⟨b1,n5,a7,j6,d3⟩:=a3 1 yJ;injection a7 with a7;injection a7 with a7 S;subst a7;subst S;simp[bO,iv] at d3;obtain⟨l9,n6,S,aa,e6⟩:=a3.get (n-1) _ c8;injection S with S;injection S with S k5;subst S;subst k5;obtain⟨G,h5⟩:∃k,n-1=k:=⟨_,rfl⟩;rw[h5] at e6;have k3:(n:Int)-1=(G:Int):=O;have i0:(G:Int)<n:=O;have l3:n<=4096:=O
 have c6:=J (show(r=[]/\n=2)\/(∃t q,r=t::q/\2<n/\w.cell? (u,z+2)=some (.int .i64 t)/\0<=t/\t<=1099511627776) by
  match r,b8 with
  |[],b8=>exact .inl ⟨rfl,by simp at b8;omega⟩
  |t::q,b8=>obtain⟨b3,n7,e1,_,h9⟩:=a3 2 yJ;injection e1 with e1;injection e1 with a7 S;subst a7;subst S;simp[bO,iv] at h9;have:=c9 t (gM _ (gM _ fi));exact .inr ⟨t,q,rfl,by simp at b8;omega,h9,this.1,this.2⟩)
 obtain⟨a8,a5,b0,g6,g7,i2⟩:=fA h4 h3 a0 (show(w.alloc (.cells #[(0:Int),(0:Int),(0:Int),(0:Int)] 207)).cell? (u,z)=some (.int .i64 a) from(a2.o.cell (p:=⟨u,z,none⟩) b7).trans d9) (show(w.alloc (.cells #[(0:Int),(0:Int),(0:Int),(0:Int)] 207)).cell? (u,z+1)=some (.int .i64 b) from(a2.o.cell (p:=⟨u,z+1,none⟩) b7).trans d3) (λc=>me.start w c);have a9:=J e6;have d6:=J d3;have j0:(2:Int)<=n:=O;clear a3 E a4 hd e7 k6 c9 k7 b8 d5 c8 hF h4 h3 a0 d9 d3 e6 j6 aa j7 h5;go_in;go_wp21;refine cp (a6.o _ a2.o) ?_;have k9:=g6.o;have k4:=g7.o;have j3:u<(w.alloc (.cells #[(0:Int),(0:Int),(0:Int),(0:Int)] 207)).heap.size:=fj;go_upto_region 3 with fail;go_cut [3] (λs3 wx=>s3=.pointer (some (w.heap.size+1,0))/\me w wx ⟨a,b-a,0,1⟩)
 case first=>
  clear c6 a8 a5 b0 a9 a6;go_region
  all_goals
   go_wp2;go_meet;case rel=>exact⟨rfl,(i2.o ⟨a,b-a,0,1⟩).below ((bf _ _).drew)⟩
 obtain⟨rfl,R⟩:=hcut;have D:=J R;clear R k9 k4 j3 a6 g6 g7 i2 a2;obtain⟨c0,c1,c2,b6,_⟩:=qw.of (p:=⟨u,z+G,none⟩) (m:=m) D.o ((D.o.bel.cell (p:=⟨u,z+G,none⟩) (by first|exact b7|(have:=D.o.bel.size;omega))).trans a9.o);have h6:=D.o.kc.frozen 2;have y:=J (D.o.put 2 (b-a) ⟨a,b-a,b-a,1⟩ rfl);go_upto_region 5 with fail;clear c0 c1 c2 b6 h6 D;obtain⟨W1,g9⟩:∃W,wc.setCell ⟨w+1,2,none⟩ (b-a:Int)=W:=⟨_,rfl⟩;rw[g9] at y⊢;clear g9;go_upto_if 29 with fail;go_cut [] (λwx=>me w wx F)
 case first=>
  rcases c6.o with ⟨c7,e5⟩|⟨t,q,c7,e5,i3,n3,l1⟩;.have c5:F=⟨a,b-a,b-a,1⟩:=(by rw[a8.o,c7]);have j0:¬(2:Int)<n:=O;have d7:=J (show me w W1 F by rw[c5];exact y.o);clear c6 c7 e5 c5 a8 a5 b0 y;go_wp2;go_meet;case rel=>exact d7.o
  have c5:F=⟨a,b-a,t-b,1⟩:=(by rw[a8.o,c7]);have j0:(2:Int)<n:=O;have l5:u<W1:=(by have:=y.o.bel.size;omega);have m4:=(y.o.bel.cell (p:=⟨u,z+2,none⟩) b7).trans i3;have cb:=(y.o.bel.cell (p:=⟨u,z+1,none⟩) b7).trans d6.o;have h6:=y.o.kc.frozen 2;have c2:=y.o.kc.cell 2;simp[tp] at c2;have d7:=J (λ(q:Nat)=>(show me w ((W1.drewN q).setCell (w.heap.size+1,2) (t-b:Int)) F by rw[c5];exact me.put (W:=W1.drewN q) ⟨y.o.kc,y.o.kr,mN y.o.bel q⟩ 2 (t-b) ⟨a,b-a,t-b,1⟩ rfl));have l7:w+1≠u:=O;clear c6 c7 e5 c5 a8 a5 b0 y i3;go_wp2;go_region
  all_goals
   go_wp2;go_meet;case rel=>exact d7.o 1
 have d2:=J hcut;clear hcut y c6;have h0:F.n=1:=(by rw[a8.o]);have b9:=J h0;clear h0 a8;obtain⟨Q,M,I,f7⟩:=F;simp only at*;go_wp2;go_loopw [] (λwr=>∃k:Nat,1<=k/\k<=4096/\Hid (nD ⟨Q,M,I,f7⟩ m (4097-k) k=K)/\Hid (me w wr ⟨Q,M,I,(k:Int)⟩)) (λwr=>MQ (w.heap.size+1) wr);refine⟨1,aU,O,b0,J ?_⟩;have:=d2.o;rw[b9.o] at this;exact this;obtain⟨k,l8,m2,a0,R⟩:=hrel;have d1:=J (NZ R.o);have g4:wr.cell? (u,z+G)=some (.int .i64 m):=(R.o.bel.cell (p:=⟨u,z+G,none⟩) b7).trans a9.o;have f9:H6 ⟨Q,M,I,(k:Int)⟩:=a5.o;obtain⟨T,e3⟩:∃T,fL ⟨Q,M,I,f7⟩ k=T:=⟨_,rfl⟩;have b5:=J (λW=>LG f9 k O W);have f8:fL ⟨Q,M,I,(k:Int)⟩ k=T:=e3;rw[f8] at b5;obtain⟨B,h8⟩:∃B,decide (k<4096/\T<=m)=B:=⟨_,rfl⟩;have a1:=J h8;have b4:=J e3;have D:=R;have c4:=J g4;clear R g4 f9 e3 f8 h8;unfold CV at b5;simp only at b5;go_upto_region 7 with fail;go_cut [53] (λj1 wx=>j1=.bool B/\me w wx ⟨Q,M,I,(k:Int)⟩)
 case first=>
  clear d2 a9 d6 a0;by_cases d4:k<4096
  .have f5:(k:Int)<4096:=O;have j8:decide ((k:Int)<4096)=true:=(by simpa using f5);have m7:IntKind.i64.wrap ((n:Int)-1)=(G:Int):=(by rw[IntWalk.i64_in _ O,k3]);have n2:(0:Int)<=G:=O;have l2:IntKind.i64.wrap (G:Int)=(G:Int):=lO;have g5:qw w Q M I (k:Int) ⟨u,z+G,none⟩ m wr.drew:=qw.of (D.o.below ((bf _ _).drew)) c4.o;unfold qw at g5;have e8:Hid (decide (T<=m)=B):=J (by rw[<-a1.o];simp[d4]);clear a1 d1 b4 a5 b9 c4 D d4
   go_region_held3 (λW=>W.cell? (w.heap.size+1,0)=some (.int .i64 Q)/\W.cell? (w.heap.size+1,1)=some (.int .i64 M)/\W.cell? (w.heap.size+1,2)=some (.int .i64 I)/\W.cell? (w.heap.size+1,3)=some (.int .i64 (k:Int))/\W.cell? (u,z+G)=some (.int .i64 m)/\me w W ⟨Q,M,I,(k:Int)⟩) (first|exact g5|assumption|exact qw.below mi mi)
    (first|(go_at_call 158;with_reducible refine(b5.o _).mono ?_;rintro r w' ⟨rfl,aa⟩))
   all_goals
    go_wp2;go_meet;case rel=>exact⟨by rw[e8.o],qw.st mi⟩
  have f5:¬(k:Int)<4096:=O;obtain⟨c0,c1,c2,b6,m3,_⟩:=qw.of D.o c4.o;have e8:Hid (B=false):=J (by rw[<-a1.o];simp[d4]);clear a1 d1 b4 a5 b9 c4 d4;go_quiet (fail);go_wp2;go_meet;case rel=>exact⟨by rw[e8.o],D.o.below (by first|exact bf _ _|exact mN (bf _ _) _)⟩
 obtain⟨rfl,R⟩:=hcut;have g:=J R;clear R D c4;cases B with
 |true=>have aa:=a1.o;simp at aa;obtain⟨f4,g8⟩:=aa;have d8:=a0.o;rw[show 4097-k=(4096-k)+1 by omega,Zd6 _ _ _ _ ⟨f4,by rw[b4.o];exact g8⟩,show 4096-k=4097-(k+1) by omega] at d8;have i5:=J d8;have b6:=g.o.kc.cell 3;have m6:=g.o.kc.frozen 3;simp[tp] at b6;obtain⟨k',e4⟩:∃k',k+1=k':=⟨_,rfl⟩;rw[e4] at i5;have f5:(k:Int)+1=(k':Int):=O;have AN:1<=k':=O;have j4:k'<=4096:=O;have f6:=J (g.o.put 3 (k':Int) ⟨Q,M,I,(k':Int)⟩ rfl);have j2:=J (NZ f6.o);have k8:=J (And.intro f4 e4);clear a0 d8 a1 g8 e4 g b0 a9 d6 d2 b4 a5 b9 b5 f4;go_wp2;refine⟨⟨k',AN,j4,i5,f6⟩,?_⟩;rw[j2.o,d1.o];obtain⟨n9,o0⟩:=k8.o;exact dz
 |false=>
  have aa:=a1.o;have e2:K=k:=by have:=a0.o;rw[Zd7 _ _ _ _ (by rw[b4.o];simpa using aa)] at this;exact this.symm
  subst e2;obtain⟨l6,i1,i6,i7,i8,i9,h7⟩:=ZoU g.o;have i4:=J i1;have j9:=J h7;have r0:=g.o.kr.cell 0;have k0:=g.o.kr.cell 1;have k1:=g.o.kr.cell 2;have k2:=g.o.kr.cell 3;have m8:=g.o.kr.frozen 0;have m9:=g.o.kr.frozen 1;have n0:=g.o.kr.frozen 2;have n1:=g.o.kr.frozen 3;have c0:=g.o.kc.cell 0;have c1:=g.o.kc.cell 1;have c2:=g.o.kc.cell 2;have b6:=g.o.kc.cell 3;simp[tp,zo] at r0 k0 k1 k2 c0 c1 c2 b6;simp only at i4 i6 i7 i8 i9;clear i1 h7 aa a0 a1 g b0 a9 d6 d2 b4 a5 b9 b5 d1;go_wp2_with ((with_reducible show bodyPost _ _ _ _ _ _);rw[i4.o];refine bodyPost_ret (v:=.agg #[Q,M,I,.int .i64 (K:Int)]) (by simp[results,results125,go_sem,i6,i7,i8,i9];try rfl) rfl ?_;exact⟨rfl,j9.o⟩)
