import Derived.Test.YtnjkjoklnephcaaGreatDoorJ13
set_option linter.all false
set_option maxRecDepth 100000
set_option maxHeartbeats 0
section
variable{P Q:Prop}
theorem CC(h:P:=by with_reducible rfl):P:=h
theorem EW(h:P:=by exact⟨0,cf _,rfl,J Zm,J (bi _ _)⟩):P:=h
theorem EV(h:P:=by go_wp2;go_ret;exact⟨Z4 B.o.symm,g.o⟩):P:=h
theorem Rt(h:P:=by rw[g.o.cell,Vd _ _ (by rw[bT,k.o,iK];omega)]):P:=h
theorem Q3(h:P:=by rw[az h];simp only[Bool.not_eq_true] at h;rw[List.filter_cons,h];rfl):P:=h
theorem Oz(h:P:=by go_wp2;refine bodyPost_ret (by simp[results,results143,go_sem];try rfl) rfl ?_;exact⟨rfl,a2.o⟩):P:=h
theorem Ot(h:P:=by
 go_wp2_with (
  at_builtin;refine Z5 (by with_reducible rfl) rfl _ _ _ rfl _ _ (by rfl) (by rfl) b8.o ?_);refine⟨⟨k+1,ab,by go_num,u,y⟩,?_⟩;simp[intOf]<;>omega):P:=h
end
namespace Go.Proofs.Y
open Tryz Wv Go.RowKit
variable{A:bS}{W W' w w':au}{f m n s:Int}{l:List Int}{p:Addr}{v:aJ}
def jC (l:List Int):Array aJ:=(bQ l).toArray
theorem Vd (l:List Int) (i:Nat) (h:i<l):(jC l)[i]? =some (.int .i64 l[i]):=by simp[jC,bQ,iv,h]
theorem Lp (l:List Int) (i:Nat) (x:Int):(jC l).setIfInBounds i x=jC (l.set i x):=by apply pV.1;simp[jC,bQ,iv,List.map_set]
theorem Qk (n:Nat):Array.replicate n (.int .i64 0:aJ)=jC (List.replicate n 0):=by apply pV.1;simp[jC,bQ,iv]
theorem HI {g:Nat} (h:Bk w g 3 (jC l)):At w (some ⟨g,0,none⟩) (bQ l):=by have:=h.at_;simpa [jC] using this
theorem DG (l:List Int) (i:Nat) (h:i<l):(bQ l)[i]? =some (.int .i64 l[i]):=by simp[bQ,iv,h]
theorem JZ (E:At w A (bQ l)) (n cap:Nat) (F:n=l) (Q:n<=9223372036854775807):
  Calls prog 102 #[(A,n,cap)] w λx w'=>x=.returned (Zh l)/\w=w':=by
 have Ha:=J E;have I:=J F;obtain⟨V,B⟩:=ay (Zh l);have q:Hid (V=(tv (-1) l&&decide (l.length<=4096))):=J B.symm;rw[B];go_in;go_wp2;go_loopw [3,8] (λs3 t wr=>∃(i:Nat) (last:Int),i<=n/\s3=last/\t=i/\Hid (tv (-1) l=tv last (l.drop i))/\wr=w) (λ_ t _=>(n-intOf t).toNat);exact⟨0,-1,cf _,rfl,rfl,J rfl,rfl⟩;obtain⟨i,last,hi,rfl,rfl,p,rfl⟩:=hrel;by_cases ab:i<n
 .have y:i<l:=im;have hd:l.drop i=l[i]::l.drop (i+1):=kw y;have z:=DG l i y;obtain⟨x,G⟩:=ay l[i];rw[G] at hd z;obtain⟨b,o,D,hb,a0⟩:=Ha.o.get i _ z;subst D;have k:=p.o;rw[hd] at k;have u:tv (-1) l=(decide (last<x)&&decide (x<=1099511627776)&&tv x (l.drop (i+1))):=k;have R:(i:Int)<n:=O;by_cases h1:x<=last;.have g:Hid (V=false):=J (by rw[q.o,u,cG (show ¬last<x by omega)];rfl);go_wp2;go_ret;exact⟨Z4 g.o.symm,rfl⟩
  by_cases S:1099511627776<x;.have g:Hid (V=false):=J (by rw[q.o,u,cG (show ¬x<=1099511627776 by omega),Bool.and_false];rfl);go_wp2;go_ret;exact⟨Z4 g.o.symm,rfl⟩
  have g:Hid (tv (-1) l=tv x (l.drop (i+1))):=J (by rw[u,cT (show last<x by omega),cT (show x<=1099511627776 by omega)];rfl);go_wp2;refine⟨⟨i+1,x,ab,rfl,ck,g,by first|trivial|rfl⟩,?_⟩;simp[intOf]<;>omega
 have M:i=n:=O;have k:=p.o;rw[oe (by rw[<-I.o];omega)] at k;have g:Hid (V=decide (n<=4096)):=J (by rw[q.o,k,I.o];rfl);subst M;go_wp2;go_ret;exact⟨Z4 (by rw[g.o];exact fp),rfl⟩
theorem Gk (F:At w A (bQ l)) (n cap:Nat) (q:n=l) (M:Zh l=true):
  Calls prog 141 #[(A,n,cap)] w λx w'=>∃v,x=.returned v/\h' w' v (Z9 l)/\Below w w w':=by
 obtain⟨b6,R,b7⟩:=Ze.1 M;have b8:n<=4096:=O;have a9:=Y4 (P:=prog) 123 3 _ _ underlying123 Y1 rfl (n:Int) n rfl O O w;rw[Qk] at a9;obtain⟨b0,a6,Ha,I,b1⟩:=ia (Bk.new w 3 (jC (List.replicate n 0))) ((bi w w).alloc aW (.cells (jC (List.replicate n 0)) 3)) F q R;have a3:Hid ((Z9 l)=n):=J (by unfold Z9;rw[Y3,q]);clear F q M b6 R b7;go_in;go_wp2;go_loopw [3,12] (λs3 t wr=>∃(i:Nat) (last:Int) (G:List Int),i<=n/\-1<=last/\last<=1099511627776/\s3=last/\t=i/\Hid (Z9 l=G++gp last (l.drop i))/\Hid (G=i)/\Hid (Bk wr w 3 (jC (G++List.replicate (n-i) 0)))/\Hid (Below w w wr)) (λ_ t _=>(n-intOf t).toNat);exact⟨0,-1,[],cf _,O,O,rfl,rfl,J rfl,J rfl,J (by simpa using b0.o),a6⟩;obtain⟨i,last,G,hi,c3,b9,rfl,rfl,E,k,g,hb⟩:=hrel;by_cases ab:i<n;.have z:i<l:=im;have hd:l.drop i=l[i]::l.drop (i+1):=kw z;have B:=DG l i z;have D:=b1.o l[i] (dr _);obtain⟨x,b3⟩:=ay l[i];rw[b3] at hd B D;obtain⟨b,o,b2,a7,a8⟩:=Ha.o.get i _ B;subst b2;have c6:=(hb.o.cell (p:=⟨b,o+i,none⟩) a7).trans a8;obtain⟨c7,a1⟩:=D;have u:=g.o.put i (x-last-1:Int);rw[Lp,show n-i=(n-(i+1))+1 by omega,pS,nz _ _ (by rw[k.o];exact aW),k.o,fv,List.set_cons_zero] at u;have a4:Hid (Bk (wr.setCell (w,i) (x-last-1:Int)) w 3 (jC ((G++[x-last-1])++List.replicate (n-(i+1)) 0))):=J (by rw[ey];exact u);have b5:=J (hb.o.setCell (p:=⟨w,i,none⟩) aW (x-last-1:Int));have S:Hid (Z9 l=(G++[x-last-1])++gp x (l.drop (i+1))):=J (by rw[E.o,hd,ey];rfl);have a0:Hid ((G++[x-last-1]).length=i+1):=J (by rw[bT,k.o];rfl);obtain⟨c9,c5⟩:∃y:Int,wr.cell? (w,i)=y:=⟨_,Rt⟩;have c8:=g.o.frozen i;have c4:(i:Int)<n:=O;go_wp2;refine⟨⟨i+1,x,_,ab,O,a1,rfl,ck,S,a0,a4,b5⟩,?_⟩;simp[intOf]<;>omega
 have b4:i=n:=O;subst b4;have Q:=E.o;rw[oe Fy] at Q;have a2:Z9 l=G:=(by rw[Q];exact fu _);have a5:Hid (h' wr (.slice (some (w,0)) i i) (Z9 l)):=J ⟨_,i,by rw[a3.o],by have:=HI g.o;rw[fv,List.replicate_zero,fu] at this;rw[a2];exact this⟩;go_wp2;go_ret;exact⟨_,rfl,a5.o,hb.o⟩
def Iv (w:au) (r:Option (List Int)) (x:Ending) (w':au):Prop:=∃v ok,x=.returned (.tuple #[v,.bool ok])/\ok=r.isSome/\(∀l,r=some l->h' w' v l)/\Below w w w'
theorem Xj {r:Option (List Int)} (h:r=none) (hb:Below w w w'):Iv w r (.returned (.tuple #[v,false])) w':=⟨_,_,rfl,by rw[h];rfl,(λl g=>by rw[h] at g;cases g),hb⟩
theorem Gl (Q:At w A (bQ l)) (n cap:Nat) (S:n=l.length) (c3:n<=1000000):
  Calls prog 172 #[(A,n,cap)] w λx w'=>Iv w (kR l) x w':=by
 have b0:=Y4 (P:=prog) 123 3 _ _ underlying123 Y1 rfl (n:Int) n rfl O O w;rw[Qk] at b0;obtain⟨b1,a7,Ha,I⟩:=dm (Bk.new w 3 (jC (List.replicate n 0))) ((bi w w).alloc aW (.cells (jC (List.replicate n 0)) 3)) Q S;obtain⟨R,z⟩:=ay (kR l);have u:Hid (R=match jn (-1) l with|some r=>if r.length<=4096 then some r else none|none=>none):=J z.symm;rw[z];clear Q S z;go_in;go_wp2;go_loopw [4,13] (λb9 B wr=>∃(i:Nat) (last:Int) (G:List Int),i<=n/\-1<=last/\last<=1099511627776/\b9=last/\B=i/\Hid (jn (-1) l=(jn last (l.drop i)).map (G++·))/\Hid (G=i)/\Hid (Bk wr w 3 (jC (G++List.replicate (n-i) 0)))/\Hid (Below w w wr)) (λ_ B _=>(n-intOf B).toNat);exact⟨0,-1,[],cf _,O,O,rfl,rfl,J (by simp),J rfl,J (by simpa using b1.o),a7⟩;obtain⟨i,last,G,hi,c5,c4,rfl,rfl,M,k,g,hb⟩:=hrel;by_cases ab:i<n
 .have E:i<l.length:=im;have hd:l.drop i=l[i]::l.drop (i+1):=kw E;have F:=DG l i E;obtain⟨x,b6⟩:=ay l[i];rw[b6] at hd F;obtain⟨b,o,b4,a8,a9⟩:=Ha.o.get i _ F;subst b4;have c9:=(hb.o.cell (p:=⟨b,o+i,none⟩) a8).trans a9;have b5:jn last (x::l.drop (i+1))=if x<0\/1099511627776<x\/1099511627776<last+x+1 then none else(jn (last+x+1) (l.drop (i+1))).map ((last+x+1)::·):=rfl;have q:=M.o;rw[hd,b5] at q;have c6:(i:Int)<n:=O;by_cases h1:x<0;.have t:Hid (R=none):=J (by rw[u.o,q,aP (.inl h1)];rfl);go_wp2;go_ret2;exact Xj t.o hb.o
  by_cases b2:1099511627776<x;.have t:Hid (R=none):=J (by rw[u.o,q,aP (.inr (.inl b2))];rfl);go_wp2;go_ret2;exact Xj t.o hb.o
  have c7:last+(x+1)=last+x+1:=O;obtain⟨y,b7⟩:=ay (last+x+1);have D:=g.o.put i y;rw[Lp,show n-i=(n-(i+1))+1 by omega,pS,nz _ _ (by rw[k.o];exact aW),k.o,fv,List.set_cons_zero] at D;have a5:Hid (Bk (wr.setCell (w,i) y) w 3 (jC ((G++[y])++List.replicate (n-(i+1)) 0))):=J (by rw[ey];exact D);have a0:=J (hb.o.setCell (p:=⟨w,i,none⟩) aW y);have a2:Hid ((G++[y]).length=i+1):=J (by rw[bT,k.o];rfl);obtain⟨d2,c8⟩:∃y:Int,wr.cell? (w,i)=y:=⟨_,Rt⟩;have d1:=g.o.frozen i;rw[b7] at q;by_cases b3:1099511627776<y;.have t:Hid (R=none):=J (by rw[u.o,q,aP (.inr (.inr b3))];rfl);have a3:last+(x+1)=y:=O;go_wp2;go_ret2;exact Xj t.o a0.o
  have a1:Hid (jn (-1) l=(jn y (l.drop (i+1))).map ((G++[y])++·)):=J (by rw[q,az O,Option.map_map];congr 1;funext r;simp);have a3:last+(x+1)=y:=O;go_wp2;refine⟨⟨i+1,y,_,ab,O,O,rfl,ck,a1,a2,a5,a0⟩,?_⟩;simp[intOf]<;>omega
 have b8:i=n:=O;subst b8;have q:=M.o;rw[oe Fy] at q;have a4:jn (-1) l=some G:=(by rw[q];simp[jn]);have a6:Hid (h' wr (.slice (some (w,0)) i i) G):=J ⟨_,i,by rw[k.o],by have:=HI g.o;rw[fv,List.replicate_zero,fu] at this;exact this⟩;have t:Hid (R=if i<=4096 then some G else none):=J (by rw[u.o,a4];simp only;rw[k.o]);go_wp2;go_ret2;refine⟨_,_,rfl,?_,λl h=> ?_,hb.o⟩;rw[t.o];by_cases h:i<=4096;rw[aP h];exact fp;rw[az h];exact fp;rw[t.o] at h;split at h;injection h with h;subst h;exact a6.o;cases h
def CV (c:dR):aJ:=.agg #[c.st,c.f,c.s,c.n]
def H' (c:dR):Prop:=0<=c.st/\c.st<=1099511627776/\1<=c.f/\c.f<=1099511627776/\1<=c.s/\c.s<=1099511627776
theorem MO {c:dR} (h:sA c):H' c:=⟨h.2.2.1,h.2.2.2.1,h.2.2.2.2.1,h.2.2.2.2.2.1,h.2.2.2.2.2.2.1,h.2.2.2.2.2.2.2⟩
theorem Zl3 {k:Nat} (l:k<=3000) (h1:1<=f) (g:f<=1099511627776):0<=(k:Int)*f/\(k:Int)*f<=3298534883328000:=by
  constructor;exact Int.mul_nonneg (Int.natCast_nonneg k) O
  calc (k : Int) * f <= 3000 * f := Int.mul_le_mul_of_nonneg_right O O
    _<=3298534883328000:=O
theorem LY {c:dR} (E:H' c) (i:Nat) (hi:i<=5000) (w:au):
  Calls prog 192 #[CV c,i] w (bN w (fW c i:Int)):=by obtain⟨h1,a1,y,z,B,D⟩:=E;obtain⟨st,f,s,n⟩:=c;simp only at*;have g:fW ⟨st,f,s,n⟩ i=st+((i+1)/2:Nat)*f+(i/2:Nat)*s:=rfl;obtain⟨k1,l⟩:=ay ((i+1)/2);obtain⟨k2,p⟩:=ay (i/2);rw[l,p] at g;obtain⟨F,G⟩:=Zl3 (k:=k1) O y z;obtain⟨I,M⟩:=Zl3 (k:=k2) O B D;have S:((i:Int)+1)/2=(k1:Int):=O;have a0:(i:Int)/2=(k2:Int):=O;obtain⟨Q,q⟩:=ay ((k1:Int)*f);obtain⟨R,t⟩:=ay ((k2:Int)*s);rw[q] at F G g;rw[t] at I M g;have u:=J g;clear l p g;unfold CV;simp only;go_in;go_wp2;go_ret;exact⟨by rw[u.o];rfl,(bi w w).alloc aW _⟩
theorem Hg (n a b:Int) (w:au):
  Calls prog 258 #[n,a,b] w λx w'=>x=.returned (.bool (decide (a<=n)&&decide (n<=b)))/\w=w':=by
 by_cases h1:a<=n
 .by_cases g:n<=b;.go_in;go_wp2;go_ret;exact⟨Z4 (by simp[h1,g]),rfl⟩
  go_in;go_wp2;go_ret;exact⟨Z4 (by rw[eq_comm,uN];omega),rfl⟩
 go_in;go_wp2;go_ret;exact⟨Z4 (by rw[eq_comm,Cg,uN,uN];omega),rfl⟩
theorem ZgP (c:dR) (w:au):
  Calls prog 227 #[CV c] w (bN w (nZ c)):=by
 obtain⟨b1,k⟩:=ay ((decide (1<=c.n)&&decide (c.n<=4096)));obtain⟨G,aa⟩:=ay ((decide (0<=c.st)&&decide (c.st<=1099511627776)));obtain⟨b3,l⟩:=ay ((decide (1<=c.f)&&decide (c.f<=1099511627776)));obtain⟨z,p⟩:=ay ((decide (1<=c.s)&&decide (c.s<=1099511627776)));obtain⟨t,y,E,I⟩:=dm (λW=>Hg c.n 1 4096 W) (λW=>Hg c.st 0 1099511627776 W) (λW=>Hg c.f 1 1099511627776 W) (λW=>Hg c.s 1 1099511627776 W);rw[k] at t;rw[aa] at y;rw[l] at E;rw[p] at I;have u:nZ c=(b1&&G&&b3&&z&&decide (fW c (c.n-1).toNat<=1099511627776)):=by unfold nZ;congr 1;rw[<-k,<-aa,<-l,<-p,lO,fE];unfold sA;simp[and_assoc]
 have g:=J ((bi w w).alloc aW (.cells #[c.st,c.f,c.s,c.n] 220));by_cases q:b1=true/\G=true/\b3=true/\z=true
 .obtain⟨rfl,rfl,rfl,rfl⟩:=q;have F:sA c:=by simp at k aa l p;exact⟨k.1,k.2,aa.1,aa.2,l.1,l.2,p.1,p.2⟩
  have n1:=F.1;have n2:=F.2.1;have D:=J (λW=>LY (MO F) (c.n-1).toNat O W);obtain⟨m,Q⟩:=ay ((c.n-1).toNat);have S:c.n-1=(m:Int):=O;rw[Q] at D u;obtain⟨T,M⟩:=ay (fW c m);rw[M] at D u;have B:=J u;clear k aa l p u F Q M;obtain⟨st,f,s,n⟩:=c;simp only at*;unfold CV at D⊢;simp only at D⊢;go_in;go_wp21;refine cq (t.o _) ?_;go_wp21;refine cq (y.o _) ?_;go_wp21;refine cq (E.o _) ?_;go_wp21;refine cq (I.o _) ?_;go_wp21;refine gO (D.o _) g λw1 R=>?_;go_wp2;go_ret;exact⟨Z4 (by rw[B.o];simp),R.o⟩
 have B:Hid (nZ c=false):=J (by rw[u];cases b1<;>cases G<;>cases b3<;>cases z<;>simp at q<;>rfl);clear k aa l p u;obtain⟨st,f,s,n⟩:=c;simp only at*;unfold CV;simp only;cases b1;.clear q;go_in;go_wp21;refine cq (t.o _) ?_;exact EV
 cases G;.clear q;go_in;go_wp21;refine cq (t.o _) ?_;go_wp21;refine cq (y.o _) ?_;exact EV
 cases b3;.clear q;go_in;go_wp21;refine cq (t.o _) ?_;go_wp21;refine cq (y.o _) ?_;go_wp21;refine cq (E.o _) ?_;exact EV
 obtain rfl:z=false:=(by cases z<;>simp at q⊢);clear q;go_in;go_wp21;refine cq (t.o _) ?_;go_wp21;refine cq (y.o _) ?_;go_wp21;refine cq (E.o _) ?_;go_wp21;refine cq (I.o _) ?_;exact EV
def wo (w:au) (c:dR) (x:Ending) (w':au):Prop:=if nZ c=true then(∃g,x=.returned (.tuple #[.slice (some ⟨g,0,none⟩) c.n.toNat c.n.toNat,(0:Int)])/\Bk w' g 3 (jC (ZP c))/\w.heap.size<=g/\Below w w w') else(x=.returned (.tuple #[.slice none 0 0,(1:Int)])/\Below w w w')
theorem S' (c:dR) (w:au):
  Calls prog 193 #[CV c] w λx w'=>wo w c x w':=by
 have k:=J (λW=>ZgP c W);cases u:nZ c;.rw[u] at k;have I:Hid (∀x w',wo w c x w'↔(x=.returned (.tuple #[.slice none 0 0,(1:Int)])/\Below w w w')):=J (λx w'=>by unfold wo;rw[az (by rw[u];simp)]);have B:=J ((bi w w).alloc aW (.cells #[c.st,c.f,c.s,c.n] 220));clear u;obtain⟨st,f,s,n⟩:=c;unfold CV at k⊢;simp only at k B⊢;go_in;go_wp21;refine gO (k.o _) B λw1 c5=>?_;go_wp2;go_ret2;exact(I.o _ _).2 ⟨rfl,c5.o⟩
 rw[u] at k;have I:Hid (∀x w',wo w c x w'↔(∃g,x=.returned (.tuple #[.slice (some ⟨g,0,none⟩) c.n.toNat c.n.toNat,(0:Int)])/\Bk w' g 3 (jC (ZP c))/\w.heap.size<=g/\Below w w w')):=J (λx w'=>by unfold wo;rw[aP u]);obtain⟨M,_⟩:=YK.1 u;have n1:=M.1;have n2:=M.2.1;have a2:=J (λ(i:Nat) (hi:i<=5000) W=>LY (MO M) i hi W);have E:=RT c;have S:∀i (h:i<c.n.toNat),ZP c=(ZP c).take i++fW c i::(ZP c).drop (i+1):=λi h=>by have h1:i<(ZP c).length:=(by rw[E];exact h);have c9:(ZP c)[i]=fW c i:=(by simp[ZP]);rw[<-c9,<-kw h1,sT]
 obtain⟨N,b3⟩:=ay c.n.toNat;have a9:c.n=(N:Int):=O;rw[b3] at I E S;obtain⟨l,a7⟩:=ay (ZP c);rw[a7] at I E S;obtain⟨b0,a5,B,a3⟩:=dm S E ((bi w w).alloc aW (.cells #[c.st,c.f,c.s,c.n] 220)) (Bk.new w 220 #[c.st,c.f,c.s,c.n]);obtain⟨b9,b7⟩:=ay (fW c);rw[b7] at a2 b0;clear u M E S a7 b7 b3;obtain⟨st,f,s,n⟩:=c;simp only at a9;subst a9;unfold CV at k a2⊢;simp only at*;have d6:N<=4096:=O;have d5:1<=N:=O;clear n1 n2;go_in;go_wp21;refine aO (k.o _) λw1 hb=>?_;have Q:=J (B.o.trans (hb.mono B.o.size));have q:=J (a3.o.below hb a3.o.lt);clear hb B a3 k;have b2:=Y4 (P:=prog) 123 3 _ _ underlying123 Y1 rfl (N:Int) N rfl O O w1;rw[Qk] at b2;obtain⟨c8,c6,MM,b5⟩:=dm (Bk.new w1 3 (jC (List.replicate N 0))) (Q.o.alloc Q.o.size (.cells (jC (List.replicate N 0)) 3)) (q.o.alloc (.cells (jC (List.replicate N 0)) 3)) Q.o.size;have F:=q.o.cell 0;have k1:=q.o.cell 1;have k2:=q.o.cell 2;have k3:=q.o.cell 3;have G:=q.o.lt;have d1:=J G;simp at F k1 k2 k3;go_wp2;clear F k1 k2 k3 G b2 q Q;go_loopw [14] (λa4 wr=>∃i:Nat,i<=N/\a4=(i:Int)/\Hid (Bk wr w1.heap.size 3 (jC (l.take i++List.replicate (N-i) 0)))/\Hid (Bk wr w 220 #[st,f,s,N])/\Hid (Below w w wr)) (λa4 _=>(N-intOf a4).toNat);exact⟨0,cf _,rfl,J (by simpa using c8.o),MM,c6⟩;obtain⟨i,hi,rfl,D,z,hb⟩:=hrel;by_cases ab:i<N
 .have d7:(i:Int)<N:=O;have a6:=J (a2.o i O);obtain⟨T,b4⟩:=ay (b9 i);have a0:=b0.o i ab;rw[b4] at a6 a0
  have b1:l.take (i+1)=l.take i++[T]:=by
   have t:(l.take i).length=i:=(by rw[eC,a5.o];omega);conv=>lhs;rw[a0]
   rw[List.take_append,t,show i+1-i=1 by omega,dU (by rw[t];omega)];rfl
  have F:=z.o.cell 0;have k1:=z.o.cell 1;have k2:=z.o.cell 2;have k3:=z.o.cell 3;simp at F k1 k2 k3;have c4:=J b1;clear a0 b4 b1;go_wp21;refine aO (a6.o _) λb8 aa=>?_;have R:=D.o.below aa D.o.lt;have a8:=z.o.below aa z.o.lt;have b6:=hb.o.trans (aa.mono hb.o.size);have a1:=R.put i T;have t:(l.take i).length=i:=(by rw[eC,a5.o];omega);rw[Lp,show N-i=(N-(i+1))+1 by omega,pS,nz _ _ (by rw[t];exact aW),t,fv,List.set_cons_zero] at a1;have c3:Hid (Bk (b8.setCell (w1.heap.size,i) T) w1.heap.size 3 (jC (l.take (i+1)++List.replicate (N-(i+1)) 0))):=J (by rw[c4.o,ey];exact a1);have d3:=J (b6.setCell (p:=⟨w1.heap.size,i,none⟩) b5.o T);have d4:=J (a8.off (p:=⟨w1.heap.size,i,none⟩) (by show w.heap.size≠w1.heap.size;have:=d1.o;omega) T);obtain⟨e1,d8⟩:∃y:Int,b8.cell? (w1.heap.size,i)=y:=⟨_,by rw[R.cell,Vd _ _ (by rw[bT,t,iK];omega)]⟩;have d9:=R.frozen i;clear F k1 k2 k3 a1 R a8 b6 aa D z hb t;go_wp2;refine⟨⟨i+1,ab,ck,c3,d4,d3⟩,?_⟩;simp[intOf]<;>omega
 have d2:i=N:=O;subst d2;have c7:Hid (Bk wr w1.heap.size 3 (jC l)):=J (by have:=D.o;rw[fv,List.replicate_zero,fu,dU (by rw[a5.o];exact aW)] at this;exact this);clear D;go_wp2;go_ret2;exact(I.o _ _).2 ⟨_,rfl,c7.o,b5.o,hb.o⟩
theorem JF (t:At w A (bQ l)) (n cap:Nat) (D:n=l) (G:n<=1000000) (E:l.Pairwise (· <·)) (x:Int):
  dt 194 #[(A,n,cap),x] w λe w'=>(∃p:Int,e=.returned (.tuple #[p,l.contains x]))/\∃q,w'=w.drewN q:=by by_cases h0:n=0;subst h0;have B:l=[]:=gx D.symm;subst B;exact(Tryz.slices_BinarySearch_int_empty A cap x w).mono λe w' ⟨h1,g⟩=>⟨⟨0,h1⟩,0,g⟩;obtain⟨b,o,rfl,hb,_⟩:=t 0 (by simp[bQ];omega);refine(Tryz.slices_BinarySearch_int b o n cap l x w O O (λj u=> ?_) ?_).mono λe w' ⟨h1,g⟩=>⟨⟨_,by rw[dU O] at h1;exact h1⟩,g⟩;obtain⟨I,Q,k,M,z⟩:=t j (by simpa [bQ] using u);injection k with k;injection k with F y;subst F;subst y;rw[z];simp[bQ,iv,u];rw[dU O];exact E.imp (λh=>Int.le_of_lt h)
def Zqw (w:au) (r:Option (List Int×List Int)) (x:Ending) (w':au):Prop:=match r with
 |some (m,f)=>∃g k,x=.returned (.tuple #[g,k,(0:Int)])/\h' w' g m/\h' w' k f/\Below w w w'
 |none=>x=.returned (.tuple #[.slice none 0 0,.slice none 0 0,(1:Int)])/\Below w w w'
def xI (c:dR) (l:List Int) (i:Nat):List Int:=((List.range i).filter (λi=> !l.contains (fW c i))).map Int.ofNat
theorem ZbH (c:dR) (l:List Int) (i:Nat):xI c l (i+1)=if l.contains (fW c i)=true then xI c l i else xI c l i++[(i:Int)]:=by unfold xI;rw[vU,List.filter_append,jv];by_cases h:l.contains (fW c i)=true;rw[aP h,List.filter_cons,h];simp;exact Q3
theorem ZeJ (c:dR) (l:List Int) (i:Nat):(xI c l i).length<=i:=by unfold xI;rw[dc];have h1:=List.length_filter_le (λi=> !l.contains (fW c i)) (List.range i);rw[rp] at h1;exact h1
theorem Zj3 {base n:Nat} (h:w.ownsRow base 3 1 v n (bQ l)) (k:n=l):h' w v l:=by obtain⟨A,cap,p,g⟩:=Zi h;exact⟨A,cap,by rw[p,k],g⟩
theorem h'.bel (h:h' w v l) (hb:Below w w w'):h' w' v l:=by obtain⟨A,cap,k,g⟩:=h;exact⟨A,cap,k,g.below hb⟩
theorem Zkj (c:dR) (b3:At w A (bQ l)) (n cap:Nat) (b4:n=l) (g5:n<=9223372036854775807):
  Calls prog 144 #[CV c,(A,n,cap)] w λx w'=>Zqw w (H8 c l) x w':=by
 obtain⟨b0,Ha,I,a3⟩:=dm (λW=>S' c W) b3 b4 ((bi w w).alloc aW (.cells #[c.st,c.f,c.s,c.n] 220));have z:H8 c l=if nZ c=true/\Zh l=true then some (Qz c l,qj c l) else none:=rfl;cases M:nZ c;.rw[M,az (by simp)] at z;rw[z];have G:Hid (∀W,Calls prog 193 #[CV c] W (bN W (.tuple #[.slice none 0 0,(1:Int)]))):=J (λW=>(b0.o W).mono λx w' h=>by unfold wo at h;rw[az (by rw[M];simp)] at h;exact h);obtain⟨st,f,s,cn⟩:=c;unfold CV at G⊢;simp only at*;go_in;go_wp21;refine aO (G.o _) λw1 hb=>?_;have E:=J (a3.o.trans (hb.mono a3.o.size));go_wp2;go_ret3;exact⟨rfl,E.o⟩
 obtain⟨a6,_⟩:=YK.1 M;have G:Hid (∀W,Calls prog 193 #[CV c] W λx w'=>(∃g,x=.returned (.tuple #[.slice (some ⟨g,0,none⟩) c.n.toNat c.n.toNat,(0:Int)])/\Bk w' g 3 (jC (ZP c))/\W.heap.size<=g/\Below W.heap.size W w')):=J (λW=>(b0.o W).mono λx w' h=>by unfold wo at h;rw[aP M] at h;exact h);have n1:=a6.1;have n2:=a6.2.1;have a7:=RT c;have b2:=RU a6;have a5:∀i,i<c.n.toNat->(ZP c)[i]? =some (fW c i):=λi h=>(by simp[ZP,h]);have b7:Qz c l=xI c l c.n.toNat:=rfl;have ff:=J (λW (h:Below w w W)=>JZ (b3.below h) n cap b4 g5);cases S:Zh l;.rw[M,S,az (by simp)] at z;rw[z];rw[S] at ff;clear z M b0 b3 b4 a6 S a7 b2 a5 b7;obtain⟨st,f,s,cn⟩:=c;unfold CV at G⊢;simp only at*;go_in;go_wp21;refine(G.o _).mono ?_;rintro x w1 ⟨g,rfl,e5,c9,hb⟩;have E:=J (a3.o.trans (hb.mono a3.o.size));go_wp21;refine cq (ff.o _ E.o) ?_;go_wp2;go_ret3;exact⟨rfl,E.o⟩
 rw[M,S,aP ⟨rfl,rfl⟩,b7] at z;rw[z];rw[S] at ff;obtain⟨f4,i6,i7⟩:=Ze.1 S;have j1:n<=4096:=O;have D:=λi=>ZbH c l i;have a9:=λi=>ZeJ c l i;have d8:qj c l=l.filter (λt=> !(ZP c).contains t):=rfl;rw[d8];obtain⟨N,e3⟩:=ay c.n.toNat;rw[e3] at a7 a5 G⊢;obtain⟨B,d7⟩:=ay (ZP c);rw[d7] at a7 b2 a5 G⊢;obtain⟨a1,c3⟩:=ay (xI c l);rw[c3] at D a9⊢;obtain⟨g1,f3⟩:=ay (fW c);rw[f3] at D a5;have e8:a1 0=[]:=(by rw[<-c3];rfl);obtain⟨f7,i9,g4,i8,g2,f8⟩:=fF e8 D a9 a7 b2 a5;have f6:=J f4;have j0:N<=4096:=O;clear z M b0 b3 b4 a6 S a7 b2 a5 b7 f4 i6 i7 D a9 d8 e3 d7 c3 f3 e8 n1 n2;obtain⟨st,f,s,cn⟩:=c;unfold CV at G⊢;simp only at*;go_in;go_wp21;refine(G.o _).mono ?_;rintro x w1 ⟨g,rfl,e5,c9,hb⟩;have E:=J (a3.o.trans (hb.mono a3.o.size));have h3:=J (HI e5);go_wp21;refine cq (ff.o _ E.o) ?_;have b5:=J (Ha.o.below E.o);go_upto_region 5 with fail;go_wp2;go_loopw [9,33] (λi3 c4 wr=>∃i:Nat,i<=N/\c4=(i:Int)/\Hid (wr.ownsRow w1.heap.size 3 1 i3 (a1 i) (bQ (a1 i)))/\Hid (Below w1.heap.size w1 wr)) (λ_ c4 _=>(N-intOf c4).toNat);exact⟨0,cf _,rfl,J (by rw[f7.o];exact Zm),J (bi _ _)⟩;obtain⟨i,hi,rfl,Q,a4⟩:=hrel;have e1:=h3.o.below a4.o;have d6:=b5.o.below a4.o;by_cases ab:i<N
 .have f2:=f8.o i ab;obtain⟨T,c8⟩:=ay (g1 i);have D:=i9.o i;rw[c8] at f2 D;have h8:(bQ B)[i]? =T:=(by unfold bQ;rw[jV,f2];rfl);obtain⟨g6,i1,a8,h4,e4⟩:=e1.get i _ h8;injection a8 with a8;injection a8 with i0 h2;subst i0;subst h2;rw[jW] at e4;have F:=J (JF d6 n cap I.o O f6.o T);have g9:(i:Int)<N:=O;have a9:=g4.o i;have j2:=J a9;cases a0:l.contains T with
  |true=>rw[a0] at F D;rw[aP rfl] at D;have a2:=J D;go_wp21;refine(F.o).mono ?_;rintro x d3 ⟨⟨p,rfl⟩,q,rfl⟩;go_wp2;refine⟨⟨i+1,ab,ck,J (by rw[a2.o];exact Q.o),J (mU a4.o q)⟩,?_⟩;simp[intOf]<;>omega
  |false=>
   rw[a0] at F D;rw[az (by simp)] at D;have a2:=J D;go_wp21;refine(F.o).mono ?_;rintro x d3 ⟨⟨p,rfl⟩,q,rfl⟩;obtain⟨d2,d4,c6,c7,c5,_⟩:=ZU (P:=prog) 123 3 _ _ underlying123 Y1 rfl (w:=wr.drewN q) Q.o (mU a4.o q) a4.o.size (i:Int) rfl gn O;have b8:=J c6;have u:Hid (d4.ownsRow w1.heap.size 3 1 d2 (a1 (i+1)) (bQ (a1 (i+1)))):=J (by rw[a2.o,bT,A8];exact c7);have y:=J c5
   go_wp2_with (
    at_builtin;refine Z5 CC rfl _ _ _ rfl _ _ (by rfl) (by rfl) b8.o ?_);refine⟨⟨i+1,ab,ck,u,y⟩,?_⟩;simp[intOf]<;>omega
 have i2:i=N:=O;subst i2;obtain⟨b1,rfl⟩:∃W,W=wr:=⟨_,rfl⟩;obtain⟨d5,e7,i4,h5⟩:=Zi Q.o;subst i4;obtain⟨h7,f9,h6,e6,b6⟩:=ia h5 d6 e1 (E.o.trans (a4.o.mono E.o.size)) (show l.filter (λt=> !B.contains t)=(l.take n).filter (λt=> !B.contains t) by rw[dU (by rw[I.o];exact aW)]);go_wp2;go_loopw [10,53] (λh9 b9 wx=>∃k:Nat,k<=n/\b9=k/\Hid (wx.ownsRow b1 3 1 h9 ((l.take k).filter (λt=> !B.contains t)) (bQ ((l.take k).filter (λt=> !B.contains t))))/\Hid (Below b1 b1 wx)) (λ_ b9 _=>(n-intOf b9).toNat);exact EW;obtain⟨k,j5,rfl,Q,R⟩:=hrel;have g8:=h6.o.below R.o;have g3:=f9.o.below R.o;by_cases ab:k<n
 .have d9:k<l:=im;have e2:=DG l k d9;have d1:l.take (k+1)=l.take k++[l[k]]:=dD d9;obtain⟨T,c8⟩:=ay l[k];rw[c8] at e2 d1;obtain⟨g6,i1,a8,h4,e4⟩:=g3.get k _ e2;subst a8;have F:=J (JF g8 i i i8.o.symm O g2.o T);have g9:(k:Int)<n:=O;have g0:Hid (((l.take k).filter (λt=> !B.contains t)).length<=4096):=J (by have h1:=List.length_filter_le (λt=> !B.contains t) (l.take k);rw[eC] at h1;omega)
  cases a0:B.contains T with
  |true=>rw[a0] at F;have a2:Hid ((l.take (k+1)).filter (λt=> !B.contains t)=(l.take k).filter (λt=> !B.contains t)):=J (by rw[d1,List.filter_append,List.filter_cons,a0];simp);go_wp21;refine(F.o).mono ?_;rintro x d3 ⟨⟨p,rfl⟩,q,rfl⟩;go_wp2;refine⟨⟨k+1,ab,ck,J (by rw[a2.o];exact Q.o),J (mU R.o q)⟩,?_⟩;simp[intOf]<;>omega
  |false=>rw[a0] at F;have a2:Hid ((l.take (k+1)).filter (λt=> !B.contains t)=(l.take k).filter (λt=> !B.contains t)++[T]):=J (by rw[d1,List.filter_append,List.filter_cons,a0];rfl);go_wp21;refine(F.o).mono ?_;rintro x d3 ⟨⟨p,rfl⟩,q,rfl⟩;have j3:=g0.o;obtain⟨d2,d4,c6,c7,c5,_⟩:=ZU (P:=prog) 123 3 _ _ underlying123 Y1 rfl (w:=wr.drewN q) Q.o (mU R.o q) R.o.size T rfl gn O;have b8:=J c6;have u:Hid (d4.ownsRow b1 3 1 d2 ((l.take (k+1)).filter (λt=> !B.contains t)) (bQ ((l.take (k+1)).filter (λt=> !B.contains t)))):=J (by rw[a2.o,bT,A8];exact c7);have y:=J c5;exact Ot
 have g7:k=n:=O;subst g7;have h0:=J (Zj3 Q.o rfl);have i5:Hid (h' wr (.slice d5 (a1 i) e7) (a1 i)):=J ⟨d5,e7,rfl,h7.o.below R.o⟩;have f5:=J (e6.o.trans (R.o.mono e6.o.size));go_wp2;go_ret3;exact⟨_,_,rfl,i5.o,by rw[b6.o];exact h0.o,f5.o⟩
def tm (c:dR):Array aJ:= #[.int .i64 c.st,.int .i64 c.f,.int .i64 c.s,.int .i64 c.n]
structure mg (w wx:World) (c:dR):Prop where
 kc:Bk wx (w.heap.size+1) 220 (tm c)
 kr:Bk wx w.heap.size 220 (tm zq)
 bel:Below w.heap.size w wx
theorem mg.below {c:dR} (h:mg w W c) (hb:Below W W W'):mg w W' c:=⟨h.kc.below hb h.kc.lt,h.kr.below hb h.kr.lt,h.bel.trans (hb.mono h.bel.size)⟩
theorem mg.put {c:dR} (h:mg w W c) (i:Nat) (x:Int) (g:dR) (k:tm g=(tm c).setIfInBounds i x):mg w (W.setCell (w.heap.size+1,i) x) g:=
 ⟨by rw[k];exact h.kc.put i _,h.kr.off (p:=⟨w+1,i,none⟩) (by show w.heap.size≠w+1;omega) _,h.bel.setCell (p:=⟨w+1,i,none⟩) (by show w.heap.size<=w+1;omega) _⟩
theorem mg.start (w:au) (c:dR):mg w ((w.alloc (.cells (tm zq) 220)).alloc (.cells (tm c) 220)) c where
 kc:=by have:=Bk.new (w.alloc (.cells (tm zq) 220)) 220 (tm c);rw[World.size_alloc] at this;exact this
 kr:=(Bk.new w _ _).alloc _
 bel:=((bi w w).alloc aW _).alloc (by simp) _
def qx (w:au) (st f s n:Int) (p:Addr) (m:Int) (W:au):Prop:=
 W.cell? ⟨w+1,0,none⟩=st/\W.cell? ⟨w+1,1,none⟩=f/\W.cell? ⟨w+1,2,none⟩=s/\W.cell? ⟨w+1,3,none⟩=n/\W.cell? p=m/\mg w W ⟨st,f,s,n⟩
theorem qx.of {st:Int} (h:mg w W ⟨st,f,s,n⟩) (g:W.cell? p=m):qx w st f s n p m W:=⟨h.kc.cell 0,h.kc.cell 1,h.kc.cell 2,h.kc.cell 3,g,h⟩
theorem qx.st {st:Int} (h:qx w st f s n p m W):mg w W ⟨st,f,s,n⟩:=h.2.2.2.2.2
theorem qx.below {st:Int} (h:qx w st f s n p m W) (hb:Below W W W'):qx w st f s n p m W':=qx.of (h.st.below hb) ((hb.cell (World.block_lt_of_cell? W p h.2.2.2.2.1)).trans h.2.2.2.2.1)
def M0 (r:Nat) (w:au):Nat:=match w.cell? ⟨r,3,none⟩ with
 |some (.int _ n)=>(4096-n).toNat
 |_=>0
theorem ZkP {c:dR} (h:mg w W c):M0 (w.heap.size+1) W=(4096-c.n).toNat:=by have:=h.kc.cell 3;simp[tm] at this;unfold M0;rw[this]
theorem Zp3 {c:dR} (h:mg w W c):
  ∃g,((((W.setCell (w,0) c.st).setCell (w,1) c.f).setCell (w,2) c.s).setCell (w,3) c.n)=g/\g.cell? (w,0)=some (.int .i64 c.st)/\g.cell? (w,1)=some (.int .i64 c.f)/\g.cell? (w,2)=some (.int .i64 c.s)/\g.cell? (w,3)=some (.int .i64 c.n)/\Below w w g:=by have k:=(((h.kr.put 0 c.st).put 1 c.f).put 2 c.s).put 3 c.n;refine⟨_,rfl,k.cell 0,k.cell 1,k.cell 2,k.cell 3,?_⟩;exact(((h.bel.setCell (p:=⟨w,0,none⟩) aW _).setCell (p:=⟨w,1,none⟩) aW _).setCell (p:=⟨w,2,none⟩) aW _).setCell (p:=⟨w,3,none⟩) aW _
theorem Zdz {a b:Int} {r:List Int} (h:Zh (a::b::r)=true):Zt (a::b::r)= { tr a b r with n:=(nN (tr a b r) ((a::b::r).getLast (by simp)) 4096 1:Nat) } :=by show(if _ then _ else _)=_;rw[aP h]
theorem Tu (h:l.length<2\/Zh l=false):Zt l=zq:=by
 match l,h with
 |[],_=>rfl
 |[_],_=>rfl
 |a::b::r,h=>show(if _ then _ else _)=_;rw[az];rcases h with h|h;simp at h;omega;rw[h];simp
theorem Z9d (a3:At w A (bQ l)) (n cap:Nat) (E:n=l) (j7:n<=9223372036854775807):
  Calls prog 143 #[(A,n,cap)] w (bN w (CV (Zt l))):=by
 have ff:=J (λW (h:Below w w W)=>JZ (a3.below h) n cap E j7);have a2:=J ((bi w w).alloc aW (.cells #[(0:Int),(0:Int),(0:Int),(0:Int)] 220));by_cases j8:n<2;.rw[Tu (.inl O)];have l1:(n:Int)<2:=O;clear a3 E ff;go_in;exact Oz
 have l1:¬(n:Int)<2:=O;cases a4:Zh l;.rw[Tu (.inr a4)];rw[a4] at ff;clear a3 E a4;go_in;go_wp21;refine cq (ff.o _ a2.o) ?_;exact Oz
 rw[a4] at ff
 obtain⟨a,b,r,rfl⟩:∃a b r,l=a::b::r:=by
  match l,E with
  |[],E=>simp at E;omega
  |[_],E=>simp at E;omega
  |a::b::r,_=>exact⟨a,b,r,rfl⟩
 have hd:=Zdz a4;have e6:=(YK.1 (Qi a4 (by simp))).1;obtain⟨k7,c8,k8⟩:=Ze.1 a4;have b8:r.length=n-2:=(by rw[E];simp);obtain⟨m,d4⟩:∃m,(a::b::r).getLast (by simp)=m:=⟨_,rfl⟩;have g9:(bQ (a::b::r))[n-1]? =some (.int .i64 m):=by have h1:n-1<(a::b::r).length:=(by rw[<-E];omega);rw[DG _ _ h1,<-d4,List.getLast_eq_getElem];congr 3;rw[E]
 rw[d4] at hd;have m6:=c8 a fm;have n5:=c8 b (gN _ fm);have n9:=c8 m (by rw[<-d4];exact List.getLast_mem _);obtain⟨F,hF⟩:∃F,tr a b r=F:=⟨_,rfl⟩;have g6:F=⟨a,b-a,match r with|[]=>b-a|t::_=>t-b,1⟩:=hF.symm;rw[hF] at hd;have g5:H' F:=by rw[hd] at e6;exact MO (c:= { F with n:=(nN F m 4096 1:Nat) }) e6
 obtain⟨K,a0⟩:∃K,nN F m 4096 1=K:=⟨_,rfl⟩;rw[a0] at hd;rw[hd];obtain⟨u,z,rfl,b5,d8⟩:=a3 0 yO;simp[bQ,iv] at d8;obtain⟨b1,n6,a6,j5,d2⟩:=a3 1 yO;injection a6 with a6;injection a6 with a6 S;subst a6;subst S;simp[bQ,iv] at d2;obtain⟨m2,n7,S,aa,e5⟩:=a3.get (n-1) _ g9;injection S with S;injection S with S k6;subst S;subst k6;obtain⟨G,h4⟩:∃k,n-1=k:=⟨_,rfl⟩;rw[h4] at e5;have k4:(n:Int)-1=(G:Int):=O;have h9:(G:Int)<n:=O;have l5:n<=4096:=O
 have c6:=J (show(r=[]/\n=2)\/(∃t q,r=t::q/\2<n/\w.cell? (u,z+2)=some (.int .i64 t)/\0<=t/\t<=1099511627776) by
  match r,b8 with
  |[],b8=>exact .inl ⟨rfl,by simp at b8;omega⟩
  |t::q,b8=>obtain⟨b3,n8,d9,_,h8⟩:=a3 2 yO;injection d9 with d9;injection d9 with a6 S;subst a6;subst S;simp[bQ,iv] at h8;have:=c8 t (gN _ (gN _ fm));exact .inr ⟨t,q,rfl,by simp at b8;omega,h8,this.1,this.2⟩)
 obtain⟨a7,a5,b0,g7,g8,i1⟩:=fF g6 g5 a0 (show(w.alloc (.cells #[(0:Int),(0:Int),(0:Int),(0:Int)] 220)).cell? (u,z)=some (.int .i64 a) from(a2.o.cell (p:=⟨u,z,none⟩) b5).trans d8) (show(w.alloc (.cells #[(0:Int),(0:Int),(0:Int),(0:Int)] 220)).cell? (u,z+1)=some (.int .i64 b) from(a2.o.cell (p:=⟨u,z+1,none⟩) b5).trans d2) (λc=>mg.start w c);have a8:=J e5;have d5:=J d2;have i9:(2:Int)<=n:=O;clear a3 E a4 hd e6 k7 c8 k8 b8 d4 g9 hF g6 g5 a0 d8 d2 e5 j5 aa j8 h4;go_in;go_wp21;refine cq (ff.o _ a2.o) ?_;have l0:=g7.o;have k5:=g8.o;have j3:u<(w.alloc (.cells #[(0:Int),(0:Int),(0:Int),(0:Int)] 220)).heap.size:=fp;go_upto_region 3 with fail;go_cut [3] (λs3 wx=>s3=.pointer (some (w.heap.size+1,0))/\mg w wx ⟨a,b-a,0,1⟩)
 case first=>
  clear c6 a7 a5 b0 a8 ff;go_region
  all_goals
   go_wp2;go_meet;case rel=>exact⟨rfl,(i1.o ⟨a,b-a,0,1⟩).below ((bi _ _).drew)⟩
 obtain⟨rfl,R⟩:=hcut;have D:=J R;clear R l0 k5 j3 ff g7 g8 i1 a2;obtain⟨c0,c1,c2,b7,_⟩:=qx.of (p:=⟨u,z+G,none⟩) (m:=m) D.o ((D.o.bel.cell (p:=⟨u,z+G,none⟩) (by first|exact b5|(have:=D.o.bel.size;omega))).trans a8.o);have h5:=D.o.kc.frozen 2;have y:=J (D.o.put 2 (b-a) ⟨a,b-a,b-a,1⟩ rfl);go_upto_region 5 with fail;clear c0 c1 c2 b7 h5 D;obtain⟨W1,h3⟩:∃W,wc.setCell ⟨w+1,2,none⟩ (b-a:Int)=W:=⟨_,rfl⟩;rw[h3] at y⊢;clear h3;go_upto_if 29 with fail;go_cut [] (λwx=>mg w wx F)
 case first=>
  rcases c6.o with ⟨c7,e3⟩|⟨t,q,c7,e3,i2,n4,l2⟩;.have c5:F=⟨a,b-a,b-a,1⟩:=(by rw[a7.o,c7]);have i9:¬(2:Int)<n:=O;have d6:=J (show mg w W1 F by rw[c5];exact y.o);clear c6 c7 e3 c5 a7 a5 b0 y;go_wp2;go_meet;case rel=>exact d6.o
  have c5:F=⟨a,b-a,t-b,1⟩:=(by rw[a7.o,c7]);have i9:(2:Int)<n:=O;have l6:u<W1:=(by have:=y.o.bel.size;omega);have m5:=(y.o.bel.cell (p:=⟨u,z+2,none⟩) b5).trans i2;have cb:=(y.o.bel.cell (p:=⟨u,z+1,none⟩) b5).trans d5.o;have h5:=y.o.kc.frozen 2;have c2:=y.o.kc.cell 2;simp[tm] at c2;have d6:=J (λ(q:Nat)=>(show mg w ((W1.drewN q).setCell (w.heap.size+1,2) (t-b:Int)) F by rw[c5];exact mg.put (W:=W1.drewN q) ⟨y.o.kc,y.o.kr,mU y.o.bel q⟩ 2 (t-b) ⟨a,b-a,t-b,1⟩ rfl));have l8:w+1≠u:=O;clear c6 c7 e3 c5 a7 a5 b0 y i2;go_wp2;go_region
  all_goals
   go_wp2;go_meet;case rel=>exact d6.o 1
 have d1:=J hcut;clear hcut y c6;have g4:F.n=1:=(by rw[a7.o]);have b9:=J g4;clear g4 a7;obtain⟨Q,M,I,f5⟩:=F;simp only at*;go_wp2;go_loopw [] (λwr=>∃k:Nat,1<=k/\k<=4096/\Hid (nN ⟨Q,M,I,f5⟩ m (4097-k) k=K)/\Hid (mg w wr ⟨Q,M,I,(k:Int)⟩)) (λwr=>M0 (w.heap.size+1) wr);refine⟨1,aW,O,b0,J ?_⟩;have:=d1.o;rw[b9.o] at this;exact this;obtain⟨k,l9,m3,a0,R⟩:=hrel;have c9:=J (ZkP R.o);have f8:wr.cell? (u,z+G)=some (.int .i64 m):=(R.o.bel.cell (p:=⟨u,z+G,none⟩) b5).trans a8.o;have f6:H' ⟨Q,M,I,(k:Int)⟩:=a5.o;obtain⟨T,e2⟩:∃T,fW ⟨Q,M,I,f5⟩ k=T:=⟨_,rfl⟩;have b6:=J (λW=>LY f6 k O W);have f7:fW ⟨Q,M,I,(k:Int)⟩ k=T:=e2;rw[f7] at b6;obtain⟨B,h7⟩:∃B,decide (k<4096/\T<=m)=B:=⟨_,rfl⟩;have a1:=J h7;have b4:=J e2;have D:=R;have c4:=J f8;clear R f8 f6 e2 f7 h7;unfold CV at b6;simp only at b6;go_upto_region 7 with fail;go_cut [53] (λj1 wx=>j1=.bool B/\mg w wx ⟨Q,M,I,(k:Int)⟩)
 case first=>
  clear d1 a8 d5 a0;by_cases d3:k<4096
  .have e9:(k:Int)<4096:=O;have j9:decide ((k:Int)<4096)=true:=(by simpa using e9);have m8:IntKind.i64.wrap ((n:Int)-1)=(G:Int):=(by rw[IntWalk.i64_in _ O,k4]);have n3:(0:Int)<=G:=O;have l3:IntKind.i64.wrap (G:Int)=(G:Int):=lP;have f9:qx w Q M I (k:Int) ⟨u,z+G,none⟩ m wr.drew:=qx.of (D.o.below ((bi _ _).drew)) c4.o;unfold qx at f9;have e7:Hid (decide (T<=m)=B):=J (by rw[<-a1.o];simp[d3]);clear a1 c9 b4 a5 b9 c4 D d3
   go_region_held3 (λW=>W.cell? (w.heap.size+1,0)=some (.int .i64 Q)/\W.cell? (w.heap.size+1,1)=some (.int .i64 M)/\W.cell? (w.heap.size+1,2)=some (.int .i64 I)/\W.cell? (w.heap.size+1,3)=some (.int .i64 (k:Int))/\W.cell? (u,z+G)=some (.int .i64 m)/\mg w W ⟨Q,M,I,(k:Int)⟩) (first|exact f9|assumption|exact qx.below mp mp)
    (first|(go_at_call 192;with_reducible refine(b6.o _).mono ?_;rintro r w' ⟨rfl,aa⟩))
   all_goals
    go_wp2;go_meet;case rel=>exact⟨by rw[e7.o],qx.st mp⟩
  have e9:¬(k:Int)<4096:=O;obtain⟨c0,c1,c2,b7,m4,_⟩:=qx.of D.o c4.o;have e7:Hid (B=false):=J (by rw[<-a1.o];simp[d3]);clear a1 c9 b4 a5 b9 c4 d3;go_quiet (fail);go_wp2;go_meet;case rel=>exact⟨by rw[e7.o],D.o.below (by first|exact bi _ _|exact mU (bi _ _) _)⟩
 obtain⟨rfl,R⟩:=hcut;have g:=J R;clear R D c4;cases B with
 |true=>have aa:=a1.o;simp at aa;obtain⟨e8,h0⟩:=aa;have d7:=a0.o;rw[show 4097-k=(4096-k)+1 by omega,Zdg _ _ _ _ ⟨e8,by rw[b4.o];exact h0⟩,show 4096-k=4097-(k+1) by omega] at d7;have i4:=J d7;have b7:=g.o.kc.cell 3;have m7:=g.o.kc.frozen 3;simp[tm] at b7;obtain⟨k',e4⟩:∃k',k+1=k':=⟨_,rfl⟩;rw[e4] at i4;have e9:(k:Int)+1=(k':Int):=O;have j0:1<=k':=O;have j4:k'<=4096:=O;have f4:=J (g.o.put 3 (k':Int) ⟨Q,M,I,(k':Int)⟩ rfl);have j2:=J (ZkP f4.o);have k9:=J (And.intro e8 e4);clear a0 d7 a1 h0 e4 g b0 a8 d5 d1 b4 a5 b9 b6 e8;go_wp2;refine⟨⟨k',j0,j4,i4,f4⟩,?_⟩;rw[j2.o,c9.o];obtain⟨o0,o4⟩:=k9.o;exact dw
 |false=>
  have aa:=a1.o;have e1:K=k:=by have:=a0.o;rw[Zdh _ _ _ _ (by rw[b4.o];simpa using aa)] at this;exact this.symm
  subst e1;obtain⟨l7,i0,i5,i6,i7,i8,h6⟩:=Zp3 g.o;have i3:=J i0;have k0:=J h6;have r0:=g.o.kr.cell 0;have k1:=g.o.kr.cell 1;have k2:=g.o.kr.cell 2;have k3:=g.o.kr.cell 3;have m9:=g.o.kr.frozen 0;have n0:=g.o.kr.frozen 1;have n1:=g.o.kr.frozen 2;have n2:=g.o.kr.frozen 3;have c0:=g.o.kc.cell 0;have c1:=g.o.kc.cell 1;have c2:=g.o.kc.cell 2;have b7:=g.o.kc.cell 3;simp[tm,zq] at r0 k1 k2 k3 c0 c1 c2 b7;simp only at i3 i5 i6 i7 i8;clear i0 h6 aa a0 a1 g b0 a8 d5 d1 b4 a5 b9 b6 c9;go_wp2_with ((with_reducible show bodyPost _ _ _ _ _ _);rw[i3.o];refine bodyPost_ret (v:=.agg #[Q,M,I,.int .i64 (K:Int)]) (by simp[results,results143,go_sem,i5,i6,i7,i8];try rfl) rfl ?_;exact⟨rfl,k0.o⟩)
