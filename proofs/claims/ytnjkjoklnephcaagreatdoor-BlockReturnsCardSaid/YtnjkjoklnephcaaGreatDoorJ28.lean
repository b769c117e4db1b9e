import Derived.Test.YtnjkjoklnephcaaGreatDoorJ27
set_option linter.all false
set_option maxRecDepth 100000
set_option maxHeartbeats 0
section
variable{P Q:Prop}
theorem Az(h:P:=by rw[h0];rfl):P:=h
theorem Rv(h:P:=by simp[results,results67,go_sem,u,z1];try rfl):P:=h
theorem Pu(h:P:=by rw[y.cell j,mK,jV,jV,fD (by rw[rM];exact h)];simp[dY,bv]):P:=h
theorem OE(h:P:=by rw[dc,rM] at hk;rw[Go.WideShapes.add_plain,jW,t.o k (by omega)];simp[dY]):P:=h
theorem OA(h:P:=by rw[show 7-(7-k)=k from by omega] at e1 e2;rw[e1,e2,TM _ _ _ (by omega),TM _ _ _ (by omega)];grind):P:=h
theorem Ny(h:P:=by rw[dc,rM] at l;have p:(⟨((dY g m).map du).toArray⟩:aS)=bs ((dY g m).map du):=rfl;rw[p] at l;obtain⟨d9,k⟩:=ay (bs ((dY g m).map du));rw[k] at l;have a5:=J k;go_wp2;go_returns;exact⟨by rw[u.o,<-a5.o];simp<;>omega,a1.o⟩):P:=h
theorem Of(h:P:=by have u:=k2.cell 0;have z1:=k2.cell 1;simp at u z1;have g:=J hb;clear k1 k2 hb;go_in;go_wp2_with ((with_reducible show bodyPost _ _ _ _ _ _);refine bodyPost_ret (v:=.agg #[(.func (.func 78) #[] #[]),(.func (.func 100) #[] #[])]) (by simp[results,results67,go_sem,u,z1];try rfl) rfl ?_;exact⟨rfl,g.o⟩)):P:=h
end
namespace Wv
open Go.Proofs.Tryz Go Go.RowKit
def iy (A:List Bool) (i:Nat):List Bool:=A.take i++List.replicate (A.length-i) false
theorem M_ (A:List Bool) (i:Nat) (h:i<=A):(iy A i)=A.length:=by unfold iy;grind
theorem Znd (A:List Bool):iy A A.length=A:=by unfold iy;grind
theorem TM (A:List Bool) (i k:Nat) (h:i<=A):(iy A i).getD k false=if k<i then A.getD k false else false:=by unfold iy;grind
theorem Dj (l:List Bool) (j r:Nat) (g:j<(cy l)) (k:r<8):((cy l)[j]).toNat.testBit (7-r)=l.getD (8*j+r) false:=by have h:=XJ l (8*j+r) O;unfold jD at h;have e:(bs (cy l)).data.toList=cy l:=rfl;grind
theorem Zn5 (x s k:Nat) (b:Bool):(x|||b.toNat*2 ^ s).testBit k=(x.testBit k||(b&&decide (k=s))):=aI
theorem ZpN (A:List Bool) (i:Nat) (hi:i<A) (h1:i/8<(cy (iy A i)).length) (l:i/8<(cy (iy A (i+1))).length):
  ((cy (iy A (i+1)))[i/8]).toNat=((cy (iy A i))[i/8]).toNat|||(A[i]).toNat*2 ^ (7-i % 8):=by apply Nat.eq_of_testBit_eq;intro k;rw[Zn5];rcases Nat.lt_or_ge k 8 with g|g;have e1:=Dj (iy A (i+1)) (i/8) (7-k) l O;have e2:=Dj (iy A i) (i/8) (7-k) h1 O;exact OA;have q:=iA (cy (iy A (i+1)))[i/8];have l2:=iA (cy (iy A i))[i/8];have p:256<=2 ^ k:=cp aZ (pT (show 0<2 by omega) g);rw[Nat.testBit_lt_two_pow O,Nat.testBit_lt_two_pow O,cG O];simp
theorem ZpO (A:List Bool) (i j:Nat) (hi:i<A) (l:j≠i/8) (h1:j<(cy (iy A i))) (g:j<(cy (iy A (i+1))).length):(cy (iy A (i+1)))[j]=(cy (iy A i))[j]:=by apply MF;intro k p;have e1:=Dj (iy A (i+1)) j (7-k) g O;have e2:=Dj (iy A i) j (7-k) h1 O;exact OA
theorem ZpP (A:List Bool) (i:Nat) (hi:i<A) (h1:i/8<(cy (iy A i)).length) (x:ci) (k:x.toNat=((cy (iy A i))[i/8]).toNat|||(A[i]).toNat*2 ^ (7-i % 8)):
  (cy (iy A i)).set (i/8) x=cy (iy A (i+1)):=by have l:=lz (iy A i);have l2:=lz (iy A (i+1));rw[M_ _ _ O] at l l2;apply xa;exact aI;intro j a1 a2;rw[List.getElem_set];by_cases g:i/8=j;subst g;rw[aP rfl];apply UInt8.toNat_inj.1;rw[k,ZpN A i hi h1 a2];rw[az g,ZpO A i j hi (λh=>g h.symm) O a2]
theorem Zf9 (n:Nat):cy (List.replicate n false)=List.replicate ((n+7)/8) 0:=by apply xa;rw[lz,iK,iK];intro j h1 l;rw[Nl];apply MF;intro k p;have g:=Dj (List.replicate n false) j (7-k) h1 O;grind
theorem ZpK (g:ci) (b:Bool) (d:Nat) (hd:d<8):∃x:ci,x.toNat=g.toNat|||b.toNat*2 ^ d/\Go.bits .or .u8 (g.toNat:Int) ((b.toNat*2 ^ d:Nat):Int)=(x.toNat:Int):=by
 have h1:(2:Nat) ^ d<=2 ^ 7:=pT O O;have l:b.toNat*2 ^ d<2 ^ 8:=(by cases b<;>simp<;>omega);have p:g.toNat|||b.toNat*2 ^ d<2 ^ 8:=Nat.or_lt_two_pow (iA g) l;have k:(UInt8.ofNat (g.toNat|||b.toNat*2 ^ d)).toNat=g.toNat|||b.toNat*2 ^ d:=by show(g.toNat|||b.toNat*2 ^ d) % 2 ^ 8=_;exact Nat.mod_eq_of_lt p
 refine⟨_,k,?_⟩;rw[k,Go.u8_or_nat _ _ (iA g) O]
theorem ZpQ {d:Nat} (hd:d<8):(2:Int) ^ d % 256=((true.toNat*2 ^ d:Nat):Int):=by have h1:(2:Nat) ^ d<=2 ^ 7:=pT O O;have g:((2 ^ d:Nat):Int)=(2:Int) ^ d:=(by push_cast;rfl);rw[<-g,show true.toNat=1 from rfl,ED];generalize 2 ^ d=q at*;omega
end Wv
namespace Go.Proofs.Y
open Tryz Wv Go.RowKit
theorem U0 (A:List Bool) (d4:A.length<=1099511627776) (w:au):
  Calls prog 93 #[bs (A.map du)] w (bN w (bs (cy A))):=by
 have b4:(bs (A.map du)).size=A:=(by rw[Z0,dc]);have F:Hid (∀(i:Nat) (h:i<A.length) (h2:i<(bs (A.map du)).size),(bs (A.map du))[i]'h2=du (A[i]'h)):=J (λi h h2=>I5);obtain⟨n,l⟩:=ay A.length;obtain⟨M,D⟩:=ay ((n+7)/8);have d5:M<=n+7:=O;have d1:=Y4 (P:=prog) 88 5 (.int .u8 0) 1 underlying88 dE rfl (((n:Int)+7)/8) M O O O w;have b7:∀i,i<=n->(cy (iy A i)).length=M:=λi hi=>(by rw[lz,M_ A i O,l,D]);have b2:(Array.replicate M (.int .u8 0:aJ))=((cy (iy A 0)).map bv).toArray:=by unfold iy;rw[po,pX,Nat.sub_zero,l,Zf9,D,List.map_replicate];rfl
 have a0:=Bk.new w 5 (Array.replicate M (.int .u8 0));have R:=J ((bi w w).alloc aW (.cells (Array.replicate M (.int .u8 0)) 5));generalize w.alloc (.cells (Array.replicate M (.int .u8 0)) 5)=W0 at*;rw[b2] at a0;obtain⟨E,c6,Q⟩:=bF a0 b7 (λi (h1:i<A.length)=>ZpP A i h1);have t:Hid (cy (iy A n)=cy A):=J (by rw[<-l,Znd]);have I:=J l;rw[l] at b4;obtain⟨G,c5⟩:=ay (bs (A.map du));rw[c5] at b4 F⊢;have d6:n<=1099511627776:=O;have b1:=J D;clear b2 a0 b7 l c5 d4 D;go_in;go_wp2;go_loopw [12] (λa8 wr=>∃i:Nat,i<=n/\a8=(i:Int)/\Hid (Bk wr w 5 ((cy (iy A i)).map bv).toArray)/\Hid (Below w w wr)) (λa8 _=>(n-intOf a8).toNat);exact Cz;clear E R d1;obtain⟨i,hi,rfl,k,hb⟩:=hrel;by_cases ab:i<n
 .have a9:i<A.length:=xi;have c7:i<G.size:=O;have c4:=F.o i a9 c7;have b0:((G[i]'c7).toNat:Int)=((du A[i]).toNat:Int):=(by rw[c4]);have u:=c6.o i hi;obtain⟨z,a7⟩:=ay (i/8);obtain⟨m,b9⟩:=ay (i % 8);obtain⟨d,hd⟩:=ay (7-m);have a3:=b1.o;have d9:z<M:=O;have e1:IntKind.i64.wrap ((i:Int)/8)=(z:Int):=pr;have e2:IntKind.i64.wrap ((i:Int) % 8)=(m:Int):=pr;have e3:IntKind.i64.wrap (7-(m:Int))=(d:Int):=pr;have S:=k.o.cell z;have d2:=k.o.frozen z;obtain⟨B,g⟩:=ay ((cy (iy A i))[z]'O);rw[mK,jV,fD O,g] at S;have e4:wr.cell? (w,z)=some (.int .u8 (B.toNat:Int)):=S;have b8:Hid (∀x:ci,x.toNat=B.toNat|||(A[i]).toNat*2 ^ d->Bk (wr.setCell (w,z) (.int .u8 (x.toNat:Int))) w 5 ((cy (iy A (i+1))).map bv).toArray):=J (λx d7=>by have a6:=k.o.put z (bv x);rw[List.setIfInBounds_toArray,<-List.map_set] at a6;have:=Q.o i a9 O x (by simp only[a7];rw[g,b9,hd];exact d7);rw[a7] at this;rw[this] at a6;exact a6);have d3:Hid (∀v,Below w w (wr.setCell (w,z) v)):=J (λv=>hb.o.setCell (p:=⟨w,z,none⟩) aW v);have e8:(0:Int)<=i:=O;have e7:(i:Int)<n:=O;have e5:(i:Int)<G.size:=O;have f2:(0:Int)<=z:=O;have f3:(z:Int)<M:=O;have b3:d<8:=O;have e9:=iA B;have Hd:Hid (7-i % 8=d):=J O;obtain⟨x,c3,b5⟩:=ZpK B A[i] d b3;have q:=J b5;have c8:=J (b8.o x c3);clear c3 b5 b8;clear S c4 u g a7 b9 hd k hb Q t F;generalize A[i]=X at*;clear a9 b1 a3;cases X
  all_goals
   (try rw[show((du false).toNat:Int)=48 from rfl] at b0);(try rw[show((du true).toNat:Int)=49 from rfl] at b0);go_wp2;go_region;clear e1 e2 e3 e4 d2;go_wp2;go_roundw;(try rw[show(false.toNat*2 ^ d:Nat)=0 from by simp] at q);(try rw[<-ZpQ b3] at q);(try rw[Hd.o]);(try rw[show(((0:Nat):Int))=0 from rfl] at q);rw[q.o];exact⟨i+1,ab,ck,J (c8.o.drew),J ((d3.o _).drew)⟩;simp[intOf]<;>omega
 have c9:i=n:=O;subst c9;have y:=k.o;rw[t.o] at y;have u:(cy A)=M:=(by rw[<-t.o];exact c6.o i aW);have a1:=run_convert_bytes_back (P:=prog) wr 88 9 5 ⟨w,0,none⟩ M (cy A) underlying88 underlying5 underlying9 (λj a4=>I2);rw[u] at a1;have b6:(⟨(cy A).toArray⟩:aS)=bs (cy A):=rfl;rw[b6] at a1;obtain⟨e6,a2⟩:=ay (bs (cy A));rw[a2] at a1;have a5:=J a2;clear y u b6 a2 k Q t F;exact Ap
end Go.Proofs.Y
namespace Wv
open Go.Proofs.Tryz Go Go.RowKit
def lI (d:ax) (n:Nat):List Bool×Bool:=if uo d n=false then([],false) else(dY (bs d) (min n (8*d.length)),decide (n<=8*d.length))
def rP (d:ax) (i:Nat):ax:=(dY (bs d) i).map du++List.replicate (8*d.length-i) 0
theorem Zo3 (d:ax) (i:Nat) (h:i<=8*d.length):(rP d i).length=8*d.length:=by unfold rP;rw[bT,dc,rM,iK];omega
theorem Zc2 (s:aS) (i:Nat):dY s (i+1)=dY s i++[jD s i]:=by unfold dY;rw[vU,jv];rfl
theorem Zo4 (d:ax) (i:Nat) (h:i<8*d.length):(rP d i).set i (du (jD (bs d) i))=rP d (i+1):=by
 unfold rP
 rw[Zc2,jv,nz _ _ (by rw[dc,rM];exact aW),dc,rM,fv,
  show 8*d.length-i=(8*d.length-(i+1))+1 by omega,pS,List.set_cons_zero];simp
theorem Zo2 (d:ax):rP d (8*d.length)=(dY (bs d) (8*d.length)).map du:=by unfold rP;rw[fv,List.replicate_zero,fu]
theorem ZlT (b:Bool):(du b).toNat=48+b.toNat:=by cases b<;>rfl
theorem Zo5 (d:ax) (m:Nat) (h:m<=8*d.length):(dY (bs d) (8*d.length)).take m=dY (bs d) m:=by unfold dY;rw[<-Ce,List.take_range,Nat.min_eq_left h]
theorem Zkn (x e:Nat) (k:x<256) (b:Bool) (hb:b.toNat=x/2 ^ e % 2):(48+Go.bits .and .u8 ((x:Int)/2 ^ e) 1) % 256=((du b).toNat:Int):=by have h1:(x:Int)/2 ^ e=((x/2 ^ e:Nat):Int):=(by push_cast;rfl);have g:x/2 ^ e<256:=Nat.lt_of_le_of_lt (IG _ _) k;rw[h1,and1_u8 _ g,<-hb,ZlT];have:b.toNat<=1:=(by cases b<;>simp);omega
end Wv
namespace Go.Proofs.Y
open Tryz Wv Go.RowKit
theorem Su (d:ax) (n:Nat) (hd:d.length<=1000000) (h5:n<=1000000) (w:au):
  Calls prog 95 #[bs d,n] w (bN w (.tuple #[bs ((lI d n).1.map du),.bool (lI d n).2])):=by
 have d1:(bs d).size=d:=Z0 d;have g0:Hid (∀(i:Nat) (h:i<d.length) (a2:i<(bs d).size),(bs d)[i]'a2=d[i]'h):=J (λi h a2=>XV _ i h a2);obtain⟨D,G⟩:=ay d.length;obtain⟨L,M⟩:=ay (8*D);obtain⟨m,d5⟩:=ay (min n L);have g6:=Y4 (P:=prog) 88 5 (.int .u8 0) 1 underlying88 dE rfl (8*(D:Int)) L O O O w;have f5:∀i,i<=L->(rP d i).length=L:=λi hi=>(by rw[Zo3 d i O];omega)
 have e7:(Array.replicate L (.int .u8 0:aJ))=((rP d 0).map bv).toArray:=by
  have:rP d 0=List.replicate L 0:=by unfold rP;rw[show dY (bs d) 0=[] from rfl,List.map_nil,pX,Nat.sub_zero,G,M]
  rw[this,List.map_replicate];simp[bv]
 have c9:=Bk.new w 5 (Array.replicate L (.int .u8 0));have R:=J ((bi w w).alloc aW (.cells (Array.replicate L (.int .u8 0)) 5));generalize w.alloc (.cells (Array.replicate L (.int .u8 0)) 5)=W0 at*;rw[e7] at c9;obtain⟨E,g3,c5⟩:=bF c9 f5 (λi (h1:i<8*d.length)=>Zo4 d i h1);have c7:Hid (rP d L=(dY (bs d) L).map du):=J (by rw[<-M,<-G,Zo2]);have c3:=J (λi (h:i/8<(bs d).size)=>rbit_nat (bs d) i h);have f9:lI d n=if uo d n=false then([],false) else(dY (bs d) m,decide (n<=L)):=by unfold lI;rw[G,M,d5]
 have S:=J (Kq (d:=d) (n:=n));have d2:=J (λh=>Zo5 d m h);rw[G,M] at d2;rw[G,M] at S;have e1:=J G;have a6:=J f9;rw[G] at d1;obtain⟨g,g1⟩:=ay (bs d);rw[g1] at d1 g0 c7 c3 a6 S d2 c5⊢;have f7:D<=1000000:=O;have f8:L<=8000000:=O;have e2:=J M;have e4:=J d5;go_in;go_wp2;go_loopw [16] (λb8 wr=>∃i:Nat,i<=L/\b8=(i:Int)/\Hid (Bk wr w 5 ((rP d i).map bv).toArray)/\Hid (Below w w wr)) (λb8 _=>(L-intOf b8).toNat);exact Cz;obtain⟨i,hi,rfl,a0,hb⟩:=hrel;by_cases ab:i<L;.have b4:=e2.o;have d7:i/8<g.size:=O;have Q:=c3.o i d7;have f3:=g3.o i hi;obtain⟨z,a3⟩:=ay (i/8);obtain⟨b7,c4⟩:=ay (i % 8);have a4:z<g.size:=O;simp only[a3] at Q;have g7:=a0.o.frozen i;have a7:=a0.o.put i (bv (du (jD g i)));rw[List.setIfInBounds_toArray,<-List.map_set,c5.o i (by rw[e1.o];omega)] at a7;have c6:=a0.o.cell i;rw[mK,jV,fD O] at c6;obtain⟨h0,F⟩:∃o,(Option.map bv (some ((rP d i)[i]'O)))=some o:=⟨_,rfl⟩;rw[F] at c6;obtain⟨x,a8⟩:=ay ((g[z]'a4).toNat);have f4:x<256:=(by rw[<-a8];exact iA _);rw[a8,c4] at Q;have g5:((g[z]'a4).toNat:Int)=(x:Int):=(by rw[a8]);obtain⟨e,d4⟩:=ay (7-b7);rw[d4] at Q;have h6:IntKind.i64.wrap ((i:Int)/8)=(z:Int):=pr;have h7:IntKind.i64.wrap ((i:Int) % 8)=(b7:Int):=pr;have h8:IntKind.i64.wrap (7-(b7:Int))=(e:Int):=pr;have Hd:Hid (7-i % 8=e):=J O;have g9:e<8:=O;obtain⟨b,c8⟩:=ay (jD g i);rw[c8] at a7 Q;obtain⟨e3,b0,f6⟩:=bF a7 Q (hb.o.setCell (p:=⟨w,i,none⟩) aW (bv (du b)));have h3:(0:Int)<=i:=O;have g8:(i:Int)<L:=O;have i6:(0:Int)<=z:=O;have i7:(z:Int)<D:=O;clear Q a7 f3 F a8 a3 c4 d4 c8 a0 hb d7 b4;go_wp2;rw[Hd.o,Zkn x e f4 b b0.o];refine⟨⟨i+1,ab,ck,e3,f6⟩,?_⟩;simp[intOf]<;>omega
 have e9:i=L:=O;subst e9;have y:=a0.o;rw[c7.o] at y;have i1:=e4.o;rcases Nat.lt_or_ge m i with e6|e6
 .obtain⟨q,rfl⟩:∃q,i=m+q:=⟨i-m,O⟩;have i2:0<q:=O;have d6:(0:Int)<q:=O;have g2:min (n:Int) ((m:Int)+q)=(m:Int):=O;have b3:m<=n:=O;have b6:Hid (n=m):=J O;have t:Hid (∀j,j<m+q->wr.cell? ⟨w,j,none⟩=some (.int .u8 ((du (jD g j)).toNat:Int))):=J (λj h=>Pu);have a1:=J hb.o;have b2:=J b3;generalize wr=W1 at*;go_wp2;go_loopw [40] (λI W=>∃j:Nat,j<=q/\I=(j:Int)/\Hid (∀k,k<j->jD g (m+k)=false)/\W=W1) (λI _=>(q-intOf I).toNat);exact⟨0,cf _,rfl,J (λk h=>O),rfl⟩;obtain⟨j,h4,rfl,a3,rfl⟩:=hrel;by_cases g4:j<q
  .have d3:=t.o (m+j) O;have h9:(0:Int)<=j:=O;have b9:(j:Int)<q:=O;cases B:jD g (m+j) with
   |true=>
    have b5:lI d n=([],false):=by
     have i0:=b6.o;have:uo d n=false:=by cases d8:uo d n;rfl;have:=S.o.1 d8 (m+j) O O;rw[B] at this;cases this
     rw[a6.o,aP this]
    have a9:=J b5;rw[B,show((du true).toNat:Int)=49 from rfl] at d3;go_wp2;go_returns;exact⟨by rw[a9.o];rfl,a1.o⟩
   |false=>rw[B,show((du false).toNat:Int)=48 from rfl] at d3;have f2:Hid (∀k,k<j+1->jD g (m+k)=false):=J (λk hk=>by rcases Nat.lt_or_ge k j with h|h;exact a3.o k h;rw[show k=j by omega];exact B);go_wp2;refine⟨⟨j+1,g4,ck,f2,(by first|trivial|rfl)⟩,?_⟩;simp[intOf]<;>omega
  have b9:j=q:=O;subst b9;have b1:lI d n=(dY g m,decide (n<=m+j)):=by have:uo d n=true:=S.o.2 (λk h1 a2=>by have:=a3.o (k-m) O;rwa [show m+(k-m)=k by have:=b2.o;omega] at this);rw[a6.o,az (by rw[this];decide)]
  have u:=J b1;have l:=run_convert_bytes_back (P:=prog) wr 88 9 5 ⟨w,0,none⟩ (m+j) ((dY g m).map du) underlying88 underlying5 underlying9 (λk hk=>OE);exact Ny
 have e5:m=i:=O;subst e5;have g2:min (n:Int) (m:Int)=(m:Int):=O;have b3:m<=n:=O;have t:Hid (∀j,j<m->wr.cell? ⟨w,j,none⟩=some (.int .u8 ((du (jD g j)).toNat:Int))):=J (λj h=>Pu);have a1:=J hb.o;have b2:=J b3;generalize wr=W1 at*;go_wp2;go_loopw [40] (λI W=>I=(0:Int)/\W=W1) (λI _=>0);exact⟨rfl,rfl⟩;obtain⟨rfl,rfl⟩:=hrel;have b1:lI d n=(dY g m,decide (n<=m)):=by have:uo d n=true:=S.o.2 (λk h1 a2=>by have:=b2.o;omega);rw[a6.o,az (by rw[this];decide)]
 have u:=J b1;have l:=run_convert_bytes_back (P:=prog) wr 88 9 5 ⟨w,0,none⟩ (m) ((dY g m).map du) underlying88 underlying5 underlying9 (λk hk=>OE);exact Ny
end Go.Proofs.Y
namespace Wv
open Go.Proofs.Tryz Go Go.RowKit
def wn (a b:ax) (n:Nat):ax:=if(lI a n).2=false\/(lI b n).2=false\/(wv (lI a n).1 (lI b n).1).2≠0 then[] else(wv (lI a n).1 (lI b n).1).1
theorem L3 (d:ax) (n:Nat):(lI d n).1<=n:=by unfold lI;split;exact cf _;rw[rM];exact Nat.min_le_left _ _
end Wv
namespace Go.Proofs.Y
open Tryz Wv Go.RowKit
variable{b e:Nat}{s:aS}{w:au}
theorem ZlO (v:ax) (g:fH v=true) (w:au):
  Calls prog 91 #[bs v] w (bN w (bs (cy (ki v)++cy (kh v)))):=by
 have z:=(Zo.1 g).2.2;have l:=J (ZbY v O w);rw[aP g,aP g] at l;have p:=J (λW=>U0 (ki v) (by unfold ki;rw[dc];omega) W);have q:=J (λW=>U0 (kh v) (by unfold kh;rw[dc];omega) W);rw[<-Z8];have y:(bs (cy (ki v))).size+(bs (cy (kh v))).size<=9223372036854775807:=by rw[Z0,Z0,lz,lz];unfold ki kh;rw[dc,dc];omega
 clear z g;generalize bs ((ki v).map du)=A at*;generalize bs ((kh v).map du)=B at*;generalize bs (cy (ki v))=P at*;generalize bs (cy (kh v))=Q at*;generalize bs v=S at*;go_in;go_wp21;refine aO l.o λw1 k=>?_;go_wp21;refine aO (p.o _) λD aa=>?_;have t:=J (k.trans (aa.mono k.size));clear k aa;go_wp21;refine gO (q.o _) t λE u=>?_;go_wp2;(with_reducible show bodyPost _ _ _ _ _ _);refine bodyPost_ret (v:=.string (P++Q)) (by simp[results,results91,go_sem];try rfl) rfl ?_;exact⟨rfl,u.o⟩
theorem ZlP (s:aS) (w:au):Calls prog 98 #[s] w λx w'=>x=.returned (.string ⟨#[]⟩)/\w=w':=by go_in;go_wp2;(first|go_returns|go_ret);exact⟨rfl,rfl⟩
theorem Zd4 (b:Nat) (w:au):Calls prog 99 #[(b,0)] w λx w'=>x=.returned (.string ⟨#[]⟩)/\w=w':=by go_in;go_wp2;(with_reducible show bodyPost _ _ _ _ _ _);refine bodyPost_ret (v:=.string ⟨#[]⟩) (by simp[results,results99,go_sem];try rfl) rfl ?_;exact⟨rfl,rfl⟩
theorem TL (h:RV w b s e) (k:s.size<=1099511627776):
  Calls prog 100 #[(b,0)] w λx w'=>x=.returned (.string (ZC s e 4096).1)/\RV w' b (ZC s e 4096).2.1 (ZC s e 4096).2.2/\Fr (only b) w w':=by have H:=J (ZX h k 4096);clear h k;generalize ZC s e 4096=R at*;obtain⟨t,u,y⟩:=R;go_in;go_wp21;refine aO H.o λw1 ⟨l,g⟩=>?_;have q:=J l;have p:=J g;clear l g;go_wp2;(first|go_returns|go_ret);exact⟨rfl,q.o,p.o⟩
theorem Gj (s:aS) (e Z:Nat):(Zb s e (Z:Nat)).1.size<=Z/\(Zb s e (Z:Nat)).2.1.size<=s.size:=by unfold Zb;split;rw[az O];split;exact⟨cf _,aW⟩;constructor;show(bs _).size<=_;rw[Z0,eC];have:((Z:Nat):Int).toNat=Z:=O;omega;show(bs _).size<=_;rw[Z0,jt,Z2];omega;exact⟨cf _,aW⟩
theorem Zd3 (n:Nat) (h1:1<=n) (e4:n<=128) {b1 b3:Nat} (l:RV w b s e) (c9:s.size<=1099511627776)
  (k1:Bk w b1 68 #[(0:Int),n]) (k3:Bk w b3 3 #[(((n+7)/8:Nat):Int)]):
  Calls prog 94 #[(b,0),(b3,0),(b1,0)] w λx w'=>
   x=.returned (bs (wn (aH (Zb s e ((n+7)/8:Nat)).1) (aH (Zb (Zb s e ((n+7)/8:Nat)).2.1 (Zb s e ((n+7)/8:Nat)).2.2 ((n+7)/8:Nat)).1) n))/\
   RV w' b (Zb (Zb s e ((n+7)/8:Nat)).2.1 (Zb s e ((n+7)/8:Nat)).2.2 ((n+7)/8:Nat)).2.1 (Zb (Zb s e ((n+7)/8:Nat)).2.1 (Zb s e ((n+7)/8:Nat)).2.2 ((n+7)/8:Nat)).2.2/\Fr (only b) w w':=by
 obtain⟨Z,c7⟩:=ay ((n+7)/8);rw[c7] at k3⊢;have n1:b≠b1:=Bk.apart l k1 aZ;have n3:b≠b3:=Bk.apart l k3 aZ;have d5:Z<=16:=O;obtain⟨a7,l2⟩:=Gj s e Z;have z:=J (λW (h:RV W b s e)=>Zr h c9 (Z:Int));obtain⟨⟨a1,s1,y⟩,el⟩:=ay (Zb s e (Z:Nat));rw[el] at z a7 l2⊢;simp only at z a7 l2⊢;have c4:s1.size<=1099511627776:=O;obtain⟨a8,l4⟩:=Gj s1 y Z;have B:=J (λW (h:RV W b s1 y)=>Zr h c4 (Z:Int));obtain⟨⟨a2,e9,e8⟩,cZ⟩:=ay (Zb s1 y (Z:Nat));rw[cZ] at B a8 l4⊢;simp only at B a8 l4⊢;have p:=J (λW=>Su (aH a1) n CF O W);have q:=J (λW=>Su (aH a2) n CF O W);rw[Zd] at p q;have e6:=L3 (aH a1) n;have e7:=L3 (aH a2) n;have g:=J (λW=>Zee (lI (aH a1) n).1 (lI (aH a2) n).1 O O W);unfold wn;obtain⟨⟨A1,d2⟩,hA⟩:=ay (lI (aH a1) n);obtain⟨⟨A2,d3⟩,hB⟩:=ay (lI (aH a2) n);rw[hA,hB];rw[hA] at p g;rw[hB] at q g;simp only at p q g⊢;obtain⟨⟨V,a5⟩,hV⟩:=ay (wv A1 A2);rw[hV] at g⊢;simp only at g⊢;generalize bs (A1.map du)=T1 at*;generalize bs (A2.map du)=T2 at*;have G:Hid (Bk w b1 68 #[(0:Int),n]/\Bk w b3 3 #[Z]/\RV w b s e):=J ⟨k1,k3,l⟩;have F:Hid (∀W W' s e,Bk W b1 68 #[(0:Int),n]/\Bk W b3 3 #[Z]->Fr (only b) W W'->RV W' b s e->(Bk W' b1 68 #[(0:Int),n]/\Bk W' b3 3 #[Z]/\RV W' b s e)):=J (λW W' s e h c8 l=>⟨Bk.fr h.1 c8 (λh=>n1 h.symm),Bk.fr h.2 c8 (λh=>n3 h.symm),l⟩);have u:Hid (∀W W' s e,(Bk W b1 68 #[(0:Int),n]/\Bk W b3 3 #[Z]/\RV W b s e)->Below W.heap.size W W'->(Bk W' b1 68 #[(0:Int),n]/\Bk W' b3 3 #[Z]/\RV W' b s e)):=J (λW W' s e h hb=>⟨Bk.below h.1 hb h.1.lt,Bk.below h.2.1 hb h.2.1.lt,Bk.below h.2.2 hb (Bk.lt h.2.2)⟩);have k:Hid (∀W s e,(Bk W b1 68 #[(0:Int),n]/\Bk W b3 3 #[Z]/\RV W b s e)->(W.cell? (b3,0)=some (.int .i64 (Z:Int))/\W.cell? (b1,1)=some (.int .i64 (n:Int)))):=J (λW s e h=>⟨h.2.1.cell 0,h.1.cell 1⟩);have d4:Hid (Fr (only b) w w):=J (Fr.refl _ _);have d9:w.drew.cell? (b3,0)=Z/\w.drew.cell? (b1,1)=n:=k.o w.drew s e G.o;have D:Hid (Bk w.drew b1 68 #[(0:Int),n]/\Bk w.drew b3 3 #[Z]/\RV w.drew b s e):=J G.o;clear l k1 k3 c9 c4 c7 h1 e4 e6 e7 a7 l2 a8 l4 el cZ hA hB hV d5 n1 n3 G;go_in;go_wp2
 go_region_held3 (λW=>W.cell? (b3,0)=some (.int .i64 (Z:Int))/\W.cell? (b1,1)=some (.int .i64 (n:Int))) (first|with_reducible assumption) (first
  |(go_at_call 96;with_reducible refine(z.o _ D.o.2.2).mono ?_;rintro r w1 ⟨rfl,b6,Q⟩;have M:=F.o _ _ _ _ ⟨D.o.1,D.o.2.1⟩ Q b6;have d8:=k.o _ _ _ M;have d1:=J M;have b8:=J Q;clear b6 Q M)
  |(go_at_call 95;with_reducible refine(p.o _).mono ?_;rintro r t ⟨rfl,aa⟩;have a3:=u.o _ _ _ _ d1.o aa;have b7:=k.o _ _ _ a3;have b0:=J a3;have b9:=J (b8.o.below aa);clear aa a3));clear d9 d8 d4 D d1 b8 z p;have E:Hid (Bk t.drew b1 68 #[(0:Int),n]/\Bk t.drew b3 3 #[Z]/\RV t.drew b s1 y):=J b0.o;have d7:t.drew.cell? (b3,0)=Z/\t.drew.cell? (b1,1)=n:=b7;have b2:=J (b9.o.drew);clear b7 b0 b9;go_wp2
 go_region_held3 (λW=>W.cell? (b3,0)=some (.int .i64 (Z:Int))/\W.cell? (b1,1)=some (.int .i64 (n:Int))) (first|with_reducible assumption) (first
  |(go_at_call 96;with_reducible refine(B.o _ E.o.2.2).mono ?_;rintro r f2 ⟨rfl,c3,R⟩;have a4:=F.o _ _ _ _ ⟨E.o.1,E.o.2.1⟩ R c3;have e3:=k.o _ _ _ a4;have b4:=J a4;have c6:=J (b2.o.trans R);clear c3 R a4)
  |(go_at_call 95;with_reducible refine(q.o _).mono ?_;rintro r f3 ⟨rfl,S⟩;have a9:=u.o _ _ _ _ b4.o S;have e5:=k.o _ _ _ a9;have b5:=J a9;have c5:=J (c6.o.below S);clear S a9));clear d7 e3 E b4 c6 B q F b2;go_wp21;refine aO (g.o _) λf4 a0=>?_;have I:=J (u.o _ _ _ _ b5.o a0).2.2;have a6:=J (c5.o.below a0);clear a0 e5 b5 c5 u k g;by_cases h0:a5=0
 .have e0:((a5:Int) !=0)=false:=Az;have d6:=J h0;clear h0;cases d2<;>cases d3
  case true.true=>
   go_wp2
   all_goals
    (with_reducible show bodyPost _ _ _ _ _ _);refine bodyPost_ret (v:=.string (bs V)) (by simp[results,results94,go_sem];try rfl) rfl ?_;exact⟨by first|rfl|rw[az (by simp[d6.o])],I.o,(Fr.refl (only b) w).drew.trans a6.o⟩
  all_goals
   go_wp2;(first|go_returns|go_ret);exact⟨by simp[bs],I.o,(Fr.refl (only b) w).drew.trans a6.o⟩
 have e0:((a5:Int) !=0)=true:=fb;cases d2<;>cases d3
 all_goals
  go_wp2;(first|go_returns|go_ret);exact⟨by simp[h0,bs],I.o,(Fr.refl (only b) w).drew.trans a6.o⟩
theorem GT (w:au) (o:Obj):(w.alloc o)=w.heap.size+1:=by simp
theorem ZgG (w:au) (t1 k l:TypeId) (c1 c2 g:Array aJ):
  Bk (((w.alloc (.cells c1 t1)).alloc (.cells c2 k)).alloc (.cells g l)) w.heap.size t1 c1/\Bk (((w.alloc (.cells c1 t1)).alloc (.cells c2 k)).alloc (.cells g l)) (w.heap.size+1) k c2/\Bk (((w.alloc (.cells c1 t1)).alloc (.cells c2 k)).alloc (.cells g l)) (w.heap.size+1+1) l g/\
  Below w.heap.size w (((w.alloc (.cells c1 t1)).alloc (.cells c2 k)).alloc (.cells g l)):=by have h1:=((Bk.new w t1 c1).alloc (.cells c2 k)).alloc (.cells g l);have p:=(Bk.new (w.alloc (.cells c1 t1)) k c2).alloc (.cells g l);have q:=Bk.new ((w.alloc (.cells c1 t1)).alloc (.cells c2 k)) l g;rw[GT] at p;rw[GT,GT] at q;exact⟨h1,p,q,(((bi _ _).alloc aW _).alloc (by simp) _).alloc fp _⟩
theorem L2 (w:au) (t1 g:TypeId) (c1 c2:Array aJ):
  Bk ((w.alloc (.cells c1 t1)).alloc (.cells c2 g)) w.heap.size t1 c1/\Bk ((w.alloc (.cells c1 t1)).alloc (.cells c2 g)) (w.heap.size+1) g c2/\
  Below w.heap.size w ((w.alloc (.cells c1 t1)).alloc (.cells c2 g)):=by have h1:=(Bk.new w t1 c1).alloc (.cells c2 g);have k:=Bk.new (w.alloc (.cells c1 t1)) g c2;rw[GT] at k;exact⟨h1,k,((bi _ _).alloc aW _).alloc (by simp) _⟩
theorem RZ (n:Nat) (z:n<=128) (w:au):
  Calls prog 67 #[.agg #[(0:Int),n]] w λx w'=>∃b1 b3,x=.returned (.agg #[.func (.func 91) #[] #[],.func (.func 94) #[] #[.pointer (some ⟨b3,0,none⟩),.pointer (some ⟨b1,0,none⟩)]])/\
   Bk w' b1 68 #[(0:Int),n]/\Bk w' b3 3 #[(((n+7)/8:Nat):Int)]/\Below w w w':=by obtain⟨k1,k2,k3,hb⟩:=ZgG w 68 121 3 #[(0:Int),n] #[.nilFunc,.nilFunc] #[(((n:Int)+7)/8:Int)];have c0:=k2.cell 0;have c1:=k2.cell 1;have f0:=k2.frozen 0;have f1:=k2.frozen 1;simp at c0 c1;obtain⟨W,y⟩:=ay ((((w.alloc (.cells #[(0:Int),n] 68)).alloc (.cells #[.nilFunc,.nilFunc] 121)).alloc (.cells #[(((n:Int)+7)/8:Int)] 3)));rw[y] at k1 k2 k3 hb c0 c1 f0 f1;have g:=(k2.put 0 (.func (.func 91) #[] #[])).put 1 (.func (.func 94) #[] #[.pointer (some ⟨w+1+1,0,none⟩),.pointer (some ⟨w,0,none⟩)]);have u:=g.cell 0;have z1:=g.cell 1;simp at u z1;obtain⟨q,t,l⟩:=bF ((k1.off (p:=⟨w+1,0,none⟩) (by simp) (.func (.func 91) #[] #[])).off (p:=⟨w+1,1,none⟩) (by simp) (.func (.func 94) #[] #[.pointer (some ⟨w+1+1,0,none⟩),.pointer (some ⟨w,0,none⟩)])) ((k3.off (p:=⟨w+1,0,none⟩) (by simp) (.func (.func 91) #[] #[])).off (p:=⟨w+1,1,none⟩) (by simp) (.func (.func 94) #[] #[.pointer (some ⟨w+1+1,0,none⟩),.pointer (some ⟨w,0,none⟩)])) ((hb.setCell (p:=⟨w+1,0,none⟩) (by simp) (.func (.func 91) #[] #[])).setCell (p:=⟨w+1,1,none⟩) (by simp) (.func (.func 94) #[] #[.pointer (some ⟨w+1+1,0,none⟩),.pointer (some ⟨w,0,none⟩)]));have k:(((n+7)/8:Nat):Int)=((n:Int)+7)/8:=O;rw[k];clear g k1 k2 k3 hb k;go_in;go_wp2_with ((with_reducible show bodyPost _ _ _ _ _ _);refine bodyPost_ret (v:=.agg #[.func (.func 91) #[] #[],.func (.func 94) #[] #[.pointer (some ⟨w+1+1,0,none⟩),.pointer (some ⟨w,0,none⟩)]]) Rv rfl ?_;exact⟨_,_,rfl,q.o,t.o,l.o⟩)
theorem RR (n:Int) (w:au):
  Calls prog 67 #[.agg #[(3:Int),n]] w (bN w (.agg #[(.func (.func 98) #[] #[]),(.func (.func 99) #[] #[])])):=by obtain⟨k1,k2,hb⟩:=L2 w 68 121 #[(3:Int),n] #[(.func (.func 98) #[] #[]),(.func (.func 99) #[] #[])];have u:=k2.cell 0;have z1:=k2.cell 1;simp at u z1;have g:=J hb;clear k1 k2 hb;go_in;go_wp2_with ((with_reducible show bodyPost _ _ _ _ _ _);refine bodyPost_ret (v:=.agg #[(.func (.func 98) #[] #[]),(.func (.func 99) #[] #[])]) Rv rfl ?_;exact⟨rfl,g.o⟩)
theorem RM (n:Int) (w:au):
  Calls prog 67 #[.agg #[(1:Int),n]] w (bN w (.agg #[(.func (.func 78) #[] #[]),(.func (.func 100) #[] #[])])):=by obtain⟨k1,k2,hb⟩:=L2 w 68 121 #[(1:Int),n] #[(.func (.func 78) #[] #[]),(.func (.func 100) #[] #[])];exact Of
theorem RQ (n:Int) (w:au):
  Calls prog 67 #[.agg #[(2:Int),n]] w (bN w (.agg #[(.func (.func 78) #[] #[]),(.func (.func 100) #[] #[])])):=by obtain⟨k1,k2,hb⟩:=L2 w 68 121 #[(2:Int),n] #[(.func (.func 78) #[] #[]),(.func (.func 100) #[] #[])];exact Of
end Go.Proofs.Y
namespace Wv
open Go.Proofs.Tryz Go Go.RowKit
theorem ZhC (a b:ax) (n:Nat) (B:1<=n):wn a b n=match re a n,re b n with
 |some x,some y=>lJ x y
 |_,_=>[]:=by
 have key:∀d:ax,(re d n=none/\(lI d n).2=false)\/(∃x,re d n=some x/\x.length=n/\lI d n=(x,true)):=by
  intro d;by_cases D:uo d n=true
  .have u:lI d n=(dY (bs d) (min n (8*d.length)),decide (n<=8*d.length)):=by unfold lI;grind
   by_cases z:n<=8*d.length;right;refine⟨dY (bs d) n,?_,by rw[rM],?_⟩;unfold re;grind;grind;left;refine⟨?_,?_⟩;unfold re;grind;grind
  left;have t:uo d n=false:=aI;refine⟨?_,?_⟩;unfold re;grind;unfold lI;grind
 unfold wn;rcases key a with ⟨h1,g⟩|⟨x,h1,g,k⟩;exact aI;rcases key b with ⟨k1,k2⟩|⟨y,k1,k2,k3⟩;rw[h1,k1,aP (.inr (.inl k2))];rw[h1,k1,k,k3];have p:x≠[]:=(by intro h;rw[h] at g;simp at g;omega);have q:y≠[]:=(by intro h;rw[h] at k2;simp at k2;omega);have l:wv x y=(lJ x y,0):=by unfold wv;rw[az (λh=>h.elim p q),az O]
 simp only[l];simp
theorem ZcT (a b:ax) (n:Nat):(wn a b n)<=n:=by unfold wn;split;exact aI;have h1:=L3 a n;unfold wv;split;exact aI;split;exact aI;unfold lJ;grind
theorem UT:∀(st:List (Int×Int)) (k:Nat) (h:k<st) (t:ax),rb (st.take (k+1)) t=match rb (st.take k) t with
  |none=>none
  |some (vs,r)=>match jK st[k] r with
   |none=>none
   |some (v,r')=>some (vs++[bs v],r')
 |s::st,0,_,t=>by rfl
 |s::st,k+1,h,t=>by
  have g:k<st:=aI
  show rb (s::st.take (k+1)) t=match rb (s::st.take k) t with
   |none=>none
   |some (vs,r)=>match jK (st[k]'g) r with
    |none=>none
    |some (v,r')=>some (vs++[bs v],r')
  unfold rb;rcases h1:jK s t with _|p;rfl;obtain⟨v,l⟩:=p;simp only;rw[UT st k g l];rcases u:rb (st.take k) l with _|q;rfl;grind
end Wv
namespace Go.Proofs.Y
open Tryz Wv Go.RowKit
def Ca (s:Int×Int) (t:aS) (e:Nat) (v k:aS) (g:Nat):Prop:=
 (e≠0->g≠0)/\(e=0->match jK s (aH t) with
  |none=>g≠0
  |some (x,r)=>v=bs x/\k=bs r/\g=0)/\k.size<=t.size/\v.size<=128+t.size
theorem Z7j {c:Int} (t:aS) (e:Nat):Ca (3,c) t e ⟨#[]⟩ t e:=by refine⟨λh=>h,λh=> ?_,aW,cf _⟩;exact⟨rfl,rfl,h⟩
theorem Zcn {s:aS} {e:Nat} (g:e≠0):ZC s e 4096=(bs [],s,e):=ZcF g 4096
theorem R3 {a c:Int} (z:a=1\/a=2) (t:aS) (e:Nat):Ca (a,c) t e (ZC t e 4096).1 (ZC t e 4096).2.1 (ZC t e 4096).2.2:=by
 have B:jK (a,c) (aH t)=fs (aH t) 4096:=by unfold jK;grind
 by_cases l:e=0;subst l;rcases h:fs (aH t) 4096 with _|p;obtain⟨q,y,k⟩:=Ti (most:=4096) h;have g:ZC t 0 4096=(bs [],t,q):=k;rw[g];refine⟨λh=>absurd rfl h,λ_=> ?_,aW,cf _⟩;grind;obtain⟨x,r⟩:=p;obtain⟨k,u,l2,_⟩:=Sk (most:=4096) h;have g:ZC t 0 4096=(bs x,bs r,0):=k;rw[g];rw[Z2] at u l2;refine⟨λh=>absurd rfl h,λ_=> ?_,by exact l2,CG⟩;grind;rw[Zcn l];exact⟨λh=>h,λh=>absurd h l,aW,cf _⟩
theorem Zaw {n:Nat} (h1:1<=n) (E:n<=128) (t:aS) (e:Nat):Ca (0,(n:Int)) t e
  (bs (wn (aH (Zb t e ((n+7)/8:Nat)).1) (aH (Zb (Zb t e ((n+7)/8:Nat)).2.1 (Zb t e ((n+7)/8:Nat)).2.2 ((n+7)/8:Nat)).1) n))
  (Zb (Zb t e ((n+7)/8:Nat)).2.1 (Zb t e ((n+7)/8:Nat)).2.2 ((n+7)/8:Nat)).2.1 (Zb (Zb t e ((n+7)/8:Nat)).2.1 (Zb t e ((n+7)/8:Nat)).2.2 ((n+7)/8:Nat)).2.2:=by
 obtain⟨Z,z⟩:=ay ((n+7)/8);rw[z];have B:pQ (0,(n:Int))=Z:=by unfold pQ;grind
 have p:(bs (wn (aH (Zb t e (Z:Nat)).1) (aH (Zb (Zb t e (Z:Nat)).2.1 (Zb t e (Z:Nat)).2.2 (Z:Nat)).1) n)).size<=128+t.size:=by rw[Z0];have:=ZcT (aH (Zb t e (Z:Nat)).1) (aH (Zb (Zb t e (Z:Nat)).2.1 (Zb t e (Z:Nat)).2.2 (Z:Nat)).1) n;omega
 have y:(Zb (Zb t e (Z:Nat)).2.1 (Zb t e (Z:Nat)).2.2 (Z:Nat)).2.1.size<=t.size:=by have a1:=(Gj t e Z).2;have a2:=(Gj (Zb t e (Z:Nat)).2.1 (Zb t e (Z:Nat)).2.2 Z).2;omega
 refine⟨λg=> ?_,λg=> ?_,y,p⟩;rw[Xc g,Xc g];exact g;subst g;have l:t=bs (aH t):=(Zd t).symm;obtain⟨x,D⟩:=ay (aH t);rw[D] at l;subst l;rw[Zk];have q:jK (0,(n:Int)) x=if x.length<2*Z then none else some (D5 (0,(n:Int)) x,x.drop (2*Z)):=by unfold jK;grind
 rw[q];by_cases k:x.length<2*Z;rw[aP k];simp only;by_cases u:x<Z;rw[Kp u,Xc (by simp)];simp;rw[Xv O,Kp aI];simp;rw[az k,Xv O,Xv Fu];refine⟨?_,?_,rfl⟩
 .rw[Zk,Zk,ZhC _ _ _ h1];unfold D5;rw[B]
  show _=bs (match re (x.take Z) (n:Int).toNat,re ((x.drop Z).take Z) (n:Int).toNat with
   |some a,some b=>lJ a b
   |_,_=>[])
  rw[ek]
 show bs ((x.drop Z).drop Z)=bs (x.drop (2*Z));rw[rX,show Z+Z=2*Z by omega]
