import Derived.Test.YtikecoijpkmnbaaGreatDoorJ27
set_option linter.all false
set_option maxRecDepth 100000
set_option maxHeartbeats 0
section
variable{P Q:Prop}
theorem d_(h:P:=by simp[results,results42,go_sem,u,z1];try rfl):P:=h
theorem OM(h:P:=by rw[I.cell j,mF,jX,jX,fb (by rw[rM];exact h)];simp[rbits,bv]):P:=h
theorem Oq(h:P:=by rw[Vah,rM] at Q;rw[Go.WideShapes.add_plain,jK,t.o k (by omega)];simp[rbits]):P:=h
theorem Pd(h:P:=by rw[show 7-(7-k)=k from by omega] at e1 e2;rw[e1,e2,Z5y _ _ _ (by omega),Z5y _ _ _ (by omega)];grind):P:=h
theorem Ob(h:P:=by rw[Vah,rM] at l;have p:(⟨((rbits g m).map chB).toArray⟩:aT)=bs ((rbits g m).map chB):=rfl;rw[p] at l;obtain⟨e1,k⟩:=ay (bs ((rbits g m).map chB));rw[k] at l;have a6:=J k;go_wp2;go_returns;exact⟨by rw[u.o,<-a6.o];simp<;>omega,a3.o⟩):P:=h
theorem OA(h:P:=by have u:=k2.cell 0;have z1:=k2.cell 1;simp at u z1;have g:=J hb;clear k1 k2 hb;go_in;go_wp2_with ((with_reducible show bodyPost _ _ _ _ _ _);refine bodyPost_ret (v:=.agg #[(.func (.func 75) #[] #[]),(.func (.func 76) #[] #[])]) (by simp[results,results42,go_sem,u,z1];try rfl) rfl ?_;exact⟨rfl,g.o⟩)):P:=h
end
namespace Wv
open Go.Proofs.Tryz Go Go.RowKit
def im (A:List Bool) (i:Nat):List Bool:=A.take i++List.replicate (A.length-i) false
theorem f_ (A:List Bool) (i:Nat) (h:i<=A):(im A i)=A.length:=by unfold im;grind
theorem Zn7 (A:List Bool):im A A.length=A:=by unfold im;grind
theorem Z5y (A:List Bool) (i k:Nat) (h:i<=A):(im A i).getD k false=if k<i then A.getD k false else false:=by unfold im;grind
theorem Z15 (l:List Bool) (j r:Nat) (g:j<(ct l)) (k:r<8):((ct l)[j]).toNat.testBit (7-r)=l.getD (8*j+r) false:=by have h:=XF l (8*j+r) O;unfold jG at h;have e:(bs (ct l)).data.toList=ct l:=rfl;grind
theorem ZmZ (x s k:Nat) (b:Bool):(x|||b.toNat*2 ^ s).testBit k=(x.testBit k||(b&&decide (k=s))):=aO
theorem ZpD (A:List Bool) (i:Nat) (hi:i<A) (h1:i/8<(ct (im A i)).length) (l:i/8<(ct (im A (i+1))).length):
  ((ct (im A (i+1)))[i/8]).toNat=((ct (im A i))[i/8]).toNat|||(A[i]).toNat*2 ^ (7-i % 8):=by apply Nat.eq_of_testBit_eq;intro k;rw[ZmZ];rcases Nat.lt_or_ge k 8 with g|g;have e1:=Z15 (im A (i+1)) (i/8) (7-k) l O;have e2:=Z15 (im A i) (i/8) (7-k) h1 O;exact Pd;have q:=iq (ct (im A (i+1)))[i/8];have l2:=iq (ct (im A i))[i/8];have p:256<=2 ^ k:=co aY (pQ (show 0<2 by omega) g);rw[Nat.testBit_lt_two_pow O,Nat.testBit_lt_two_pow O,Vai O];simp
theorem ZpE (A:List Bool) (i j:Nat) (hi:i<A) (l:j≠i/8) (h1:j<(ct (im A i))) (g:j<(ct (im A (i+1))).length):(ct (im A (i+1)))[j]=(ct (im A i))[j]:=by apply ZlG;intro k p;have e1:=Z15 (im A (i+1)) j (7-k) g O;have e2:=Z15 (im A i) j (7-k) h1 O;exact Pd
theorem ZpF (A:List Bool) (i:Nat) (hi:i<A) (h1:i/8<(ct (im A i)).length) (x:cj) (k:x.toNat=((ct (im A i))[i/8]).toNat|||(A[i]).toNat*2 ^ (7-i % 8)):
  (ct (im A i)).set (i/8) x=ct (im A (i+1)):=by have l:=pack_length (im A i);have l2:=pack_length (im A (i+1));rw[f_ _ _ O] at l l2;apply Vco;exact aO;intro j a1 a2;rw[List.getElem_set];by_cases g:i/8=j;subst g;rw[Vag rfl];apply UInt8.toNat_inj.1;rw[k,ZpD A i hi h1 a2];rw[Vae g,ZpE A i j hi (λh=>g h.symm) O a2]
theorem Zf1 (n:Nat):ct (List.replicate n false)=List.replicate ((n+7)/8) 0:=by apply Vco;rw[pack_length,iE,iE];intro j h1 l;rw[Nb];apply ZlG;intro k p;have g:=Z15 (List.replicate n false) j (7-k) h1 O;grind
theorem ZpA (g:cj) (b:Bool) (d:Nat) (hd:d<8):∃x:cj,x.toNat=g.toNat|||b.toNat*2 ^ d/\Go.bits .or .u8 (g.toNat:Int) ((b.toNat*2 ^ d:Nat):Int)=(x.toNat:Int):=by
 have h1:(2:Nat) ^ d<=2 ^ 7:=pQ O O;have l:b.toNat*2 ^ d<2 ^ 8:=(by cases b<;>simp<;>omega);have p:g.toNat|||b.toNat*2 ^ d<2 ^ 8:=Nat.or_lt_two_pow (iq g) l;have k:(UInt8.ofNat (g.toNat|||b.toNat*2 ^ d)).toNat=g.toNat|||b.toNat*2 ^ d:=by show(g.toNat|||b.toNat*2 ^ d) % 2 ^ 8=_;exact Nat.mod_eq_of_lt p
 refine⟨_,k,?_⟩;rw[k,Go.u8_or_nat _ _ (iq g) O]
theorem ZpG {d:Nat} (hd:d<8):(2:Int) ^ d % 256=((true.toNat*2 ^ d:Nat):Int):=by have h1:(2:Nat) ^ d<=2 ^ 7:=pQ O O;have g:((2 ^ d:Nat):Int)=(2:Int) ^ d:=(by push_cast;rfl);rw[<-g,show true.toNat=1 from rfl,Et];generalize 2 ^ d=q at*;omega
end Wv
namespace Go.Proofs.Y
open Tryz Wv Go.RowKit
theorem Z7m (A:List Bool) (d4:A.length<=1099511627776) (w:aq):
  Calls prog 68 #[bs (A.map chB)] w (bM w (bs (ct A))):=by
 have b4:(bs (A.map chB)).size=A:=(by rw[Z0,Vah]);have E:Hid (∀(i:Nat) (h:i<A.length) (h2:i<(bs (A.map chB)).size),(bs (A.map chB))[i]'h2=chB (A[i]'h)):=J (λi h h2=>Jk);obtain⟨n,l⟩:=ay A.length;obtain⟨M,B⟩:=ay ((n+7)/8);have d5:M<=n+7:=O;have d1:=Y5 (P:=prog) 110 5 (.int .u8 0) 1 underlying110 dw rfl (((n:Int)+7)/8) M O O O w;have b7:∀i,i<=n->(ct (im A i)).length=M:=λi hi=>(by rw[pack_length,f_ A i O,l,B]);have b2:(Array.replicate M (.int .u8 0:aI))=((ct (im A 0)).map bv).toArray:=by unfold im;rw[qA,pU,Nat.sub_zero,l,Zf1,B,List.map_replicate];rfl
 have S:=Bk.new w 5 (Array.replicate M (.int .u8 0));have a5:=J ((bf w w).alloc aU (.cells (Array.replicate M (.int .u8 0)) 5));generalize w.alloc (.cells (Array.replicate M (.int .u8 0)) 5)=W0 at*;rw[b2] at S;obtain⟨R,c6,G⟩:=bD S b7 (λi (h1:i<A.length)=>ZpF A i h1);have t:Hid (ct (im A n)=ct A):=J (by rw[<-l,Zn7]);have a0:=J l;rw[l] at b4;obtain⟨F,c5⟩:=ay (bs (A.map chB));rw[c5] at b4 E⊢;have d6:n<=1099511627776:=O;have b1:=J B;clear b2 S b7 l c5 d4 B;go_in;go_wp2;go_loopw [12] (λa8 wr=>∃i:Nat,i<=n/\a8=(i:Int)/\Hid (Bk wr w 5 ((ct (im A i)).map bv).toArray)/\Hid (Below w w wr)) (λa8 _=>(n-intOf a8).toNat);exact Cq;clear R a5 d1;obtain⟨i,hi,rfl,k,hb⟩:=hrel;by_cases ab:i<n
 .have a9:i<A.length:=xh;have c7:i<F.size:=O;have c4:=E.o i a9 c7;have b0:((F[i]'c7).toNat:Int)=((chB A[i]).toNat:Int):=(by rw[c4]);have u:=c6.o i hi;obtain⟨z,a7⟩:=ay (i/8);obtain⟨m,b9⟩:=ay (i % 8);obtain⟨d,hd⟩:=ay (7-m);have a3:=b1.o;have d9:z<M:=O;have e1:IntKind.i64.wrap ((i:Int)/8)=(z:Int):=pn;have e2:IntKind.i64.wrap ((i:Int) % 8)=(m:Int):=pn;have e3:IntKind.i64.wrap (7-(m:Int))=(d:Int):=pn;have Q:=k.o.cell z;have d2:=k.o.frozen z;obtain⟨y,g⟩:=ay ((ct (im A i))[z]'O);rw[mF,jX,fb O,g] at Q;have e4:wr.cell? (w,z)=some (.int .u8 (y.toNat:Int)):=Q;have b8:Hid (∀x:cj,x.toNat=y.toNat|||(A[i]).toNat*2 ^ d->Bk (wr.setCell (w,z) (.int .u8 (x.toNat:Int))) w 5 ((ct (im A (i+1))).map bv).toArray):=J (λx d7=>by have a4:=k.o.put z (bv x);rw[List.setIfInBounds_toArray,<-List.map_set] at a4;have:=G.o i a9 O x (by simp only[a7];rw[g,b9,hd];exact d7);rw[a7] at this;rw[this] at a4;exact a4);have d3:Hid (∀v,Below w w (wr.setCell (w,z) v)):=J (λv=>hb.o.setCell (p:=⟨w,z,none⟩) aU v);have e8:(0:Int)<=i:=O;have e7:(i:Int)<n:=O;have e5:(i:Int)<F.size:=O;have f3:(0:Int)<=z:=O;have f4:(z:Int)<M:=O;have b3:d<8:=O;have f2:=iq y;have Hd:Hid (7-i % 8=d):=J O;obtain⟨x,c3,b5⟩:=ZpA y A[i] d b3;have q:=J b5;have c8:=J (b8.o x c3);clear c3 b5 b8;clear Q c4 u g a7 b9 hd k hb G t E;generalize A[i]=X at*;clear a9 b1 a3;cases X
  all_goals
   (try rw[show((chB false).toNat:Int)=48 from rfl] at b0);(try rw[show((chB true).toNat:Int)=49 from rfl] at b0);go_wp2;go_region;clear e1 e2 e3 e4 d2;go_wp2;go_roundw;(try rw[show(false.toNat*2 ^ d:Nat)=0 from by simp] at q);(try rw[<-ZpG b3] at q);(try rw[Hd.o]);(try rw[show(((0:Nat):Int))=0 from rfl] at q);rw[q.o];exact⟨i+1,ab,ci,J (c8.o.drew),J ((d3.o _).drew)⟩;simp[intOf]<;>omega
 have c9:i=n:=O;subst c9;have I:=k.o;rw[t.o] at I;have u:(ct A)=M:=(by rw[<-t.o];exact c6.o i aU);have a1:=run_convert_bytes_back (P:=prog) wr 110 9 5 ⟨w,0,none⟩ M (ct A) underlying110 underlying5 underlying9 (λj D=>I1);rw[u] at a1;have b6:(⟨(ct A).toArray⟩:aT)=bs (ct A):=rfl;rw[b6] at a1;obtain⟨e6,a2⟩:=ay (bs (ct A));rw[a2] at a1;have a6:=J a2;clear I u b6 a2 k G t E;exact Al
end Go.Proofs.Y
namespace Wv
open Go.Proofs.Tryz Go Go.RowKit
def lF (d:ax) (n:Nat):List Bool×Bool:=if uj d n=false then([],false) else(rbits (bs d) (min n (8*d.length)),decide (n<=8*d.length))
def rP (d:ax) (i:Nat):ax:=(rbits (bs d) i).map chB++List.replicate (8*d.length-i) 0
theorem ZnX (d:ax) (i:Nat) (h:i<=8*d.length):(rP d i).length=8*d.length:=by unfold rP;rw[Vab,Vah,rM,iE];omega
theorem ZbU (s:aT) (i:Nat):rbits s (i+1)=rbits s i++[jG s i]:=by unfold rbits;rw[vK,jy];rfl
theorem ZnY (d:ax) (i:Nat) (h:i<8*d.length):(rP d i).set i (chB (jG (bs d) i))=rP d (i+1):=by
 unfold rP
 rw[ZbU,jy,nj _ _ (by rw[Vah,rM];exact aU),Vah,rM,fh,
  show 8*d.length-i=(8*d.length-(i+1))+1 by omega,pP,List.set_cons_zero];simp
theorem ZnW (d:ax):rP d (8*d.length)=(rbits (bs d) (8*d.length)).map chB:=by unfold rP;rw[fh,List.replicate_zero,fg]
theorem ZlO (b:Bool):(chB b).toNat=48+b.toNat:=by cases b<;>rfl
theorem ZnZ (d:ax) (m:Nat) (h:m<=8*d.length):(rbits (bs d) (8*d.length)).take m=rbits (bs d) m:=by unfold rbits;rw[<-B',List.take_range,Nat.min_eq_left h]
theorem Zkf (x e:Nat) (k:x<256) (b:Bool) (hb:b.toNat=x/2 ^ e % 2):(48+Go.bits .and .u8 ((x:Int)/2 ^ e) 1) % 256=((chB b).toNat:Int):=by have h1:(x:Int)/2 ^ e=((x/2 ^ e:Nat):Int):=(by push_cast;rfl);have g:x/2 ^ e<256:=Nat.lt_of_le_of_lt (IE _ _) k;rw[h1,and1_u8 _ g,<-hb,ZlO];have:b.toNat<=1:=(by cases b<;>simp);omega
end Wv
namespace Go.Proofs.Y
open Tryz Wv Go.RowKit
theorem R3 (d:ax) (n:Nat) (hd:d.length<=1000000) (h7:n<=1000000) (w:aq):
  Calls prog 70 #[bs d,n] w (bM w (.tuple #[bs ((lF d n).1.map chB),.bool (lF d n).2])):=by
 have d2:(bs d).size=d:=Z0 d;have g0:Hid (∀(i:Nat) (h:i<d.length) (a1:i<(bs d).size),(bs d)[i]'a1=d[i]'h):=J (λi h a1=>XQ _ i h a1);obtain⟨D,E⟩:=ay d.length;obtain⟨L,G⟩:=ay (8*D);obtain⟨m,d6⟩:=ay (min n L);have g7:=Y5 (P:=prog) 110 5 (.int .u8 0) 1 underlying110 dw rfl (8*(D:Int)) L O O O w;have f6:∀i,i<=L->(rP d i).length=L:=λi hi=>(by rw[ZnX d i O];omega)
 have e7:(Array.replicate L (.int .u8 0:aI))=((rP d 0).map bv).toArray:=by
  have:rP d 0=List.replicate L 0:=by unfold rP;rw[show rbits (bs d) 0=[] from rfl,List.map_nil,pU,Nat.sub_zero,E,G]
  rw[this,List.map_replicate];simp[bv]
 have d1:=Bk.new w 5 (Array.replicate L (.int .u8 0));have a5:=J ((bf w w).alloc aU (.cells (Array.replicate L (.int .u8 0)) 5));generalize w.alloc (.cells (Array.replicate L (.int .u8 0)) 5)=W0 at*;rw[e7] at d1;obtain⟨R,g3,c7⟩:=bD d1 f6 (λi (h1:i<8*d.length)=>ZnY d i h1);have c9:Hid (rP d L=(rbits (bs d) L).map chB):=J (by rw[<-G,<-E,ZnW]);have c5:=J (λi (h:i/8<(bs d).size)=>rbit_nat (bs d) i h);have f9:lF d n=if uj d n=false then([],false) else(rbits (bs d) m,decide (n<=L)):=by unfold lF;rw[E,G,d6]
 have S:=J (Kh (d:=d) (n:=n));have d3:=J (λh=>ZnZ d m h);rw[E,G] at d3;rw[E,G] at S;have e2:=J E;have a8:=J f9;rw[E] at d2;obtain⟨g,g1⟩:=ay (bs d);rw[g1] at d2 g0 c9 c5 a8 S d3 c7⊢;have g6:D<=1000000:=O;have f8:L<=8000000:=O;have e3:=J G;have e5:=J d6;go_in;go_wp2;go_loopw [16] (λc3 wr=>∃i:Nat,i<=L/\c3=(i:Int)/\Hid (Bk wr w 5 ((rP d i).map bv).toArray)/\Hid (Below w w wr)) (λc3 _=>(L-intOf c3).toNat);exact Cq;obtain⟨i,hi,rfl,a0,hb⟩:=hrel;by_cases ab:i<L;.have b6:=e3.o;have d8:i/8<g.size:=O;have M:=c5.o i d8;have f5:=g3.o i hi;obtain⟨z,a4⟩:=ay (i/8);obtain⟨b9,a2⟩:=ay (i % 8);have a7:z<g.size:=O;simp only[a4] at M;have g8:=a0.o.frozen i;have a9:=a0.o.put i (bv (chB (jG g i)));rw[List.setIfInBounds_toArray,<-List.map_set,c7.o i (by rw[e2.o];omega)] at a9;have c8:=a0.o.cell i;rw[mF,jX,fb O] at c8;obtain⟨h3,B⟩:∃o,(Option.map bv (some ((rP d i)[i]'O)))=some o:=⟨_,rfl⟩;rw[B] at c8;obtain⟨x,b0⟩:=ay ((g[z]'a7).toNat);have f4:x<256:=(by rw[<-b0];exact iq _);rw[b0,a2] at M;have g5:((g[z]'a7).toNat:Int)=(x:Int):=(by rw[b0]);obtain⟨e,d5⟩:=ay (7-b9);rw[d5] at M;have h8:IntKind.i64.wrap ((i:Int)/8)=(z:Int):=pn;have h9:IntKind.i64.wrap ((i:Int) % 8)=(b9:Int):=pn;have i0:IntKind.i64.wrap (7-(b9:Int))=(e:Int):=pn;have Hd:Hid (7-i % 8=e):=J O;have h0:e<8:=O;obtain⟨b,c6⟩:=ay (jG g i);rw[c6] at a9 M;obtain⟨e4,b2,f7⟩:=bD a9 M (hb.o.setCell (p:=⟨w,i,none⟩) aU (bv (chB b)));have h4:(0:Int)<=i:=O;have g9:(i:Int)<L:=O;have i7:(0:Int)<=z:=O;have i8:(z:Int)<D:=O;clear M a9 f5 B b0 a4 a2 d5 c6 a0 hb d8 b6;go_wp2;rw[Hd.o,Zkf x e f4 b b2.o];refine⟨⟨i+1,ab,ci,e4,f7⟩,?_⟩;simp[intOf]<;>omega
 have f2:i=L:=O;subst f2;have I:=a0.o;rw[c9.o] at I;have i2:=e5.o;rcases Nat.lt_or_ge m i with hmi|hmi
 .obtain⟨q,rfl⟩:∃q,i=m+q:=⟨i-m,O⟩;have i6:0<q:=O;have d7:(0:Int)<q:=O;have g2:min (n:Int) ((m:Int)+q)=(m:Int):=O;have b5:m<=n:=O;have b8:Hid (n=m):=J O;have t:Hid (∀j,j<m+q->wr.cell? ⟨w,j,none⟩=some (.int .u8 ((chB (jG g j)).toNat:Int))):=J (λj h=>OM);have a3:=J hb.o;have b4:=J b5;generalize wr=W1 at*;go_wp2;go_loopw [40] (λF W=>∃j:Nat,j<=q/\F=(j:Int)/\Hid (∀k,k<j->jG g (m+k)=false)/\W=W1) (λF _=>(q-intOf F).toNat);exact⟨0,cf _,rfl,J (λk h=>O),rfl⟩;obtain⟨j,h6,rfl,a4,rfl⟩:=hrel;by_cases g4:j<q
  .have d4:=t.o (m+j) O;have h5:(0:Int)<=j:=O;have c4:(j:Int)<q:=O;cases y:jG g (m+j) with
   |true=>
    have b7:lF d n=([],false):=by
     have i1:=b8.o;have:uj d n=false:=by cases d9:uj d n;rfl;have:=S.o.1 d9 (m+j) O O;rw[y] at this;cases this
     rw[a8.o,Vag this]
    have b1:=J b7;rw[y,show((chB true).toNat:Int)=49 from rfl] at d4;go_wp2;go_returns;exact⟨by rw[b1.o];rfl,a3.o⟩
   |false=>rw[y,show((chB false).toNat:Int)=48 from rfl] at d4;have f3:Hid (∀k,k<j+1->jG g (m+k)=false):=J (λk Q=>by rcases Nat.lt_or_ge k j with h|h;exact a4.o k h;rw[show k=j by omega];exact y);go_wp2;refine⟨⟨j+1,g4,ci,f3,(by first|trivial|rfl)⟩,?_⟩;simp[intOf]<;>omega
  have c4:j=q:=O;subst c4;have b3:lF d n=(rbits g m,decide (n<=m+j)):=by have:uj d n=true:=S.o.2 (λk h1 a1=>by have:=a4.o (k-m) O;rwa [show m+(k-m)=k by have:=b4.o;omega] at this);rw[a8.o,Vae (by rw[this];decide)]
  have u:=J b3;have l:=run_convert_bytes_back (P:=prog) wr 110 9 5 ⟨w,0,none⟩ (m+j) ((rbits g m).map chB) underlying110 underlying5 underlying9 (λk Q=>Oq);exact Ob
 have e6:m=i:=O;subst e6;have g2:min (n:Int) (m:Int)=(m:Int):=O;have b5:m<=n:=O;have t:Hid (∀j,j<m->wr.cell? ⟨w,j,none⟩=some (.int .u8 ((chB (jG g j)).toNat:Int))):=J (λj h=>OM);have a3:=J hb.o;have b4:=J b5;generalize wr=W1 at*;go_wp2;go_loopw [40] (λF W=>F=(0:Int)/\W=W1) (λF _=>0);exact⟨rfl,rfl⟩;obtain⟨rfl,rfl⟩:=hrel;have b3:lF d n=(rbits g m,decide (n<=m)):=by have:uj d n=true:=S.o.2 (λk h1 a1=>by have:=b4.o;omega);rw[a8.o,Vae (by rw[this];decide)]
 have u:=J b3;have l:=run_convert_bytes_back (P:=prog) wr 110 9 5 ⟨w,0,none⟩ (m) ((rbits g m).map chB) underlying110 underlying5 underlying9 (λk Q=>Oq);exact Ob
end Go.Proofs.Y
namespace Wv
open Go.Proofs.Tryz Go Go.RowKit
def wg (a b:ax) (n:Nat):ax:=if(lF a n).2=false\/(lF b n).2=false\/(wk (lF a n).1 (lF b n).1).2≠0 then[] else(wk (lF a n).1 (lF b n).1).1
theorem LM (d:ax) (n:Nat):(lF d n).1<=n:=by unfold lF;split;exact cf _;rw[rM];exact Nat.min_le_left _ _
end Wv
namespace Go.Proofs.Y
open Tryz Wv Go.RowKit
variable{b e:Nat}{s:aT}{w:aq}
theorem ZlJ (v:ax) (g:isV v=true) (w:aq):
  Calls prog 66 #[bs v] w (bM w (bs (ct (kA v)++ct (kz v)))):=by
 have z:=(Zp.1 g).2.2;have l:=J (ZbP v O w);rw[Vag g,Vag g] at l;have p:=J (λW=>Z7m (kA v) (by unfold kA;rw[Vah];omega) W);have q:=J (λW=>Z7m (kz v) (by unfold kz;rw[Vah];omega) W);rw[<-Z9];have y:(bs (ct (kA v))).size+(bs (ct (kz v))).size<=9223372036854775807:=by rw[Z0,Z0,pack_length,pack_length];unfold kA kz;rw[Vah,Vah];omega
 clear z g;generalize bs ((kA v).map chB)=A at*;generalize bs ((kz v).map chB)=B at*;generalize bs (ct (kA v))=P at*;generalize bs (ct (kz v))=Q at*;generalize bs v=S at*;go_in;go_wp21;refine aP l.o λw1 k=>?_;go_wp21;refine aP (p.o _) λD aa=>?_;have t:=J (k.trans (aa.mono k.size));clear k aa;go_wp21;refine ij (q.o _) t λE u=>?_;go_wp2;(with_reducible show bodyPost _ _ _ _ _ _);refine bodyPost_ret (v:=.string (P++Q)) (by simp[results,results66,go_sem];try rfl) rfl ?_;exact⟨rfl,u.o⟩
theorem ZlK (s:aT) (w:aq):Calls prog 73 #[s] w λx w'=>x=.returned (.string ⟨#[]⟩)/\w=w':=by go_in;go_wp2;(first|go_returns|go_ret);exact⟨rfl,rfl⟩
theorem ZcU (b:Nat) (w:aq):Calls prog 74 #[(b,0)] w λx w'=>x=.returned (.string ⟨#[]⟩)/\w=w':=by go_in;go_wp2;(with_reducible show bodyPost _ _ _ _ _ _);refine bodyPost_ret (v:=.string ⟨#[]⟩) (by simp[results,results74,go_sem];try rfl) rfl ?_;exact⟨rfl,rfl⟩
theorem SK (h:RV w b s e) (k:s.size<=1099511627776):
  Calls prog 76 #[(b,0)] w λx w'=>x=.returned (.string (ZB s e 4096).1)/\RV w' b (ZB s e 4096).2.1 (ZB s e 4096).2.2/\Fr (only b) w w':=by have H:=J (ZY h k 4096);clear h k;generalize ZB s e 4096=R at*;obtain⟨t,u,y⟩:=R;go_in;go_wp21;refine aP H.o λw1 ⟨l,g⟩=>?_;have q:=J l;have p:=J g;clear l g;go_wp2;(first|go_returns|go_ret);exact⟨rfl,q.o,p.o⟩
theorem F5 (s:aT) (e Z:Nat):(Zb s e (Z:Nat)).1.size<=Z/\(Zb s e (Z:Nat)).2.1.size<=s.size:=by unfold Zb;split;rw[Vae O];split;exact⟨cf _,aU⟩;constructor;show(bs _).size<=_;rw[Z0,ek];have:((Z:Nat):Int).toNat=Z:=O;omega;show(bs _).size<=_;rw[Z0,iW,Z2];omega;exact⟨cf _,aU⟩
theorem ZcT (n:Nat) (h1:1<=n) (e3:n<=128) {b1 b3:Nat} (l:RV w b s e) (c7:s.size<=1099511627776)
  (k1:Bk w b1 57 #[(0:Int),n]) (k3:Bk w b3 3 #[(((n+7)/8:Nat):Int)]):
  Calls prog 69 #[(b,0),(b3,0),(b1,0)] w λx w'=>
   x=.returned (bs (wg (aH (Zb s e ((n+7)/8:Nat)).1) (aH (Zb (Zb s e ((n+7)/8:Nat)).2.1 (Zb s e ((n+7)/8:Nat)).2.2 ((n+7)/8:Nat)).1) n))/\
   RV w' b (Zb (Zb s e ((n+7)/8:Nat)).2.1 (Zb s e ((n+7)/8:Nat)).2.2 ((n+7)/8:Nat)).2.1 (Zb (Zb s e ((n+7)/8:Nat)).2.1 (Zb s e ((n+7)/8:Nat)).2.2 ((n+7)/8:Nat)).2.2/\Fr (only b) w w':=by
 obtain⟨Z,c5⟩:=ay ((n+7)/8);rw[c5] at k3⊢;have n1:b≠b1:=Bk.apart l k1 aY;have n3:b≠b3:=Bk.apart l k3 aY;have d4:Z<=16:=O;obtain⟨a7,l2⟩:=F5 s e Z;have z:=J (λW (h:RV W b s e)=>Zr h c7 (Z:Int));obtain⟨⟨a1,s1,y⟩,eu⟩:=ay (Zb s e (Z:Nat));rw[eu] at z a7 l2⊢;simp only at z a7 l2⊢;have b7:s1.size<=1099511627776:=O;obtain⟨a8,l4⟩:=F5 s1 y Z;have B:=J (λW (h:RV W b s1 y)=>Zr h b7 (Z:Int));obtain⟨⟨a2,e8,e7⟩,cZ⟩:=ay (Zb s1 y (Z:Nat));rw[cZ] at B a8 l4⊢;simp only at B a8 l4⊢;have p:=J (λW=>R3 (aH a1) n Cu O W);have q:=J (λW=>R3 (aH a2) n Cu O W);rw[Zc] at p q;have e5:=LM (aH a1) n;have e6:=LM (aH a2) n;have g:=J (λW=>Ze5 (lF (aH a1) n).1 (lF (aH a2) n).1 O O W);unfold wg;obtain⟨⟨A1,d1⟩,hA⟩:=ay (lF (aH a1) n);obtain⟨⟨A2,d2⟩,hB⟩:=ay (lF (aH a2) n);rw[hA,hB];rw[hA] at p g;rw[hB] at q g;simp only at p q g⊢;obtain⟨⟨V,a5⟩,hV⟩:=ay (wk A1 A2);rw[hV] at g⊢;simp only at g⊢;generalize bs (A1.map chB)=T1 at*;generalize bs (A2.map chB)=T2 at*;have I:Hid (Bk w b1 57 #[(0:Int),n]/\Bk w b3 3 #[Z]/\RV w b s e):=J ⟨k1,k3,l⟩;have G:Hid (∀W W' s e,Bk W b1 57 #[(0:Int),n]/\Bk W b3 3 #[Z]->Fr (only b) W W'->RV W' b s e->(Bk W' b1 57 #[(0:Int),n]/\Bk W' b3 3 #[Z]/\RV W' b s e)):=J (λW W' s e h c6 l=>⟨Bk.fr h.1 c6 (λh=>n1 h.symm),Bk.fr h.2 c6 (λh=>n3 h.symm),l⟩);have u:Hid (∀W W' s e,(Bk W b1 57 #[(0:Int),n]/\Bk W b3 3 #[Z]/\RV W b s e)->Below W.heap.size W W'->(Bk W' b1 57 #[(0:Int),n]/\Bk W' b3 3 #[Z]/\RV W' b s e)):=J (λW W' s e h hb=>⟨Bk.below h.1 hb h.1.lt,Bk.below h.2.1 hb h.2.1.lt,Bk.below h.2.2 hb (Bk.lt h.2.2)⟩);have k:Hid (∀W s e,(Bk W b1 57 #[(0:Int),n]/\Bk W b3 3 #[Z]/\RV W b s e)->(W.cell? (b3,0)=some (.int .i64 (Z:Int))/\W.cell? (b1,1)=some (.int .i64 (n:Int)))):=J (λW s e h=>⟨h.2.1.cell 0,h.1.cell 1⟩);have d3:Hid (Fr (only b) w w):=J (Fr.refl _ _);have d8:w.drew.cell? (b3,0)=Z/\w.drew.cell? (b1,1)=n:=k.o w.drew s e I.o;have D:Hid (Bk w.drew b1 57 #[(0:Int),n]/\Bk w.drew b3 3 #[Z]/\RV w.drew b s e):=J I.o;clear l k1 k3 c7 b7 c5 h1 e3 e5 e6 a7 l2 a8 l4 eu cZ hA hB hV d4 n1 n3 I;go_in;go_wp2
 go_region_held3 (λW=>W.cell? (b3,0)=some (.int .i64 (Z:Int))/\W.cell? (b1,1)=some (.int .i64 (n:Int))) (first|with_reducible assumption) (first
  |(go_at_call 71;with_reducible refine(z.o _ D.o.2.2).mono ?_;rintro r w1 ⟨rfl,b5,S⟩;have R:=G.o _ _ _ _ ⟨D.o.1,D.o.2.1⟩ S b5;have d7:=k.o _ _ _ R;have c9:=J R;have c3:=J S;clear b5 S R)
  |(go_at_call 70;with_reducible refine(p.o _).mono ?_;rintro r t ⟨rfl,aa⟩;have a3:=u.o _ _ _ _ c9.o aa;have b6:=k.o _ _ _ a3;have a9:=J a3;have b8:=J (c3.o.below aa);clear aa a3));clear d8 d7 d3 D c9 c3 z p;have E:Hid (Bk t.drew b1 57 #[(0:Int),n]/\Bk t.drew b3 3 #[Z]/\RV t.drew b s1 y):=J a9.o;have d6:t.drew.cell? (b3,0)=Z/\t.drew.cell? (b1,1)=n:=b6;have b0:=J (b8.o.drew);clear b6 a9 b8;go_wp2
 go_region_held3 (λW=>W.cell? (b3,0)=some (.int .i64 (Z:Int))/\W.cell? (b1,1)=some (.int .i64 (n:Int))) (first|with_reducible assumption) (first
  |(go_at_call 71;with_reducible refine(B.o _ E.o.2.2).mono ?_;rintro r e9 ⟨rfl,b9,a0⟩;have a4:=G.o _ _ _ _ ⟨E.o.1,E.o.2.1⟩ a0 b9;have d9:=k.o _ _ _ a4;have b2:=J a4;have c8:=J (b0.o.trans a0);clear b9 a0 a4)
  |(go_at_call 70;with_reducible refine(q.o _).mono ?_;rintro r f2 ⟨rfl,an⟩;have F:=u.o _ _ _ _ b2.o an;have e4:=k.o _ _ _ F;have b4:=J F;have c4:=J (c8.o.below an);clear an F));clear d6 d9 E b2 c8 B q G b0;go_wp21;refine aP (g.o _) λf3 Q=>?_;have M:=J (u.o _ _ _ _ b4.o Q).2.2;have a6:=J (c4.o.below Q);clear Q e4 b4 c4 u k g;by_cases h0:a5=0
 .have e0:((a5:Int) !=0)=false:=(by rw[h0];rfl);have d5:=J h0;clear h0;cases d1<;>cases d2
  case true.true=>
   go_wp2
   all_goals
    (with_reducible show bodyPost _ _ _ _ _ _);refine bodyPost_ret (v:=.string (bs V)) (by simp[results,results69,go_sem];try rfl) rfl ?_;exact⟨by first|rfl|rw[Vae (by simp[d5.o])],M.o,(Fr.refl (only b) w).drew.trans a6.o⟩
  all_goals
   go_wp2;(first|go_returns|go_ret);exact⟨by simp[bs],M.o,(Fr.refl (only b) w).drew.trans a6.o⟩
 have e0:((a5:Int) !=0)=true:=eV;cases d1<;>cases d2
 all_goals
  go_wp2;(first|go_returns|go_ret);exact⟨by simp[h0,bs],M.o,(Fr.refl (only b) w).drew.trans a6.o⟩
theorem GF (w:aq) (o:Obj):(w.alloc o)=w.heap.size+1:=by simp
theorem ZgB (w:aq) (t1 k l:TypeId) (c1 c2 g:Array aI):
  Bk (((w.alloc (.cells c1 t1)).alloc (.cells c2 k)).alloc (.cells g l)) w.heap.size t1 c1/\Bk (((w.alloc (.cells c1 t1)).alloc (.cells c2 k)).alloc (.cells g l)) (w.heap.size+1) k c2/\Bk (((w.alloc (.cells c1 t1)).alloc (.cells c2 k)).alloc (.cells g l)) (w.heap.size+1+1) l g/\
  Below w.heap.size w (((w.alloc (.cells c1 t1)).alloc (.cells c2 k)).alloc (.cells g l)):=by have h1:=((Bk.new w t1 c1).alloc (.cells c2 k)).alloc (.cells g l);have p:=(Bk.new (w.alloc (.cells c1 t1)) k c2).alloc (.cells g l);have q:=Bk.new ((w.alloc (.cells c1 t1)).alloc (.cells c2 k)) l g;rw[GF] at p;rw[GF,GF] at q;exact⟨h1,p,q,(((bf _ _).alloc aU _).alloc (by simp) _).alloc fj _⟩
theorem LL (w:aq) (t1 g:TypeId) (c1 c2:Array aI):
  Bk ((w.alloc (.cells c1 t1)).alloc (.cells c2 g)) w.heap.size t1 c1/\Bk ((w.alloc (.cells c1 t1)).alloc (.cells c2 g)) (w.heap.size+1) g c2/\
  Below w.heap.size w ((w.alloc (.cells c1 t1)).alloc (.cells c2 g)):=by have h1:=(Bk.new w t1 c1).alloc (.cells c2 g);have k:=Bk.new (w.alloc (.cells c1 t1)) g c2;rw[GF] at k;exact⟨h1,k,((bf _ _).alloc aU _).alloc (by simp) _⟩
theorem Rz (n:Nat) (z:n<=128) (w:aq):
  Calls prog 42 #[.agg #[(0:Int),n]] w λx w'=>∃b1 b3,x=.returned (.agg #[.func (.func 66) #[] #[],.func (.func 69) #[] #[.pointer (some ⟨b3,0,none⟩),.pointer (some ⟨b1,0,none⟩)]])/\
   Bk w' b1 57 #[(0:Int),n]/\Bk w' b3 3 #[(((n+7)/8:Nat):Int)]/\Below w w w':=by obtain⟨k1,k2,k3,hb⟩:=ZgB w 57 100 3 #[(0:Int),n] #[.nilFunc,.nilFunc] #[(((n:Int)+7)/8:Int)];have c0:=k2.cell 0;have c1:=k2.cell 1;have f0:=k2.frozen 0;have f1:=k2.frozen 1;simp at c0 c1;obtain⟨W,y⟩:=ay ((((w.alloc (.cells #[(0:Int),n] 57)).alloc (.cells #[.nilFunc,.nilFunc] 100)).alloc (.cells #[(((n:Int)+7)/8:Int)] 3)));rw[y] at k1 k2 k3 hb c0 c1 f0 f1;have g:=(k2.put 0 (.func (.func 66) #[] #[])).put 1 (.func (.func 69) #[] #[.pointer (some ⟨w+1+1,0,none⟩),.pointer (some ⟨w,0,none⟩)]);have u:=g.cell 0;have z1:=g.cell 1;simp at u z1;obtain⟨q,t,l⟩:=bD ((k1.off (p:=⟨w+1,0,none⟩) (by simp) (.func (.func 66) #[] #[])).off (p:=⟨w+1,1,none⟩) (by simp) (.func (.func 69) #[] #[.pointer (some ⟨w+1+1,0,none⟩),.pointer (some ⟨w,0,none⟩)])) ((k3.off (p:=⟨w+1,0,none⟩) (by simp) (.func (.func 66) #[] #[])).off (p:=⟨w+1,1,none⟩) (by simp) (.func (.func 69) #[] #[.pointer (some ⟨w+1+1,0,none⟩),.pointer (some ⟨w,0,none⟩)])) ((hb.setCell (p:=⟨w+1,0,none⟩) (by simp) (.func (.func 66) #[] #[])).setCell (p:=⟨w+1,1,none⟩) (by simp) (.func (.func 69) #[] #[.pointer (some ⟨w+1+1,0,none⟩),.pointer (some ⟨w,0,none⟩)]));have k:(((n+7)/8:Nat):Int)=((n:Int)+7)/8:=O;rw[k];clear g k1 k2 k3 hb k;go_in;go_wp2_with ((with_reducible show bodyPost _ _ _ _ _ _);refine bodyPost_ret (v:=.agg #[.func (.func 66) #[] #[],.func (.func 69) #[] #[.pointer (some ⟨w+1+1,0,none⟩),.pointer (some ⟨w,0,none⟩)]]) d_ rfl ?_;exact⟨_,_,rfl,q.o,t.o,l.o⟩)
theorem RC (n:Int) (w:aq):
  Calls prog 42 #[.agg #[(3:Int),n]] w (bM w (.agg #[(.func (.func 73) #[] #[]),(.func (.func 74) #[] #[])])):=by obtain⟨k1,k2,hb⟩:=LL w 57 100 #[(3:Int),n] #[(.func (.func 73) #[] #[]),(.func (.func 74) #[] #[])];have u:=k2.cell 0;have z1:=k2.cell 1;simp at u z1;have g:=J hb;clear k1 k2 hb;go_in;go_wp2_with ((with_reducible show bodyPost _ _ _ _ _ _);refine bodyPost_ret (v:=.agg #[(.func (.func 73) #[] #[]),(.func (.func 74) #[] #[])]) d_ rfl ?_;exact⟨rfl,g.o⟩)
theorem RA (n:Int) (w:aq):
  Calls prog 42 #[.agg #[(1:Int),n]] w (bM w (.agg #[(.func (.func 75) #[] #[]),(.func (.func 76) #[] #[])])):=by obtain⟨k1,k2,hb⟩:=LL w 57 100 #[(1:Int),n] #[(.func (.func 75) #[] #[]),(.func (.func 76) #[] #[])];exact OA
theorem RB (n:Int) (w:aq):
  Calls prog 42 #[.agg #[(2:Int),n]] w (bM w (.agg #[(.func (.func 75) #[] #[]),(.func (.func 76) #[] #[])])):=by obtain⟨k1,k2,hb⟩:=LL w 57 100 #[(2:Int),n] #[(.func (.func 75) #[] #[]),(.func (.func 76) #[] #[])];exact OA
end Go.Proofs.Y
namespace Wv
open Go.Proofs.Tryz Go Go.RowKit
theorem Zhv (a b:ax) (n:Nat) (B:1<=n):wg a b n=match re a n,re b n with
 |some x,some y=>lH x y
 |_,_=>[]:=by
 have key:∀d:ax,(re d n=none/\(lF d n).2=false)\/(∃x,re d n=some x/\x.length=n/\lF d n=(x,true)):=by
  intro d;by_cases D:uj d n=true
  .have u:lF d n=(rbits (bs d) (min n (8*d.length)),decide (n<=8*d.length)):=by unfold lF;grind
   by_cases z:n<=8*d.length;right;refine⟨rbits (bs d) n,?_,by rw[rM],?_⟩;unfold re;grind;grind;left;refine⟨?_,?_⟩;unfold re;grind;grind
  left;have t:uj d n=false:=aO;refine⟨?_,?_⟩;unfold re;grind;unfold lF;grind
 unfold wg;rcases key a with ⟨h1,g⟩|⟨x,h1,g,k⟩;exact aO;rcases key b with ⟨k1,k2⟩|⟨y,k1,k2,k3⟩;rw[h1,k1,Vag (.inr (.inl k2))];rw[h1,k1,k,k3];have p:x≠[]:=(by intro h;rw[h] at g;simp at g;omega);have q:y≠[]:=(by intro h;rw[h] at k2;simp at k2;omega);have l:wk x y=(lH x y,0):=by unfold wk;rw[Vae (λh=>h.elim p q),Vae O]
 simp only[l];simp
theorem ZcJ (a b:ax) (n:Nat):(wg a b n)<=n:=by unfold wg;split;exact aO;have h1:=LM a n;unfold wk;split;exact aO;split;exact aO;unfold lH;grind
theorem UB:∀(st:List (Int×Int)) (k:Nat) (h:k<st) (t:ax),ra (st.take (k+1)) t=match ra (st.take k) t with
  |none=>none
  |some (vs,r)=>match jH st[k] r with
   |none=>none
   |some (v,r')=>some (vs++[bs v],r')
 |s::st,0,_,t=>by rfl
 |s::st,k+1,h,t=>by
  have g:k<st:=aO
  show ra (s::st.take (k+1)) t=match ra (s::st.take k) t with
   |none=>none
   |some (vs,r)=>match jH (st[k]'g) r with
    |none=>none
    |some (v,r')=>some (vs++[bs v],r')
  unfold ra;rcases h1:jH s t with _|p;rfl;obtain⟨v,l⟩:=p;simp only;rw[UB st k g l];rcases u:ra (st.take k) l with _|q;rfl;grind
end Wv
namespace Go.Proofs.Y
open Tryz Wv Go.RowKit
def B5 (s:Int×Int) (t:aT) (e:Nat) (v k:aT) (g:Nat):Prop:=
 (e≠0->g≠0)/\(e=0->match jH s (aH t) with
  |none=>g≠0
  |some (x,r)=>v=bs x/\k=bs r/\g=0)/\k.size<=t.size/\v.size<=128+t.size
theorem Z7c {c:Int} (t:aT) (e:Nat):B5 (3,c) t e ⟨#[]⟩ t e:=by refine⟨λh=>h,λh=> ?_,aU,cf _⟩;exact⟨rfl,rfl,h⟩
theorem Zce {s:aT} {e:Nat} (g:e≠0):ZB s e 4096=(bs [],s,e):=Zcx g 4096
theorem RI {a c:Int} (z:a=1\/a=2) (t:aT) (e:Nat):B5 (a,c) t e (ZB t e 4096).1 (ZB t e 4096).2.1 (ZB t e 4096).2.2:=by
 have B:jH (a,c) (aH t)=fe (aH t) 4096:=by unfold jH;grind
 by_cases l:e=0;subst l;rcases h:fe (aH t) 4096 with _|p;obtain⟨q,y,k⟩:=Ss (most:=4096) h;have g:ZB t 0 4096=(bs [],t,q):=k;rw[g];refine⟨λh=>absurd rfl h,λ_=> ?_,aU,cf _⟩;grind;obtain⟨x,r⟩:=p;obtain⟨k,u,l2,_⟩:=RT (most:=4096) h;have g:ZB t 0 4096=(bs x,bs r,0):=k;rw[g];rw[Z2] at u l2;refine⟨λh=>absurd rfl h,λ_=> ?_,by exact l2,Cv⟩;grind;rw[Zce l];exact⟨λh=>h,λh=>absurd h l,aU,cf _⟩
theorem Zao {n:Nat} (h1:1<=n) (E:n<=128) (t:aT) (e:Nat):B5 (0,(n:Int)) t e
  (bs (wg (aH (Zb t e ((n+7)/8:Nat)).1) (aH (Zb (Zb t e ((n+7)/8:Nat)).2.1 (Zb t e ((n+7)/8:Nat)).2.2 ((n+7)/8:Nat)).1) n))
  (Zb (Zb t e ((n+7)/8:Nat)).2.1 (Zb t e ((n+7)/8:Nat)).2.2 ((n+7)/8:Nat)).2.1 (Zb (Zb t e ((n+7)/8:Nat)).2.1 (Zb t e ((n+7)/8:Nat)).2.2 ((n+7)/8:Nat)).2.2:=by
 obtain⟨Z,z⟩:=ay ((n+7)/8);rw[z];have B:pM (0,(n:Int))=Z:=by unfold pM;grind
 have p:(bs (wg (aH (Zb t e (Z:Nat)).1) (aH (Zb (Zb t e (Z:Nat)).2.1 (Zb t e (Z:Nat)).2.2 (Z:Nat)).1) n)).size<=128+t.size:=by rw[Z0];have:=ZcJ (aH (Zb t e (Z:Nat)).1) (aH (Zb (Zb t e (Z:Nat)).2.1 (Zb t e (Z:Nat)).2.2 (Z:Nat)).1) n;omega
 have y:(Zb (Zb t e (Z:Nat)).2.1 (Zb t e (Z:Nat)).2.2 (Z:Nat)).2.1.size<=t.size:=by have a1:=(F5 t e Z).2;have a2:=(F5 (Zb t e (Z:Nat)).2.1 (Zb t e (Z:Nat)).2.2 Z).2;omega
 refine⟨λg=> ?_,λg=> ?_,y,p⟩;rw[X8 g,X8 g];exact g;subst g;have l:t=bs (aH t):=(Zc t).symm;obtain⟨x,D⟩:=ay (aH t);rw[D] at l;subst l;rw[Zm];have q:jH (0,(n:Int)) x=if x.length<2*Z then none else some (bitV (0,(n:Int)) x,x.drop (2*Z)):=by unfold jH;grind
 rw[q];by_cases k:x.length<2*Z;rw[Vag k];simp only;by_cases u:x<Z;rw[Kg u,X8 (by simp)];simp;rw[Xr O,Kg aO];simp;rw[Vae k,Xr O,Xr (by rw[iW];omega)];refine⟨?_,?_,rfl⟩
 .rw[Zm,Zm,Zhv _ _ _ h1];unfold bitV;rw[B]
  show _=bs (match re (x.take Z) (n:Int).toNat,re ((x.drop Z).take Z) (n:Int).toNat with
   |some a,some b=>lH a b
   |_,_=>[])
  rw[ep]
 show bs ((x.drop Z).drop Z)=bs (x.drop (2*Z));rw[vM,show Z+Z=2*Z by omega]
