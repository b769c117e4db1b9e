import Derived.Test.YtnjkjoklnephcaaGreatDoorF38
set_option linter.all false
set_option maxRecDepth 100000
set_option maxHeartbeats 0
section
variable{P Q:Prop}
theorem yB(h:P:=by rw[ep];exact l):P:=h
theorem As(h:P:=by rw[R,show g=b from e]):P:=h
theorem I9(h:P:=by rw[R,show g=w0 from e]):P:=h
theorem PX(h:P:=by go_in;go_wp21;refine cp (E.o _) ?_;go_wp2;go_returns;exact⟨rfl,q.o⟩):P:=h
theorem Pm(h:P:=by exact⟨rfl,rfl,rfl,by simp only;omega,by simp only;omega,Int.le_refl _,by simp⟩):P:=h
theorem ER(h:P:=by clear B;rw[R.o];go_wp2;refine⟨⟨k+1,ab,by go_num,rfl,a1⟩,?_⟩;simp[intOf]<;>omega):P:=h
theorem EF(h:P:=by go_in;go_wp2;go_quiet (fail);go_wp2;go_returns;exact⟨rfl,_,u.o.drewN _,q.o.drewN _,.inl rfl⟩):P:=h
theorem O9(h:P:=by rcases t with h|h;rw[h];exact e2 b rfl;rw[h];intro h;injection h with h;have h:w+1=b:=h;omega):P:=h
theorem O1(h:P:=by go_wp21;refine ij (L.o _) hb λd F=>?_;clear hb;go_wp2;go_returns;exact⟨by rw[G.o];rfl,a2.o.trans (F.o.mono a2.o.size)⟩):P:=h
theorem Nq(h:P:=by simp only[jH];generalize bs s=S at*;go_in;go_wp21;refine aP E.o λw1 ⟨v',t1,p,d⟩=>?_;obtain⟨d9,u,y⟩:=bD t1 (q.o w _ p) (d.imp id (λ⟨g,z,t⟩=>⟨g,z,k g t⟩):_\/∃g,v'.ownBlock=some g/\w.heap.size<=g);clear t1 p d;go_wp2;go_returns;exact⟨rfl,v',d9.o,u.o,y.o⟩):P:=h
end
namespace Go.Proofs.Y
open Tryz Wv Go.RowKit
variable{W w w' w0:aq}{b base:Nat}{d:aT}{o:Int}{v:aI}
theorem Zl0:(prog.info? 40).map (λi=>(i.zero,i.size,i.bytes))=some (some (.agg #[(0:Int),(0:Int)]),2,16):=dw
structure oa (w:World) (b base:Nat) (D:ca) (v:Value):Prop where
 bk:Bk w b 37 #[bs D.s,D.fail,D.code,D.calls,v]
 own:w.ownsRow base 40 2 v D.parts.length (pv D.parts)
 ap:v.ownBlock≠some b
theorem oa.drewN {D:ca} (h:oa w b base D v) (n:Nat):oa (w.drewN n) b base D v:=⟨h.bk,h.own,h.ap⟩
def uw (b:Nat) (v:aI):Nat->Prop:=λk=>k=b\/v.ownBlock=some k
theorem Qm (l:List (Int×Int)) (p:Int×Int):pv (l++[p])=pv l++[.int .i64 p.1,.int .i64 p.2]:=by unfold pv;rw[yD];rfl
theorem CU {P : Program} (t e : TypeId) (z : aI) (bytes size : Nat) (R : P.underlying t = some (.slice e)) (l : (P.info? e).map (λi => (i.zero, i.size, i.bytes)) = some (some z, size, bytes)) (q : z.cells.size = size) (a0 : 0 < size) {w : aq} {B : Nat} {v : aI} {n : Nat} {xs : List aI} (h : w.ownsRow B e size v n xs) (I : B <= w.heap.size) (ys : List aI) (a1 : ys.length = size) (h1 : ∀ y ∈ ys, y.oneCell' = true) (E : n + 1 <= maxLen) (p : (n + 1) * bytes <= 140737488355328) :
    ∃d w',(Builtin.append_ #[t,t] t #[v,.slice (some (w,0)) 1 1]).run P (w.alloc (.cells ys.toArray e))=.ok d w'/\w'.ownsRow B e size d (n+1) (xs++ys)/\Fr (λk=>v.ownBlock=some k) w w'/\(d.ownBlock=v.ownBlock\/d.ownBlock=some (w.heap.size+1)):=by obtain⟨i,hi,S,Q,D⟩:=info_parts l;obtain ⟨d, w', M, F, G, _, g⟩ := run_append_own_at (P := P) (w.alloc (.cells ys.toArray e)) B t t e i z size bytes R hi S Q D q a0 v n xs (h.alloc _) ⟨w, 0, none⟩ 1 1 ys O (λj u hu => OB) h1 E p (co I (by simp));refine⟨d,w',M,F,((Fr.refl _ w).alloc _).grown G (λk L=>.inl L),?_⟩;rcases g with g|g;exact .inl g;exact .inr (g.trans (by simp))
theorem Zcm {D:ca} (h:oa w b base D v) (d3:base<=w) (a4:D.s.length<=1099511627776) (e7: -1<=D.calls) (e9:D.calls<=1000000) (f2:D.parts.length<=1000000) (o l:Int):
  Calls prog 380 #[(b,0),o,l] w λx w'=>x=.returned (.tuple #[bs (gy D (o,l)).1.1,((gy D (o,l)).1.2:Int)])/\
   ∃M,oa w' b base (gy D (o,l)).2 M/\Fr (uw b v) w w'/\(M.ownBlock=v.ownBlock\/∃g,M.ownBlock=some g/\w.heap.size<=g):=by
 obtain⟨d,G,B⟩:=h;obtain⟨Q,a0,R,rfl⟩:=Z7 G;have a5:=d.cell 0;have q1:=d.cell 1;have q2:=d.cell 2;have q3:=d.cell 3;have q4:=d.cell 4;have c5:=d.frozen 3;have c6:=d.frozen 4;simp at a5 q1 q2 q3 q4 c5 c6;have f5:IntKind.i64.wrap (D.calls+1)=D.calls+1:=lO;obtain⟨j,F,q⟩:=bD (d.put 3 (D.calls+1:Int)) (Zq G (p:=⟨b,3,none⟩) B (D.calls+1:Int)) ((Fr.refl (uw b (.slice Q a0 R)) w).setCell (p:=⟨b,3,none⟩) (.inl (.inl rfl)) (D.calls+1:Int));have r0:=j.o.cell 0;have d6:=j.o.cell 1;have d7:=j.o.cell 2;have d8:=j.o.cell 3;have d9:=j.o.cell 4;have c7:=j.o.frozen 4;simp at r0 d6 d7 d8 d9 c7;have u:Hid (oa (w.setCell (b,3) (D.calls+1:Int)) b base { D with calls:=D.calls+1 } (.slice Q a0 R)):=J ⟨by simpa using j.o,F.o,B⟩;by_cases hF:D.calls+1=D.fail;.have y:gy D (o,l)=(([],D.code), { D with calls:=D.calls+1 }):=(by unfold gy;rw[Vag hF]);rw[y];have a3:(D.calls+1==D.fail)=true:=(by rw[beq_iff_eq];exact hF);clear d G B y hF F j;go_in;go_wp2;go_quiet (fail);go_wp2;go_quiet (fail);go_wp2;go_returns;exact⟨rfl,_,(u.o.drewN _).drewN _,(q.o.drewN _).drewN _,.inl rfl⟩
 have a3:(D.calls+1==D.fail)=false:=(by rw[lL];exact hF);cases a1:pJ D.s (o,l);have y:gy D (o,l)=(([],2), { D with calls:=D.calls+1 }):=(by unfold gy;rw[aD hF,Vag a1]);rw[y];have a6:o<0\/l<0\/(D.s.length:Int)<o\/(D.s.length:Int)-o<l:=Rh;have z:=Z0 D.s;obtain⟨S,E⟩:=ay (bs D.s);obtain⟨L,b4⟩:=ay D.s.length;rw[E] at a5 r0 z;rw[b4] at z a6 a4;clear d G B y hF F j a1;rw[<-z] at a6 a4;clear z b4 E;by_cases h1:o<0;exact EF;by_cases b1:l<0;exact EF;by_cases b2:(S.size:Int)<o;exact EF;have b3:(S.size:Int)-o<l:=O;exact EF;unfold pJ at a1;simp only[gm,fq] at a1;obtain⟨⟨⟨h1,b1⟩,b2⟩,b3⟩:=a1;obtain⟨a,rfl⟩:=Int.eq_ofNat_of_zero_le h1;obtain⟨c,rfl⟩:=Int.eq_ofNat_of_zero_le b1;have y:gy D ((a:Int),(c:Int))=((tI D.s ((a:Int),(c:Int)),0), { D with calls:=D.calls+1,parts:=D.parts++[((a:Int),(c:Int))] }):=by unfold gy;rw[aD hF,aD];unfold pJ;simp only[Ca,Vbp];omega
 rw[y];have z:=Z0 D.s;have b5:Hid (bs (tI D.s ((a:Int),(c:Int)))=(bs D.s).extract a (a+c)):=J (WL (bs D.s) a c).symm;rw[b5.o];obtain⟨S,E⟩:=ay (bs D.s);rw[E] at a5 r0 z⊢;have b8:=J E;rw[<-z] at b2 b3 a4;have c8:¬(a:Int)<0:=O;have c9:¬(c:Int)<0:=O;have d1:¬(S.size:Int)<a:=O;have d2:¬(S.size:Int)-a<(c:Int):=O;have e8:decide ((a:Int)<0)=false:=cI c8;have e5:decide ((c:Int)<0)=false:=cI c9;have e6:decide ((S.size:Int)<a)=false:=cI d1;have e4:decide (S.size<a)=false:=cI O;have f6:decide ((S.size:Int)-a<(c:Int))=false:=cI d2;have d5:b<w:=d.lt;have b9:=J u.o.bk;have e2:∀k,k=b->¬(Value.slice Q a0 R).ownBlock=some k:=λk d4 h=>B (by rw[h,d4]);clear d B y hF j b5 E z;go_in;go_wp2;go_quiet (fail);obtain⟨M,W,a2,b0,b6,t⟩:=CU (P:=prog) 35 40 _ _ 2 underlying35 Zl0 rfl aY (w:=(w.setCell ⟨b,3,none⟩ (D.calls+1:Int)).drewN nq) F.o (by simpa using d3) [.int .i64 (a:Int),.int .i64 (c:Int)] rfl sX fU O;obtain⟨A2,a8,a7,rfl⟩:=Z7 b0;have c3:((w.setCell (b,3) (D.calls+1:Int)).drewN nq).heap.size=w.heap.size:=(by simp);rw[c3] at a2 t;have c4:=J a2;have I:Bk W b 37 #[bs D.s,D.fail,D.code,(D.calls+1:Int),(Q,a0,R)]:=(b9.o.drewN nq).fr b6 (e2 b rfl);have a9:=J (I.put 4 (.slice A2 a8 a7));have e1:=I.frozen 4;have e3:=I.cell 4;have b7:=a9.o.cell 0;rw[b8.o] at b7;simp at b7 e1 e3;clear a2 I;go_wp2_with (at_builtin;refine Z5 iG rfl _ _ _ rfl _ _ (by rfl) (by rfl) c4.o ?_);go_wp2;go_returns;refine⟨rfl,.slice A2 a8 a7,⟨by simpa using a9.o,?_,?_⟩,?_,?_⟩;have e:(D.parts++[((a:Int),(c:Int))]).length=D.parts.length+1:=(by simp);show(W.setCell _ _).ownsRow _ _ _ _ (D.parts++[((a:Int),(c:Int))]) _;rw[e,Qm];refine Zq b0 ?_ _;exact O9;exact O9;exact(((q.o.drewN nq).trans' b6 (λ_ _ h=>.inr h)).setCell (.inl (.inl rfl)) _);rcases t with h|h;exact .inl h;exact .inr ⟨_,h,O⟩
def jH (r:ax×Nat):aI:=.tuple #[bs r.1,r.2]
theorem Wa (D:ca) (o:Int):dr D (o,0)=(([],0),D):=by unfold dr;rw[Vag rfl]
theorem ZpJ {D:ca} {l:Int} (h0:l≠0):dr D (o,l)=if(gy D (o,l)).1.2=2 then(([],12),(gy D (o,l)).2) else if(gy D (o,l)).1.2≠0 then(([],(gy D (o,l)).1.2),(gy D (o,l)).2) else gy D (o,l):=by unfold dr;rw[aD h0]
theorem Z7W (hd:d.size<=1099511627776) {D:ca} (p:D.s=aH d) (ok:qn D) (o l:Int) (w:aq):
  Calls prog 45 #[.iface 103 (.string d),.agg #[o,l]] w (bM w (jH (dr D (o,l)).1)):=by
 have q:=J ((bf w w).alloc aU (.cells #[o,l] 40));have E:=J (λW=>ZaU d hd o l W);obtain⟨_,_,g⟩:=zg ok (o,l);by_cases h0:l=0;.subst h0;have j:Hid (jH (dr D (o,0)).1=.tuple #[.string ⟨#[]⟩,(0:Int)]):=J (by rw[Wa];rfl);clear g E;rw[j.o];go_in;go_wp2;go_returns;exact⟨rfl,q.o⟩
 have t:(l==0)=false:=(by rw[lL];exact h0);rw[p,Dq _ _ h0] at g;rw[show(aH d).length=d.size from rfl] at g;clear ok p;cases k:pJ d.size (o,l);rw[k,Vag rfl] at E;have j:Hid (jH (dr D (o,l)).1=.tuple #[.string ⟨#[]⟩,(12:Int)]):=J (by rw[g,k];rfl);clear g;rw[j.o];exact PX;rw[k,aD aY] at E;have j:Hid (jH (dr D (o,l)).1=.tuple #[bs (tI (aH d) (o,l)),(0:Int)]):=J (by rw[g,k];rfl);clear g;rw[j.o];generalize bs (tI (aH d) (o,l))=S at*;exact PX
theorem oa.nob {D:ca} (h:oa w b base D v) (d:Fr nob w w'):oa w' b base D v:=⟨h.bk.fr d id,Z6 h.own d (λ_ _ f=>f),h.ap⟩
def M' (w:aq) (b base:Nat) (v:aI) (r:(ax×Nat)×ca) (x:Ending) (w':aq):Prop:=
 x=.returned (jH r.1)/\∃d,oa w' b base r.2 d/\Fr (uw b v) w w'/\(d.ownBlock=v.ownBlock\/∃g,d.ownBlock=some g/\w.heap.size<=g)
theorem ZaZ {D:ca} (h:oa w b base D v) (Q:base<=w) (G:D.s.length<=1099511627776) (M: -1<=D.calls) (B:D.calls<=1000000) (F:D.parts.length<=1000000) (o l:Int):
  Calls prog 45 #[.iface 34 (.pointer (some (b,0))),.agg #[o,l]] w λx w'=>M' w b base v (dr D (o,l)) x w':=by
 have j:=J ((Fr.refl nob w).alloc (.cells #[o,l] 40));have h1:=h.nob j.o;have E:=J (Zcm h1 (co Q j.o.size) G M B F o l);have q:=J (λ(X W:aq) (h:Fr (uw b v) (w.alloc (.cells #[o,l] 40)) W)=>j.o.of_nob.trans' h (λ_ _ h=>h));have k:∀g,(w.alloc (.cells #[o,l] 40)).heap.size<=g->w.heap.size<=g:=λg R=>(by rw[World.size_alloc] at R;omega);unfold M';by_cases h0:l=0;.subst h0;have L:=J (Wa D o);have I:=J h1;clear h h1 E G B F;rw[L.o];go_in;go_wp2;go_returns;exact⟨rfl,v,I.o,j.o.of_nob,.inl rfl⟩
 have a0:(l==0)=false:=(by rw[lL];exact h0);rw[ZpJ h0];obtain⟨⟨⟨s,e⟩,D2⟩,hR⟩:=ay (gy D (o,l));rw[hR] at E⊢;simp only at E⊢;clear h h1 hR G B F;by_cases e2:e=2;.subst e2;rw[Vag rfl];go_in;go_wp21;refine aP E.o λw1 ⟨v',t1,p,d⟩=>?_;obtain⟨d9,u,y⟩:=bD t1 (q.o w _ p) (d.imp id (λ⟨g,z,t⟩=>⟨g,z,k g t⟩):_\/∃g,v'.ownBlock=some g/\w.heap.size<=g);clear t1 p d;go_wp2;go_returns;exact⟨rfl,v',d9.o,u.o,y.o⟩
 rw[aD e2];by_cases e0:e=0;subst e0;rw[aD (λh=>h rfl)];exact Nq;rw[Vag e0];have c2:((e:Int)==2)=false:=oe;have c0:((e:Int) !=0)=true:=eV;exact Nq
abbrev di (h:Hd) (AQ:bN) (kq:Nat) (AG:bN) (kg:Nat) (AS:bN) (ks:Nat):Array aI:=
 #[h.f,h.t,h.lv,h.sp,(AQ,h.quiet.length,kq),(AG,h.gaps.length,kg),h.off,h.sn,(AS,h.strs.length,ks)]
def ky (l:List Bool):List aI:=l.map Value.bool
structure gZ (w:World) (h:Hd) (AQ AG AS:Option Addr):Prop where
 q:At w AQ (ky h.quiet)
 g:At w AG (pv h.gaps)
 s:At w AS (pv h.strs)
theorem gZ.below {h:Hd} {AQ AG d:bN} (k:gZ w h AQ AG d) (hb:Below w w w'):gZ w' h AQ AG d:=⟨k.q.below hb,k.g.below hb,k.s.below hb⟩
theorem Vl {f t:Int} {lv sp:Int} {Q G S:aI} {z:Int} (hb:Below (w.alloc (.cells #[f,t,lv,sp,Q,G,o,z,S] 42)) (w.alloc (.cells #[f,t,lv,sp,Q,G,o,z,S] 42)) W):
  (W.cell? (w,0)=f/\W.cell? (w,1)=t/\W.cell? (w,2)=lv/\W.cell? (w,3)=sp/\W.cell? (w,4)=some Q/\W.cell? (w,5)=some G/\W.cell? (w,6)=o/\W.cell? (w,7)=z/\W.cell? (w,8)=some S)/\Below w w W/\w<W.heap.size:=by have h:=(Bk.new w 42 #[f,t,lv,sp,Q,G,o,z,S]).below hb (by simp);exact⟨⟨h.cell 0,h.cell 1,h.cell 2,h.cell 3,h.cell 4,h.cell 5,h.cell 6,h.cell 7,h.cell 8⟩,((bf w w).alloc aU _).trans (hb.mono (by simp)),h.lt⟩
theorem Tx {A:bN} {st:List (Int×Int)} (y:At w A (pv st)) (n cap:Nat) (g:n=st) (D:n<=9223372036854775807) (h:Hd) (AQ:bN) (j:Nat) (AG:bN) (kg:Nat) (d:bN) (ks:Nat) (q4:h.quiet.length<=9223372036854775807) (L:h.strs.length<=9223372036854775807):
  Calls prog 48 #[(A,n,cap),.agg (di h AQ j AG kg d ks)] w (bM w (gV st h)):=by
 have q:=J ((bf w w).alloc aU (.cells (di h AQ j AG kg d ks) 42));have p:=J (JU (y.below q.o) n cap g D);have k:=J (λW hb=>Vl (w:=w) (W:=W) (f:=h.f) (t:=h.t) (lv:=(h.lv:Int)) (sp:=(h.sp:Int)) (Q:=.slice AQ h.quiet j) (G:=.slice AG h.gaps kg) (S:=.slice d h.strs ks) (o:=h.off) (z:=(h.sn:Int)) hb);have l:Hid (gV st h=(fN st&&((h.quiet.length:Int)==n)&&((h.strs.length:Int)==n))):=J (by subst g;unfold gV;rw[lN];simp only[gm,fq,beq_iff_eq,Int.ofNat_inj]);generalize gV st h=R at*;generalize fN st=B at*;obtain⟨f,t,lv,sp,I,qs,off,sn,F⟩:=h;simp only[di] at*;generalize qs.length=nq at*;generalize F.length=ns at*;clear y g;go_in;go_wp21;refine aP p.o λw1 u=>?_;obtain⟨⟨M,a0,a1,a2,a3,a4,a5,a6,a7⟩,aa,_⟩:=k.o _ u;have E:=J aa;clear u aa p k q
 cases e1:((nq:Int)==n)<;>cases e2:((ns:Int)==n)<;>cases B<;>(
  rw[e1,e2] at l;go_wp2;go_returns;exact⟨Z4 l.o.symm,E.o⟩)
structure oY (w0:World) (V:Value) (I:World->ca->(Nat->Prop)->Prop):Prop where
 rdF:∀ {W:World} {D:ca} {T:Nat->Prop},I W D T->D.calls<=1000->D.parts.length<=1000->∀o l:Int,
  cK 45 #[V,.agg #[o,l]] W λx w'=>x=.returned (jH (dr D (o,l)).1)/\∃T',I w' (dr D (o,l)).2 T'/\Fr T W w'/\∀k,T' k->T k\/W.heap.size<=k
 frS:∀ {W W':World} {D:ca} {T S:Nat->Prop},I W D T->Fr S W W'->(∀k,S k->¬T k/\w0.heap.size<=k)->I W' D T
 lt:∀ {W:World} {D:ca} {T:Nat->Prop},I W D T->∀k,T k->k<W.heap.size
 bl:∀ {W:World} {D:ca} {T:Nat->Prop},I W D T->Below w0.heap.size w0 W
theorem oY.fr {V:aI} {I:aq->ca->(Nat->Prop)->Prop} (R:oY w0 V I) {W':aq} {D:ca} {T:Nat->Prop} (hi:I W D T) (d:Fr nob W W'):I W' D T:=R.frS hi d (λ_ k=>k.elim)
theorem Kj (w0:aq) (hd:d.size<=1099511627776):oY w0 (.iface 103 (.string d)) (λW D T=>D.s=aH d/\qn D/\T=nob/\Below w0 w0 W) where
 rdF:=by intro W D T hi _ _ o l;obtain⟨h1,j,p,g⟩:=hi;refine(Z7W hd h1 j o l W).mono ?_;rintro x w' ⟨rfl,hb⟩;obtain⟨k1,k2,_⟩:=zg j (o,l);exact⟨rfl,T,⟨by rw[k2,h1],k1,p,g.trans (hb.mono g.size)⟩,Fr.of_below hb,λk h=>.inl h⟩
 frS:=λ⟨h1,j,p,g⟩ hf hS=>⟨h1,j,p,g.trans (hf.toBelow' g.size (λk q t=>by have:=(hS k t).2;omega))⟩
 lt:=by intro W D T hi k q;rw[hi.2.2.1] at q;exact q.elim
 bl:=λhi=>hi.2.2.2
theorem ZqT (D:ca) (p:Int×Int):(gy D p).2.s=D.s/\(gy D p).2.fail=D.fail/\(gy D p).2.code=D.code/\D.calls<=(gy D p).2.calls/\(gy D p).2.parts<=D.parts.length+1/\(gy D p).2.calls<=D.calls+1/\(gy D p).1.1<=D.s.length:=by unfold gy;split;exact Pm;split;exact Pm;refine⟨rfl,rfl,rfl,dz,by simp,Int.le_refl _,?_⟩;simp only[tI,ek,iW];omega
theorem zl (D:ca) (p:Int×Int):(dr D p).2.s=D.s/\(dr D p).2.fail=D.fail/\(dr D p).2.code=D.code/\D.calls<=(dr D p).2.calls/\(dr D p).2.parts<=D.parts.length+1/\(dr D p).2.calls<=D.calls+1/\(dr D p).1.1<=D.s.length:=by obtain⟨a1,a2,a3,a4,a5,a6,d⟩:=ZqT D p;unfold dr;split;exact⟨rfl,rfl,rfl,Int.le_refl _,dz,dz,by simp⟩;split;exact⟨a1,a2,a3,a4,a5,a6,by simp⟩;split;exact⟨a1,a2,a3,a4,a5,a6,by simp⟩;exact⟨a1,a2,a3,a4,a5,a6,d⟩
theorem Zjy (h0:w0<=b) (h1:w0<=base):oY w0 (.iface 34 (.pointer (some (b,0)))) (λW D T=>∃v,oa W b base D v/\base<=W.heap.size/\D.s.length<=1099511627776/\-1<=D.calls/\T=uw b v/\Below w0 w0 W) where
 rdF:=by intro W D T hi c1 c2 o l;obtain⟨v,k1,k2,k3,t,j,d⟩:=hi;refine(ZaZ k1 k2 k3 t O O o l).mono ?_;rintro x w' ⟨rfl,z,t1,w,E⟩;obtain⟨a1,a2,a3,a4,a5,a6,F⟩:=zl D (o,l);subst j;refine⟨rfl,uw b z,⟨z,t1,co k2 w.size,by rw[a1];exact k3,O,rfl,?_⟩,w,?_⟩;refine d.trans (w.toBelow' d.size (λk q p=> ?_));rcases p with h|h;exact O;have:=(k1.own.lt k h).1;omega;intro k q;rcases q with h|h;exact .inl (.inl h);rcases E with e|⟨g,e,y⟩;exact .inl (.inr (by rw[<-e];exact h));rw[e] at h;injection h with h;exact .inr O
 frS:=by rintro W W' D T S ⟨v,k1,k2,k3,t,j,d⟩ u p;subst j;exact⟨v,⟨k1.bk.fr u (λh=>(p _ h).1 (.inl rfl)),Z6 k1.own u (λg y h=>(p _ h).1 (.inr y)),k1.ap⟩,co k2 u.size,k3,t,rfl,d.trans (u.toBelow' d.size (λk q B=>by have:=(p k B).2;omega))⟩
 lt:=by rintro W D T ⟨v,k1,k2,k3,t,j,d⟩ k q;subst j;rcases q with h|h;rw[h];exact k1.bk.lt;exact(k1.own.lt k h).2
 bl:=λ⟨v,k1,k2,k3,t,j,d⟩=>d
end Go.Proofs.Y
namespace Wv
open Go.Proofs.Tryz Go.Proofs.Y
variable{k:Nat}{lv:Int}{qs:List Bool}{st:List (Int×Int)}{xs:List ax}
def zx (n:Nat) (f t:Int) (lv sp ng:Nat):ax:=bi n++(bi (f+1).toNat++(bi (t-f).toNat++(bi lv++(bi sp++bi ng))))
theorem NQ (st:List (Int×Int)) (f t:Int) (lv sp:Nat) (d:List (Int×Int)) (qs:List Bool) (sn:Nat) (zs:List Nat):
  YR st f t lv sp d qs sn zs=(((zx st f t lv sp d.length++lX f d)++mD qs)++bi sn)++lw lv st qs zs:=by unfold YR xC zx;grind
theorem NH (f:Int) (l:List (Int×Int)) (g:Int×Int):lX f (l++[g])=lX f l++(bi (g.1-f-1).toNat++bi (g.2-g.1).toNat):=by unfold lX;grind
theorem NL (l:List Bool) (q:Bool):mD (l++[q])=mD l++bi q.toNat:=by unfold mD;grind
theorem Zmr (n:Nat) (f t:Int) (lv sp ng:Nat):(zx n f t lv sp ng).length<=54:=by unfold zx;simp only[bV];have d:=ZF n;have a1:=ZF (f+1).toNat;have a2:=ZF (t-f).toNat;have a3:=ZF lv;have a4:=ZF sp;have a5:=ZF ng;omega
theorem W3 (f:Int) (l:List (Int×Int)):(lX f l).length<=18*l.length:=Do _ 18 (λg=>Px) l
theorem u_ (l:List Bool):(mD l).length<=9*l.length:=Do _ 9 (λq=>ZF _) l
theorem Lg (lv:Int):∀(st:List (Int×Int)) (qs:List Bool) (zs:List Nat),(lw lv st qs zs).length<=9*st.length
 |s::st,q::qs,z::zs=>by rw[lw,bV,gd];have:=Lg lv st qs zs;have:=ZF z;grind
 |[],_,_=>by unfold lw;simp
 |_::_,[],_=>by unfold lw;simp
 |_::_,_::_,[]=>by unfold lw;simp
theorem VJ (lv:Int) (s:Int×Int) (q:Bool) (x:ax):∀(st:List (Int×Int)) (qs:List Bool) (xs:List ax),st=xs.length->qs.length=xs.length->iT lv (st++[s]) (qs++[q]) (xs++[x])=iT lv st qs xs++(if eR s q lv=true then x else[])
 |[],[],[],_,_=>by simp[iT]
 |s'::st,q'::qs,z'::xs,h1,h2=>by rw[jw,jw,jw,iT,iT,VJ lv s q x st qs xs aO aO,er]
 |[],_,_::_,h1,_=>aO
 |_::_,_,[],h1,_=>aO
 |_,[],_::_,_,h2=>aO
 |_,_::_,[],_,h2=>aO
theorem VW (lv:Int) (s:Int×Int) (q:Bool) (x:ax):∀(st:List (Int×Int)) (qs:List Bool) (xs:List ax),st=xs.length->qs.length=xs.length->zsT lv (st++[s]) (qs++[q]) (xs++[x])=zsT lv st qs xs++[if eR s q lv=true then x.length else 0]
 |[],[],[],_,_=>by rfl
 |s'::st,q'::qs,z'::xs,h1,h2=>by rw[jw,jw,jw,zsT,zsT,VW lv s q x st qs xs aO aO,jw]
 |[],_,_::_,h1,_=>aO
 |_::_,_,[],h1,_=>aO
 |_,[],_::_,_,h2=>aO
 |_,_::_,[],_,h2=>aO
def oQ (lv:Int) (st:List (Int×Int)) (qs:List Bool) (xs:List ax) (k:Nat):ax:=lw lv (st.take k) (qs.take k) (zsT lv (st.take k) (qs.take k) (xs.take k))
def oT (lv:Int) (st:List (Int×Int)) (qs:List Bool) (xs:List ax) (k:Nat):ax:=iT lv (st.take k) (qs.take k) (xs.take k)
theorem Vx (h1:k<st) (d:k<qs) (g:k<xs):
  oQ lv st qs xs (k+1)=oQ lv st qs xs k++(if eR st[k] qs[k] lv=true then bi xs[k].length else[])/\oT lv st qs xs (k+1)=oT lv st qs xs k++(if eR st[k] qs[k] lv=true then xs[k] else[]):=by unfold oQ oT;have j:(st.take k)=k:=aO;have l2:(qs.take k)=k:=aO;have l:(xs.take k)=k:=aO;rw[dK h1,dK d,dK g];have l4:=Du lv (st.take k) (qs.take k) (xs.take k) O O;refine⟨?_,VJ lv _ _ _ _ _ _ O O⟩;rw[VW lv _ _ _ _ _ _ O O,J7 lv _ _ _ _ _ _ O O];grind
theorem BQ {n:Nat} (h1:st=n) (d:qs=n) (g:xs=n):oQ lv st qs xs n=lw lv st qs (zsT lv st qs xs)/\oT lv st qs xs n=iT lv st qs xs:=by unfold oQ oT;grind
theorem G' (lv:Int) (st:List (Int×Int)) (qs:List Bool) (xs:List ax) (k:Nat):(oQ lv st qs xs k).length<=9*st.length:=by have:=Lg lv (st.take k) (qs.take k) (zsT lv (st.take k) (qs.take k) (xs.take k));rw[ek] at this;unfold oQ;omega
theorem Mp {lv:Int} {st:List (Int×Int)} {qs:List Bool} {xs:List ax} {M:Nat} (g:∀x∈xs,x.length<=M) (h1:st=xs.length) (d:qs=xs.length):∀k,k<=xs.length->(oT lv st qs xs k).length<=M*k
 |0,_=>by simp[oT,iT]
 |k+1,h=>by rw[(Vx (lv:=lv) (show k<st.length by omega) (show k<qs.length by omega) (show k<xs.length by omega)).2,bV,Nat.mul_succ];have:=Mp (lv:=lv) g h1 d k O;grind
theorem LU {c w:ax} (h:Zo k c=some w):w.length<=5000:=by unfold Zo at h;rcases d:lx c with _|t;exact aO;rw[d] at h;injection h with h;have j:=C5 d;rw[<-h,QT];have h1:(ZM c t).length<=4096:=Fi;have g:=ZF (ZM c t);omega
end Wv
namespace Go.Proofs.Y
open Tryz Wv Go.RowKit
variable{V:aI}{W w1:aq}{most:Int}{n:Nat}
def dG (I:aq->ca->(Nat->Prop)->Prop) (w:aq) (T:Nat->Prop) (D:ca) (w':aq):Prop:=∃d,I w' D d/\Fr T w w'/\∀k,d k->T k\/w.heap.size<=k
theorem dG.step {I:aq->ca->(Nat->Prop)->Prop} {w0:aq} (R:oY w0 V I) {w d j:aq} {T:Nat->Prop} {D:ca} (h1:Below w w w1) (p:dG I w1 T D d) (g:Below d d j):dG I w T D j:=by obtain⟨l,i,f,t⟩:=p;refine⟨l,R.fr i (Fr.of_below g),((Fr.of_below h1).trans f).below g,λk q=> ?_⟩;rcases t k q with h|h;exact .inl h;exact .inr (co h1.size h)
theorem dG.start {I:aq->ca->(Nat->Prop)->Prop} {w0:aq} (R:oY w0 V I) {w:aq} {T:Nat->Prop} {D:ca} (hi:I w D T) (h1:Below w w w1):dG I w T D w1:=
 ⟨T,R.fr hi (Fr.of_below h1),Fr.of_below h1,λk h=>.inl h⟩
theorem dG.bl {I:aq->ca->(Nat->Prop)->Prop} {w0:aq} (R:oY w0 V I) {w:aq} {T:Nat->Prop} {D:ca} (h:dG I w T D w1):Below w0 w0 w1:=R.bl h.choose_spec.1
def VaR (I:aq->ca->(Nat->Prop)->Prop) (w:aq) (T:Nat->Prop) (r:(a'×Nat)×ca) (x:Ending) (w':aq):Prop:=
 ∃v,x=.returned (.tuple #[v,r.1.2])/\sV w' v r.1.1/\dG I w T r.2 w'
theorem Q9 {w0:aq} {I:aq->ca->(Nat->Prop)->Prop} (R:oY w0 V I) {w:aq} {D:ca} {T:Nat->Prop} (hi:I w D T) (c1:D.calls<=1000) (c2:D.parts.length<=1000) (k:D.s.length<=1000000000)
  {A:bN} {st:List (Int×Int)} (q:At w0 A (pv st)) (a2:gl w0) (n cap:Nat) (u:n=st) (M:n<=9223372036854775807) (h:Hd) (AQ:bN) (l:Nat) (AG:bN) (kg:Nat) (g:bN) (ks:Nat) (q4:h.quiet.length<=9223372036854775807) (b8:h.strs.length<=9223372036854775807):
  Calls prog 17 #[(A,n,cap),V,.agg (di h AQ l AG kg g ks)] w λx w'=>VaR I w T (gE st D h) x w':=by
 have b2:=J ((bf w w).alloc aU (.cells (di h AQ l AG kg g ks) 42));have E:=R.fr hi (Fr.of_below b2.o);obtain⟨a6,a4,a8,a5,F,a7⟩:=fA (Tx (q.below (R.bl E)) n cap u M h AQ l AG kg g ks q4 b8) (λW hb=>Vl (w:=w) (W:=W) (f:=h.f) (t:=h.t) (lv:=(h.lv:Int)) (sp:=(h.sp:Int)) (Q:=.slice AQ h.quiet.length l) (G:=.slice AG h.gaps.length kg) (S:=.slice g h.strs.length ks) (o:=h.off) (z:=(h.sn:Int)) hb) (λW (hb:Below w w W)=>R.rdF (R.fr hi (Fr.of_below hb)) c1 c2 h.off (h.sn:Int)) (λW (hb:Below w0 w0 W) s k=>Z90 (q.below hb) s k (a2.below hb) n cap u M) (zl D (h.off,(h.sn:Int))) hi
 have d:Hid (gE st D h=if gV st h=false then(([],1),D) else if(dr D (h.off,(h.sn:Int))).1.2≠0 then(([],(dr D (h.off,(h.sn:Int))).1.2),(dr D (h.off,(h.sn:Int))).2)
  else if(kD Z3 st (dr D (h.off,(h.sn:Int))).1.1).2≠0 then(([],12),(dr D (h.off,(h.sn:Int))).2) else(((kD Z3 st (dr D (h.off,(h.sn:Int))).1.1).1,0),(dr D (h.off,(h.sn:Int))).2)):=J rfl;generalize gE st D h=RV at*;generalize gV st h=B at*;generalize dr D (h.off,(h.sn:Int))=r at*;obtain⟨⟨s,e⟩,D2⟩:=r;have b7:s.length<=1000000000:=co F.o.2.2.2.2.2.2 k;obtain⟨f,t,lv,sp,c3,qs,off,sn,b9⟩:=h;simp only[di] at*;generalize qs.length=nq at*;generalize b9.length=ns at*;clear q a2 u hi E k c1 c2 F;go_in;go_wp21;refine aP a6.o λw1 b6=>?_;obtain⟨⟨c5,c6,c7,c8,c9,d1,d3,d4,d5⟩,aa,_⟩:=a4.o _ b6;have j:=J aa;cases B;.rw[Vag rfl] at d;go_wp2;go_returns;rw[d.o];exact⟨_,rfl,sV.nil _,dG.start R a7.o j.o⟩
 rw[aD aY] at d;go_wp21;refine aP (a8.o _ j.o) λa3 b4=>?_;have y:=J (show dG I w1 T D2 a3 from b4);by_cases a1:e=0
 .subst a1;rw[aD (λh=>h rfl)] at d;simp only[jH];have L:=J (a5.o a3 (dG.bl R y.o) s b7);obtain⟨⟨vs,e2⟩,hE⟩:=ay (kD Z3 st s);rw[hE] at d L;simp only at d;generalize bs s=S at*;go_wp21;refine(L.o).mono ?_;rintro x c4 ⟨v,rfl,tv,b0⟩;have p:=J (dG.step R j.o y.o b0);have a9:=J tv;obtain⟨A2,k2,rfl,b1⟩:=a9.o;have b3:=J b1;by_cases a0:e2=0;.subst a0;rw[aD (λh=>h rfl)] at d;go_wp2;go_returns;rw[d.o];exact⟨_,rfl,⟨A2,k2,rfl,b3.o⟩,p.o⟩
  rw[Vag a0] at d;have b5:((e2:Int) !=0)=true:=eV;go_wp2;go_returns;rw[d.o];exact⟨_,rfl,sV.nil _,p.o⟩
 rw[Vag a1] at d;simp only[jH];have b5:((e:Int) !=0)=true:=eV;have p:=J (dG.step R j.o y.o (bf _ _));generalize bs s=S at*;go_wp2;go_returns;rw[d.o];exact⟨_,rfl,sV.nil _,p.o⟩
abbrev il:Array aI:= #[.int .i64 0,.int .i64 0,.int .i64 0,.int .i64 0,.slice none 0 0,.slice none 0 0,.int .i64 0,.int .i64 0,.slice none 0 0]
structure f' (w0:World) (b H:Nat) (s:ByteArray) (e:Nat) (cs:Array Value) (w:World):Prop where
 rv:RV w b s e
 hd:Bk w H 42 cs
 rs:Bk w w0.heap.size 42 il
 bel:Below w0.heap.size w0 w
variable {w0 w w':aq} {b H:Nat} {s s':aT} {e e':Nat} {cs:Array aI}
theorem f'.fr {S:Nat->Prop} (h:f' w0 b H s e cs w) (d:Fr S w w') (h1:¬S b) (j:¬S H) (g:∀k,S k->w0.heap.size<k):f' w0 b H s e cs w':=
 ⟨Bk.fr h.rv d h1,h.hd.fr d j,h.rs.fr d (λk=>absurd (g _ k) (Nat.lt_irrefl _)),h.bel.trans (d.toBelow' h.bel.size (λk p l=>by have:=g k l;omega))⟩
theorem f'.num (h:f' w0 b H s e cs w) (hb:w0<b) (hH:b≠H) (j:RV w' b s' e') (d:Fr (only b) w w'):f' w0 b H s' e' cs w':=
 ⟨j,h.hd.fr d (λk=>hH k.symm),h.rs.fr d (λk=>by have k:w0=b:=k;omega),h.bel.trans (d.toBelow' h.bel.size (λk l g=>by have g:k=b:=g;omega))⟩
theorem f'.put (h:f' w0 b H s e cs w) (hH:b≠H) (h0:w0<H) (i:Nat) (u:aI):f' w0 b H s e (cs.setIfInBounds i u) (w.setCell (H,i) u):=
 ⟨Bk.off h.rv hH u,h.hd.put i u,h.rs.off (show w0.heap.size≠H by omega) u,h.bel.trans (((Fr.refl (only H) w).setCell (p:=⟨H,i,none⟩) (.inl rfl) u).toBelow' h.bel.size (λk g d=>by have d:k=H:=d;omega))⟩
theorem f'.alloc (h:f' w0 b H s e cs w) (o:Obj):f' w0 b H s e cs (w.alloc o):=h.fr ((Fr.refl nob w).alloc o) id id (λ_ k=>k.elim)
theorem f'.drew (h:f' w0 b H s e cs w):f' w0 b H s e cs w.drew:=h.fr (Fr.refl nob w).drew id id (λ_ k=>k.elim)
theorem f'.below (h:f' w0 b H s e cs w) (hb:Below w w w'):f' w0 b H s e cs w':=h.fr (Fr.of_below (S:=nob) hb) id id (λ_ k=>k.elim)
theorem f'.off (h:f' w0 b H s e cs w) {p:Addr} (h1:p.block≠b) (g:p.block≠H) (j:w0<p.block) (u:aI):f' w0 b H s e cs (w.setCell p u):=
 h.fr ((Fr.refl (only p.block) w).setCell (.inl rfl) u) (λk=>h1 k.symm) (λk=>g k.symm) (λk d=>by have d:k=p.block:=d;omega)
theorem G1 (h:bG s e most=(n,s',e')) (d:s.size<=1099511627776) (g:RV W b s e):
  cK 81 #[(b,0),most] W λx w'=>x=.returned n/\RV w' b s' e'/\Fr (only b) W w':=by have:=Zk g d most;rw[h] at this;exact this
theorem Bg (h:bG s e most=(n,s',e')) (j:s.size<=1099511627776) (hb:w0<b) (hH:b≠H) (g:f' w0 b H s e cs W):
  cK 81 #[(b,0),most] W λx w'=>x=.returned n/\f' w0 b H s' e' cs w'/\Fr (only b) W w':=
 (G1 h j g.rv).mono λx w' d=>⟨d.1,g.num hb hH d.2.1 d.2.2,d.2.2⟩
end Go.Proofs.Y
namespace Wv
open Go.Proofs.Tryz Go.Proofs.Y
variable{e e1 e2 k n:Nat}{s s1 s2:aT}
theorem TJ (f:Int) (x:Rs):∀k,(jo f x k).2.1.size<=x.1.size
 |0=>aU
 |k+1=>by rw[jo];exact co Zv (co Zv (TJ f x k))
theorem UA (x:Rs):∀k,(eK x k).2.1.size<=x.1.size
 |0=>aU
 |k+1=>by rw[eK];exact co Zv (UA x k)
theorem Zgk (s:Int×Int) (q:Bool) (lv:Int) (p:(List (Int×Int)×Int)×Rs):(sK s q lv p).2.1.size<=p.2.1.size:=by unfold sK;split;exact aU;split<;>exact Zv
theorem UM (lv:Int) (st:List (Int×Int)) (qs:List Bool) (a:Int) (x:Rs):∀k,(gD lv st qs a x k).2.1.size<=x.1.size
 |0=>aU
 |k+1=>by rw[gD];exact co (Zgk _ _ _ _) (UM lv st qs a x k)
theorem H_ {lv:Int} {st:List (Int×Int)} {qs:List Bool} {a:Int} {x:Rs} :∀k,a<=(gD lv st qs a x k).1.2/\(gD lv st qs a x k).1.2<=a+16384*k
 |0=>⟨Int.le_refl _,by simp[gD]⟩
 |k+1=>by obtain⟨h1,d⟩:=H_ (lv:=lv) (st:=st) (qs:=qs) (a:=a) (x:=x) k;rw[gD];generalize gD lv st qs a x k=p at*;have g:=Yu p.2.1 p.2.2 (most:=16384) O;unfold sK;split;exact⟨h1,dz⟩;split;exact⟨h1,dz⟩;exact⟨dz,dz⟩
theorem Ze7 {f:Int} {x:Rs} {l:List (Int×Int)} {m:Nat} (h:jo f x k=(l,(s,e))) (h1:bG s e 1099511627776=(n,s1,e1)) (d:bG s1 e1 1099511627777=(m,s2,e2)):
  jo f x (k+1)=(l++[(f+1+n,f+1+n+m)],(s2,e2)):=by rw[jo,h];simp only;rw[h1];simp only;rw[d]
theorem Zfq {x:Rs} {l:List Bool} (h:eK x k=(l,(s,e))) (h1:bG s e 1=(n,s1,e1)):eK x (k+1)=(l++[decide (n=1)],(s1,e1)):=by rw[eK,h];simp only;rw[h1]
theorem ZpK {t u w y j:aT} {q n1 n2 n3 n4 g k l p d:Nat} (h0:bG t 0 64=(q,s1,e1)) (h1:bG s1 e1 1099511627776=(n1,s2,e2)) (z:bG s2 e2 1099511627777=(n2,u,k)) (B:bG u k 2=(n3,w,l)) (D:bG w l 1099511627776=(n4,y,p)) (E:bG y p 16=(g,j,d)):
  mW t=⟨q,(n1:Int)-1,(n1:Int)-1+n2,n3,n4,(jo ((n1:Int)-1) (j,d) g).1,(jo ((n1:Int)-1) (j,d) g).2⟩:=by unfold mW;simp only[h0,h1,z,B,D,E]
end Wv
namespace Go.Proofs.Y
open Tryz Wv Go.RowKit
section
variable{V:aI}{W W0 w w0 w1:aq}{r:Nat}
abbrev Xu (W:aq) (r:Nat) (v0 v1 v2 v3 v4 v5 v6 v7 v8:aI):aq:=((((((((W.setCell ⟨r,0,none⟩ v0).setCell ⟨r,1,none⟩ v1).setCell ⟨r,2,none⟩ v2).setCell ⟨r,3,none⟩ v3).setCell ⟨r,4,none⟩ v4).setCell ⟨r,5,none⟩ v5).setCell ⟨r,6,none⟩ v6).setCell ⟨r,7,none⟩ v7).setCell ⟨r,8,none⟩ v8
theorem Xe (h:Bk W r 42 il) (d g j k l q t u w:aI):
  Bk (Xu W r d g j k l q t u w) r 42 #[d,g,j,k,l,q,t,u,w]/\Fr (only r) W (Xu W r d g j k l q t u w):=by refine⟨by simpa using ((((((((h.put 0 d).put 1 g).put 2 j).put 3 k).put 4 l).put 5 q).put 6 t).put 7 u).put 8 w,?_⟩;exact(((((((((Fr.refl (only r) W).setCell (p:=⟨r,0,none⟩) (.inl rfl) d).setCell (p:=⟨r,1,none⟩) (.inl rfl) g).setCell (p:=⟨r,2,none⟩) (.inl rfl) j).setCell (p:=⟨r,3,none⟩) (.inl rfl) k).setCell (p:=⟨r,4,none⟩) (.inl rfl) l).setCell (p:=⟨r,5,none⟩) (.inl rfl) q).setCell (p:=⟨r,6,none⟩) (.inl rfl) t).setCell (p:=⟨r,7,none⟩) (.inl rfl) u).setCell (p:=⟨r,8,none⟩) (.inl rfl) w
theorem Zg {d g j l p q t u w:aI} (k:Bk W r 42 #[d,g,j,l,p,q,t,u,w]):
  W.cell? (r,0)=some d/\W.cell? (r,1)=some g/\W.cell? (r,2)=some j/\W.cell? (r,3)=some l/\W.cell? (r,4)=some p/\W.cell? (r,5)=some q/\W.cell? (r,6)=some t/\W.cell? (r,7)=some u/\W.cell? (r,8)=some w:=
 ⟨k.cell 0,k.cell 1,k.cell 2,k.cell 3,k.cell 4,k.cell 5,k.cell 6,k.cell 7,k.cell 8⟩
theorem YQ (h:Bk W r 42 il) (d g j l p q t u w:aI):
  (Xu W r d g j l p q t u w).cell? (r,0)=some d/\(Xu W r d g j l p q t u w).cell? (r,1)=some g/\(Xu W r d g j l p q t u w).cell? (r,2)=some j/\(Xu W r d g j l p q t u w).cell? (r,3)=some l/\(Xu W r d g j l p q t u w).cell? (r,4)=some p/\(Xu W r d g j l p q t u w).cell? (r,5)=some q/\(Xu W r d g j l p q t u w).cell? (r,6)=some t/\(Xu W r d g j l p q t u w).cell? (r,7)=some u/\(Xu W r d g j l p q t u w).cell? (r,8)=some w:=by have k:=(Xe h d g j l p q t u w).1;exact⟨k.cell 0,k.cell 1,k.cell 2,k.cell 3,k.cell 4,k.cell 5,k.cell 6,k.cell 7,k.cell 8⟩
theorem YJ (h:Bk W r 42 il):(W.cell? (r,0)=(0:Int)/\W.cell? (r,1)=(0:Int)/\W.cell? (r,2)=(0:Int)/\W.cell? (r,3)=(0:Int)/\W.cell? (r,4)=some (.slice none 0 0)/\W.cell? (r,5)=some (.slice none 0 0)/\W.cell? (r,6)=(0:Int)/\W.cell? (r,7)=(0:Int)/\W.cell? (r,8)=some (.slice none 0 0))/\(W.frozen? (r,0)=false/\W.frozen? (r,1)=false/\W.frozen? (r,2)=false/\W.frozen? (r,3)=false/\W.frozen? (r,4)=false/\W.frozen? (r,5)=false/\W.frozen? (r,6)=false/\W.frozen? (r,7)=false/\W.frozen? (r,8)=false):=
 ⟨⟨h.cell 0,h.cell 1,h.cell 2,h.cell 3,h.cell 4,h.cell 5,h.cell 6,h.cell 7,h.cell 8⟩,h.frozen 0,h.frozen 1,h.frozen 2,h.frozen 3,h.frozen 4,h.frozen 5,h.frozen 6,h.frozen 7,h.frozen 8⟩
theorem f'.nine {b H:Nat} {s:aT} {e:Nat} {cs:Array aI} (h:f' w0 b H s e cs W) (d g j l p q t u w:aI):Below w0 w0 (Xu W w0 d g j l p q t u w):=
 h.bel.trans ((Xe h.rs d g j l p q t u w).2.toBelow' h.bel.size (λk y e=>by have e:k=w0.heap.size:=e;omega))
theorem dG.fin {I:aq->ca->(Nat->Prop)->Prop} (R:oY w0 V I) {u:aq} {T:Nat->Prop} {D l:ca} (hi:I w D T) (hb:Below w w W0) (h:dG I W0 T l w1) (q:Fr (only r) w1 u) (h1:w<=r) (y:r<W0):dG I w T l u:=by
 obtain⟨p,i,f,t⟩:=h;have ab:=R.lt hi;have B:=(R.bl hi).size;have g:¬p r:=λd=>by rcases t r d with k|k;have:=ab r k;omega;omega
 refine⟨p,R.frS i q (λk d=> ?_),((Fr.of_below hb).trans f).trans' q (λj z e=> ?_),λk d=> ?_⟩;have d:k=r:=d;subst d;exact⟨g,O⟩;have e:j=r:=e;omega;rcases t k d with h|h;exact .inl h;exact .inr O
theorem dG.bk {I:aq->ca->(Nat->Prop)->Prop} (R:oY w0 V I) {T:Nat->Prop} {D d:ca} {t:TypeId} {cs:Array aI} (hi:I w D T) (h:dG I W0 T d w1) (h1:w<=r) (g:Bk W0 r t cs):Bk w1 r t cs:=by obtain⟨j,i,f,t⟩:=h;exact g.fr f (λh=>by have:=R.lt hi r h;omega)
def uB (B:Nat) (AQ AG d:bN):Prop:=∀b o,AQ=some ⟨b,o,none⟩\/AG=some ⟨b,o,none⟩\/d=some ⟨b,o,none⟩->B<=b
theorem uB.mono {B g:Nat} {AQ AG d:bN} (h:uB B AQ AG d) (hb:g<=B):uB g AQ AG d:=λb o e=>co hb (h b o e)
def M2 (I:aq->ca->(Nat->Prop)->Prop) (w:aq) (T:Nat->Prop) (r:(Option Hd×Nat)×ca) (x:Ending) (w':aq):Prop:=
 dG I w T r.2 w'/\match r.1.1 with
 |none=>x=.returned (.tuple #[.agg il,r.1.2])
 |some h=>∃AQ g AG kg d ks,x=.returned (.tuple #[.agg (di h AQ g AG kg d ks),r.1.2])/\gZ w' h AQ AG d/\uB w AQ AG d
end
variable{base n size:Nat}{v:aI}
theorem Zp6:(prog.info? 77).map (λi=>(i.zero,i.size,i.bytes))=some (some (.agg #[(0:Int),(0:Int)]),2,16):=dw
theorem Zhy:(prog.info? 4).map (λi=>(i.zero,i.size,i.bytes))=some (some (.bool false),1,1):=dw
theorem Ho {w:aq} {D:Nat} {e e':TypeId} {t B:Nat} {q:aI} {xs l:List aI} (h:w.ownsRow base e size v n xs) (z:w.ownsRow D e' t q B l) (y:e≠e'):∀g,v.ownBlock=some g->q.ownBlock≠some g:=by intro g d;rcases h.2 with ⟨k,_⟩|⟨p,cap,j,k,_,u,_⟩;rw[k] at d;cases d;rw[k] at d;injection d with d;have d:p=g:=d;subst d;exact Z1 z (show Bk w p e j from u) (λx=>y x.symm)
theorem OY {w0 w:aq} {b H:Nat} {s:aT} {e:Nat} {cs:Array aI} (h:f' w0 b H s e cs w) {e':TypeId} {xs:List aI} (g:w.ownsRow w0 e' size v n xs) (j:e'≠42):∀k,v.ownBlock=some k->w0.heap.size<k:=λk d=>by have h1:=(g.lt k d).1;have l:k≠w0.heap.size:=λe=>(by subst e;exact Z1 g h.rs j d);omega
theorem Znb:(prog.info? 40).map (λi=>(i.zero,i.size,i.bytes))=some (some (.agg #[(0:Int),(0:Int)]),2,16):=dw
structure fz (w0:World) (b H:Nat) (s:ByteArray) (e:Nat) (c0 c1 c2 c3 c6 c7:Int) (Q G S:Value) (nq ng ns:Nat) (xq xg xs:List Value) (w:World):Prop where
 pa:f' w0 b H s e #[c0,c1,c2,c3,Q,G,c6,c7,S] w
 q:w.ownsRow w0.heap.size 4 1 Q nq xq
 g:w.ownsRow w0.heap.size 77 2 G ng xg
 s:w.ownsRow w0.heap.size 40 2 S ns xs
 hb:w0.heap.size<b
 hH:w0.heap.size<H
 bH:b≠H
section
variable {w0 w w':aq} {b H:Nat} {s s':aT} {e e':Nat} {c0 c1 c2 c3 c6 c7:Int} {Q G S:aI} {nq ng ns:Nat} {xq xg xs:List aI}
theorem fz.fr {Z:Nat->Prop} (h:fz w0 b H s e c0 c1 c2 c3 c6 c7 Q G S nq ng ns xq xg xs w) (d:Fr Z w w') (h1:¬Z b) (l:¬Z H) (p:∀k,Z k->w0.heap.size<k) (j:∀g,Q.ownBlock=some g\/G.ownBlock=some g\/S.ownBlock=some g->¬Z g):fz w0 b H s e c0 c1 c2 c3 c6 c7 Q G S nq ng ns xq xg xs w':=
 ⟨h.pa.fr d h1 l p,Z6 h.q d (λg k=>j g (.inl k)),Z6 h.g d (λg k=>j g (.inr (.inl k))),Z6 h.s d (λg k=>j g (.inr (.inr k))),h.hb,h.hH,h.bH⟩
theorem fz.below (h:fz w0 b H s e c0 c1 c2 c3 c6 c7 Q G S nq ng ns xq xg xs w) (hb:Below w w w'):fz w0 b H s e c0 c1 c2 c3 c6 c7 Q G S nq ng ns xq xg xs w':=h.fr (Fr.of_below (S:=nob) hb) id id (λ_ k=>k.elim) (λ_ _=>id)
theorem fz.drew (h:fz w0 b H s e c0 c1 c2 c3 c6 c7 Q G S nq ng ns xq xg xs w):fz w0 b H s e c0 c1 c2 c3 c6 c7 Q G S nq ng ns xq xg xs w.drew:=h.fr (Fr.refl nob w).drew id id (λ_ k=>k.elim) (λ_ _=>id)
theorem fz.alloc (h:fz w0 b H s e c0 c1 c2 c3 c6 c7 Q G S nq ng ns xq xg xs w) (o:Obj):fz w0 b H s e c0 c1 c2 c3 c6 c7 Q G S nq ng ns xq xg xs (w.alloc o):=h.fr ((Fr.refl nob w).alloc o) id id (λ_ k=>k.elim) (λ_ _=>id)
theorem fz.num (h:fz w0 b H s e c0 c1 c2 c3 c6 c7 Q G S nq ng ns xq xg xs w) (j:RV w' b s' e') (d:Fr (only b) w w'):fz w0 b H s' e' c0 c1 c2 c3 c6 c7 Q G S nq ng ns xq xg xs w':=
 ⟨h.pa.num h.hb h.bH j d,Z6 h.q d (λg R e=>Z1 h.q h.pa.rv aY As),Z6 h.g d (λg R e=>Z1 h.g h.pa.rv aY As),Z6 h.s d (λg R e=>Z1 h.s h.pa.rv aY As),h.hb,h.hH,h.bH⟩
theorem LO {most:Int} (h:bG s e most=(n,s',e')) (j:s.size<=1099511627776) {W:aq} (g:fz w0 b H s e c0 c1 c2 c3 c6 c7 Q G S nq ng ns xq xg xs W):
  cK 81 #[(b,0),most] W λx w'=>x=.returned n/\fz w0 b H s' e' c0 c1 c2 c3 c6 c7 Q G S nq ng ns xq xg xs w'/\Fr (only b) W w':=
 (G1 h j g.pa.rv).mono λx w' d=>⟨d.1,g.num d.2.1 d.2.2,d.2.2⟩
theorem fz.off (h:fz w0 b H s e c0 c1 c2 c3 c6 c7 Q G S nq ng ns xq xg xs w) {p:Addr} (h1:p.block≠b) (j:p.block≠H) (t:w0<p.block) (l:∀g,Q.ownBlock=some g\/G.ownBlock=some g\/S.ownBlock=some g->g≠p.block) (u:aI):fz w0 b H s e c0 c1 c2 c3 c6 c7 Q G S nq ng ns xq xg xs (w.setCell p u):=
 h.fr ((Fr.refl (only p.block) w).setCell (.inl rfl) u) (λk=>h1 k.symm) (λk=>j k.symm) (λk d=>by have d:k=p.block:=d;omega) (λg q k=>l g q k)
theorem fz.rows (h:fz w0 b H s e c0 c1 c2 c3 c6 c7 Q G S nq ng ns xq xg xs w):∀g,Q.ownBlock=some g\/G.ownBlock=some g\/S.ownBlock=some g->g<w.heap.size:=λg d=>by rcases d with k|k|k;exact(h.q.lt g k).2;exact(h.g.lt g k).2;exact(h.s.lt g k).2
theorem fz.put (h:fz w0 b H s e c0 c1 c2 c3 c6 c7 Q G S nq ng ns xq xg xs w) (i:Nat) (u:aI):Fr (only H) w (w.setCell (H,i) u)/\(∀ {e:TypeId} {sz n:Nat} {v:aI} {xs:List aI},w.ownsRow w0 e sz v n xs->e≠42->(w.setCell (H,i) u).ownsRow w0 e sz v n xs):=
 ⟨(Fr.refl (only H) w).setCell (p:=⟨H,i,none⟩) (.inl rfl) u,λk d=>Zq k (Z1 k h.pa.hd d) u⟩
theorem fz.appQ {x:Bool} (h:fz w0 b H s e c0 c1 c2 c3 c6 c7 Q G S nq ng ns xq xg xs w) (y:nq<=1000):
  ∃A M C W,(Builtin.append_ #[38,38] 38 #[Q,.slice (some (w,0)) 1 1]).run prog (w.alloc (.cells #[x] 4))=.ok (.slice A M C) W/\(W.cell? (H,4)=some Q/\W.frozen? (H,4)=false/\H<W.heap.size)/\
   fz w0 b H s e c0 c1 c2 c3 c6 c7 (.slice A M C) G S (nq+1) ng ns (xq++[.bool x]) xg xs (W.setCell (H,4) (.slice A M C)):=by obtain⟨z,W,u,p,l,_⟩:=CU (P:=prog) 38 4 _ _ 1 underlying38 Zhy rfl aY h.q h.pa.bel.size [.bool x] rfl sX fU O;obtain⟨A,M,C,rfl⟩:=Z7 p;have d:=h.pa.fr l (λk=>Z1 h.q h.pa.rv aY k) (λk=>Z1 h.q h.pa.hd aY k) (OY h.pa h.q aY);have j:=Z6 h.g l (λg j k=>Ho h.q h.g aY g k j);have t:=Z6 h.s l (λg j k=>Ho h.q h.s aY g k j);refine⟨A,M,C,W,u,⟨d.hd.cell 4,d.hd.frozen 4,d.hd.lt⟩,?_⟩;exact⟨by simpa using d.put h.bH h.hH 4 (.slice A M C),Zq p (Z1 p d.hd aY) _,Zq j (Z1 j d.hd aY) _,Zq t (Z1 t d.hd aY) _,h.hb,h.hH,h.bH⟩
theorem fz.appS {x y:Int} (h:fz w0 b H s e c0 c1 c2 c3 c6 c7 Q G S nq ng ns xq xg xs w) (z:ns<=1000):
  ∃A M C W,(Builtin.append_ #[35,35] 35 #[S,.slice (some (w,0)) 1 1]).run prog (w.alloc (.cells #[x,y] 40))=.ok (.slice A M C) W/\(W.cell? (H,8)=some S/\W.frozen? (H,8)=false/\H<W.heap.size)/\
   fz w0 b H s e c0 c1 c2 c3 c6 c7 Q G (.slice A M C) nq ng (ns+1) xq xg (xs++[.int .i64 x,.int .i64 y]) (W.setCell (H,8) (.slice A M C)):=by obtain⟨B,W,u,p,l,_⟩:=CU (P:=prog) 35 40 _ _ 2 underlying35 Znb rfl aY h.s h.pa.bel.size [.int .i64 x,.int .i64 y] rfl sX fU O;obtain⟨A,M,C,rfl⟩:=Z7 p;have d:=h.pa.fr l (λk=>Z1 h.s h.pa.rv aY k) (λk=>Z1 h.s h.pa.hd aY k) (OY h.pa h.s aY);have j:=Z6 h.g l (λg j k=>Ho h.s h.g aY g k j);have t:=Z6 h.q l (λg j k=>Ho h.s h.q aY g k j);refine⟨A,M,C,W,u,⟨d.hd.cell 8,d.hd.frozen 8,d.hd.lt⟩,?_⟩;exact⟨by simpa using d.put h.bH h.hH 8 (.slice A M C),Zq t (Z1 t d.hd aY) _,Zq j (Z1 j d.hd aY) _,Zq p (Z1 p d.hd aY) _,h.hb,h.hH,h.bH⟩
theorem fz.snap (h:fz w0 b H s e c0 c1 c2 c3 c6 c7 Q G S nq ng ns xq xg xs w) (o z:Int):fz w0 b H s e c0 c1 c2 c3 o z Q G S nq ng ns xq xg xs ((w.setCell (H,6) o).setCell (H,7) z):=by have h1:=h.pa.put h.bH h.hH 6 o;have q1:=Zq h.q (Z1 h.q h.pa.hd aY) (p:=⟨H,6,none⟩) o;have d:=Zq h.g (Z1 h.g h.pa.hd aY) (p:=⟨H,6,none⟩) o;have s1:=Zq h.s (Z1 h.s h.pa.hd aY) (p:=⟨H,6,none⟩) o;exact⟨by simpa using h1.put h.bH h.hH 7 z,Zq q1 (Z1 q1 h1.hd aY) _,Zq d (Z1 d h1.hd aY) _,Zq s1 (Z1 s1 h1.hd aY) _,h.hb,h.hH,h.bH⟩
theorem fz.ends (h:fz w0 b H s e c0 c1 c2 c3 c6 c7 Q G S nq ng ns xq xg xs w) (d:Fr (only b) w w'):
  Bk w' H 42 #[c0,c1,c2,c3,Q,G,c6,c7,S]/\Bk w' w0 42 il/\
   Below w0.heap.size w0 (Xu w' w0 c0 c1 c2 c3 Q G c6 c7 S)/\
   (Xu w' w0 c0 c1 c2 c3 Q G c6 c7 S).ownsRow w0 4 1 Q nq xq/\
   (Xu w' w0 c0 c1 c2 c3 Q G c6 c7 S).ownsRow w0 77 2 G ng xg/\
   (Xu w' w0 c0 c1 c2 c3 Q G c6 c7 S).ownsRow w0 40 2 S ns xs:=by have h1:=h.hb;have k1:=h.pa.hd.fr d (λk=>h.bH k.symm);have k2:=h.pa.rs.fr d (λk=>by have k:w0=b:=k;omega);have j:=(Xe k2 c0 c1 c2 c3 Q G c6 c7 S).2;have q1:=Z6 h.q d (λg R e=>Z1 h.q h.pa.rv aY As);have l:=Z6 h.g d (λg R e=>Z1 h.g h.pa.rv aY As);have s1:=Z6 h.s d (λg R e=>Z1 h.s h.pa.rv aY As);refine⟨k1,k2,(h.pa.bel.trans (d.toBelow' h.pa.bel.size (λk p e=>by have e:k=b:=e;omega))).trans (j.toBelow' (co h.pa.bel.size d.size) (λk p e=>by have e:k=w0.heap.size:=e;omega)),?_,?_,?_⟩;exact Z6 q1 j (λg R e=>Z1 q1 k2 aY I9);exact Z6 l j (λg R e=>Z1 l k2 aY I9);exact Z6 s1 j (λg R e=>Z1 s1 k2 aY I9)
theorem HF {w:aq} {sz m C:Nat} {e:TypeId} {A:bN} {xs:List aI} (h:w.ownsRow base e sz (.slice A n C) m xs) (b o:Nat) (k:A=some ⟨b,o,none⟩):base<=b:=(h.lt b (by rw[k];rfl)).1
end
end Go.Proofs.Y
namespace Wv
open Go.Proofs.Tryz Go.Proofs.Y
variable{a b lv:Int}{e k:Nat}{ps st:List (Int×Int)}{qs:List Bool}{s:aT}
theorem ZnE {x:Rs} (h:gD lv st qs a x k=((ps,b),(s,e))) (d:eR (st.getD k (0,0)) (qs.getD k false) lv=false):gD lv st qs a x (k+1)=((ps++[(0,0)],b),(s,e)):=by rw[gD,h];unfold sK;rw[Vag d]
theorem Zk1 {x:Rs} {s1:aT} {e1 p:Nat} (h:gD lv st qs a x k=((ps,b),(s,e))) (d:eR (st.getD k (0,0)) (qs.getD k false) lv=true) (g:bG s e 16384=(p,s1,e1)):gD lv st qs a x (k+1)=if p=0 then((ps++[(0,0)],b),(s1,e1)) else((ps++[(b,(p:Int))],b+p),(s1,e1)):=by rw[gD,h];unfold sK;rw[aD (by rw[d];decide)];simp only;rw[g]
end Wv
namespace Go.Proofs.Y
open Tryz Wv Go.RowKit
variable{A:bN}{W W' X w:aq}{p q r:Addr}{x y z:aI}
theorem Zi4 (n:Nat) (d:n<=5000) (W:aq):
  (convert 88 9 (.slice (some (W,0)) 2 2)).run prog (W.alloc (.cells #[.int .u8 ((n:Int)/256 % 256),.int .u8 ((n:Int) % 256)] 5))=.ok (.string (bs [UInt8.ofNat (n/256),UInt8.ofNat n])) (W.alloc (.cells #[.int .u8 ((n:Int)/256 % 256),.int .u8 ((n:Int) % 256)] 5)):=by have h:=KC (n/256 % 256) (n % 256) O O (Bk.new W 5 #[.int .u8 ((n/256 % 256:Nat):Int),.int .u8 ((n % 256:Nat):Int)]);rw[show((n/256 % 256:Nat):Int)=(n:Int)/256 % 256 by omega,show((n % 256:Nat):Int)=(n:Int) % 256 by omega] at h;rw[show n/256 % 256=n/256 by omega,show UInt8.ofNat (n % 256)=UInt8.ofNat n from UInt8.toNat_inj.1 (by simp)] at h;exact h
theorem Zdf (n:Nat) (d:n<=5000) (W:aq):
  (convert 88 9 (.slice (some (W,0)) 2 2)).run prog (W.alloc (.cells #[.int .u8 ((n:Int)/256),.int .u8 ((n:Int) % 256)] 5))=.ok (.string (bs [UInt8.ofNat (n/256),UInt8.ofNat n])) (W.alloc (.cells #[.int .u8 ((n:Int)/256),.int .u8 ((n:Int) % 256)] 5)):=by have h:=Zi4 n d W;rw[show(n:Int)/256 % 256=(n:Int)/256 by omega] at h;exact h
theorem XY {a b:Nat} (h:a+b<=100000000):(9223372036854775807<a+b)=False:=by rw[eq_iff_iff,iff_false];omega
abbrev yd (X:aq) (B:Nat) (f t lv sp:Int) (Q G:aI) (W:aq):Prop:=
 (W.cell? ⟨B,0,none⟩=f/\W.cell? ⟨B,1,none⟩=t/\W.cell? ⟨B,2,none⟩=lv/\W.cell? ⟨B,3,none⟩=sp/\W.cell? ⟨B,4,none⟩=some Q/\W.cell? ⟨B,5,none⟩=some G/\Below X X W)
theorem yd.below {B:Nat} {f t lv sp:Int} {Q G:aI} (h:yd X B f t lv sp Q G W) (p:B<X) (hb:Below W W W'):yd X B f t lv sp Q G W':=by obtain⟨h0,h1,g,j,k,l,d⟩:=h;have s:=d.size;exact⟨Below.cellAt hb dz h0,Below.cellAt hb dz h1,Below.cellAt hb dz g,Below.cellAt hb dz j,Below.cellAt hb dz k,Below.cellAt hb dz l,d.trans (hb.mono s)⟩
abbrev ye (X:aq) (p q r:Addr) (x y z:aI) (W:aq):Prop:=(W.cell? p=some x/\W.cell? q=some y/\W.cell? r=some z/\Below X X W)
theorem ye.below (h:ye X p q r x y z W) (j:p.block<X) (k:q.block<X) (l:r.block<X) (hb:Below W W W'):ye X p q r x y z W':=by obtain⟨h0,h1,g,d⟩:=h;have s:=d.size;exact⟨Below.cellAt hb O h0,Below.cellAt hb O h1,Below.cellAt hb O g,d.trans (hb.mono s)⟩
abbrev zO (X:aq) (p q r u v:Addr) (x y z a b:aI) (W:aq):Prop:=(W.cell? p=some x/\W.cell? q=some y/\W.cell? r=some z/\W.cell? u=some a/\W.cell? v=some b/\Below X X W)
theorem zO.below {u v:Addr} {a b:aI} (h:zO X p q r u v x y z a b W) (l:p.block<X) (t:q.block<X) (w:r.block<X) (B:u.block<X) (lv:v.block<X) (hb:Below W W W'):zO X p q r u v x y z a b W':=by obtain⟨h0,h1,g,j,k,d⟩:=h;have s:=d.size;exact⟨Below.cellAt hb O h0,Below.cellAt hb O h1,Below.cellAt hb O g,Below.cellAt hb O j,Below.cellAt hb O k,d.trans (hb.mono s)⟩
theorem Q8 {l:List Bool} (d:At w A (ky l)) (k:Nat) (h:k<l):∃b o,A=some ⟨b,o,none⟩/\b<w.heap.size/\w.cell? ⟨b,o+k,none⟩=some (.bool l[k]):=
 d.get k _ (by unfold ky;rw[jX,fb h];rfl)
theorem ZmV (k:Nat):(bs (bi k)).size<=9:=by rw[Z0];exact ZF k
theorem Xl (v:Nat):∃S,bs (bi v)=S/\S.size<=9:=⟨_,rfl,ZmV v⟩
theorem QK (v:Int) (h0:0<=v) (h1:v<=1099511627777) {S:aT} (d:bs (bi v.toNat)=S) (W:aq):cK 41 #[v] W (bM W S):=by have:=Zj v h0 O W;rw[d] at this;exact this
theorem R8 {st:List (Int×Int)} (p2:At w A (pv st)) (n cap:Nat) (p5:n=st) (x0:n<=64) (f t:Int) (lv sp:Nat) {E:List (Int×Int)} {qs:List Bool} {AQ AG:bN} (a7 kg:Nat) (b0:At w AQ (ky qs)) (d6:At w AG (pv E)) (q6:qs=n)
  (p4: -1<=f) (r8:f<t) (p6:t<=1099511627776) (x7:lv<=2) (u5:sp<=1099511627776) (r6:∀g∈E,f+1<=g.1/\g.1<=g.2/\g.2<=t+1) (u8:E.length<=16) (o z:Int) (g6:aI) {snap:ax} (a3:snap.length<=1000000)
  {AX:bN} {xs:List ax} (p8:At w AX (eN (xs.map bs))) (w6:Nat) (b8:xs=n) (c3:∀x∈xs,x.length<=100000):
  Calls prog 34 #[(A,n,cap),.agg #[f,t,lv,sp,(AQ,n,a7),(AG,E.length,kg),o,z,g6],bs snap,(AX,n,w6)] w λx w'=>
   x=.returned (.tuple #[bs (oj st f t lv sp E qs snap xs).1,((oj st f t lv sp E qs snap xs).2:Int)])/\Below w w w':=by
 obtain⟨ng,m2⟩:=ay E.length;rw[m2] at u8⊢;have c9:=(bf w w).alloc aU (.cells #[f,t,lv,sp,(AQ,n,a7),(AG,ng,kg),o,z,g6] 42);have G:=Bk.new w 42 #[f,t,lv,sp,(AQ,n,a7),(AG,ng,kg),o,z,g6];obtain⟨Ha,i1,i0,n8,a2⟩:=ii (p2.below c9) (b0.below c9) (d6.below c9) (p8.below c9) c9;have l7:=G.lt;obtain⟨X,k9⟩:=ay (w.alloc (.cells #[f,t,lv,sp,(AQ,n,a7),(AG,ng,kg),o,z,g6] 42));rw[k9] at G Ha i1 i0 n8 a2 l7;have n7:=J k9;have q0:yd X w f t lv sp (.slice AQ n a7) (.slice AG ng kg) X:=⟨G.cell 0,G.cell 1,G.cell 2,G.cell 3,G.cell 4,G.cell 5,bf _ _⟩;have d3:=J (λW W' (h:yd X w f t lv sp (.slice AQ n a7) (.slice AG ng kg) W) (hb:Below W.heap.size W W')=>yd.below h l7 hb);have c7:=J G;obtain⟨b5,e1,v8⟩:=Xl n;obtain⟨b6,e2,v9⟩:=Xl (f+1).toNat;obtain⟨c8,k0,w0⟩:=Xl (t-f).toNat;obtain⟨d5,k1,h5⟩:=Xl lv;obtain⟨g5,k2,m8⟩:=Xl sp;obtain⟨j3,k3,w3⟩:=Xl ng;have r7:Hid (b5++b6++c8++d5++g5++j3=bs (zx n f t lv sp ng)):=J (by rw[<-e1,<-e2,<-k0,<-k1,<-k2,<-k3];unfold zx;simp only[Z9,er]);obtain⟨q9,s6,n2,n3,n4,o0⟩:=fA (λW=>QK (n:Int) O O (S:=b5) e1 W) (λW=>QK (f+1) O O (S:=b6) e2 W) (λW=>QK (t-f) O O (S:=c8) k0 W) (λW=>QK (lv:Int) O O (S:=d5) k1 W) (λW=>QK (sp:Int) O O (S:=g5) k2 W) (λW=>QK (ng:Int) O O (S:=j3) k3 W);have s1:=XY (a:=b5.size) (b:=b6.size) O;have s2:=XY (a:=b5.size+b6.size) (b:=c8.size) O;have v1:=XY (a:=b5.size+b6.size+c8.size) (b:=d5.size) O;have v2:=XY (a:=b5.size+b6.size+c8.size+d5.size) (b:=g5.size) O;have v3:=XY (a:=b5.size+b6.size+c8.size+d5.size+g5.size) (b:=j3.size) O;have l3:IntKind.i64.wrap (f+1)=f+1:=lO;have l5:IntKind.i64.wrap (t-f)=t-f:=lO;obtain⟨I,h4,c6,b9,o1,i4⟩:=fA p5 m2 q6 b8 r6 c3;have t1:Hid (-1<=f/\f<t/\t<=1099511627776):=J ⟨p4,r8,p6⟩;clear m2 p2 b0 d6 p8 c9 G k9 e1 e2 k0 k1 k2 k3 v8 v9 w0 h5 m8 w3 p5 q6 b8 r6 c3 p4 r8 p6 u5;go_in;go_wp2;rw[n7.o];have v0:=q0.below l7 (bf X X).drew;clear q0 n7
 go_region_held3 (λW=>yd X w f t lv sp (.slice AQ n a7) (.slice AG ng kg) W) (first|with_reducible assumption) (first
  |(go_at_call 41;with_reducible refine(q9.o _).mono ?_;rintro r w1 ⟨rfl,D⟩;have a3:=d3.o _ _ qB D;clear D)
  |(go_at_call 41;with_reducible refine(s6.o _).mono ?_;rintro r w1 ⟨rfl,D⟩;have a3:=d3.o _ _ qB D;clear D)
  |(go_at_call 41;with_reducible refine(n2.o _).mono ?_;rintro r w1 ⟨rfl,D⟩;have a3:=d3.o _ _ qB D;clear D)
  |(go_at_call 41;with_reducible refine(n3.o _).mono ?_;rintro r w1 ⟨rfl,D⟩;have a3:=d3.o _ _ qB D;clear D)
  |(go_at_call 41;with_reducible refine(n4.o _).mono ?_;rintro r w1 ⟨rfl,D⟩;have a3:=d3.o _ _ qB D;clear D)
  |(go_at_call 41;with_reducible refine(o0.o _).mono ?_;rintro r w1 ⟨rfl,D⟩;have a3:=d3.o _ _ qB D;clear D));rw[r7.o];obtain⟨_,_,_,_,_,m8,o8⟩:=a3;have n1:=J o8;clear o8 q9 s6 n2 n3 n4 o0 s1 s2 v1 v2 v3 l3 l5 r7 v0;have h8:=J (Zmr n f t lv sp ng);obtain⟨b3,m1⟩:=ay (zx n f t lv sp ng);rw[m1] at h8⊢;have t3:=J m1;clear m1;go_wp2;go_loopw [10,52] (λe8 j4 wr=>∃k:Nat,k<=ng/\j4=k/\e8=.string (bs (b3++lX f (E.take k)))/\Hid (Below X X wr)) (λ_ j4 _=>(ng-intOf j4).toNat);exact⟨0,cf _,rfl,by rw[Vbv];unfold lX;rw[List.flatMap_nil,fg],n1⟩;obtain⟨k,x3,rfl,rfl,hb⟩:=hrel;by_cases ab:k<ng
 .have g8:k<E:=(by rw[h4.o];exact ab);obtain⟨o3,q7,rfl,_,c0,c1⟩:=ZV (i0.o.below hb.o) k g8;have a6:=NH f (E.take k) E[k];rw[<-dK g8] at a6;obtain⟨k5,k6,k7⟩:=o1.o _ (dt g8);have M:=W3 f (E.take k);rw[ek] at M;obtain⟨⟨x,y⟩,Ld⟩:=ay E[k];rw[Ld] at c0 c1 a6 k5 k6 k7;simp only at c0 c1 a6 k5 k6 k7;obtain⟨f1,t8,t9⟩:=t1.o;obtain⟨Q,l,c5⟩:=Xl (x-f-1).toNat;obtain⟨g7,k4,w7⟩:=Xl (y-x).toNat;have a8:=J (λW=>QK (x-f-1) O O (S:=Q) l W);have t2:=J (λW=>QK (y-x) O O (S:=g7) k4 W);have R:Hid (bs (b3++lX f (E.take k))++(Q++g7)=bs (b3++lX f (E.take (k+1)))):=J (by rw[a6,<-l,<-k4];simp only[Z9,er]);have d4:(bs (b3++lX f (E.take k))).size<=1000:=by rw[Z0,bV];have:=h8.o;omega
  have s8:=Z0 (b3++lX f (E.take k));generalize bs (b3++lX f (E.take k))=U at*;have s1:=XY (a:=Q.size) (b:=g7.size) O;have s2:=XY (a:=U.size) (b:=Q.size+g7.size) O;have x4:IntKind.i64.wrap (x-f)=x-f:=lO;have l3:IntKind.i64.wrap (x-f-1)=x-f-1:=lO;have l5:IntKind.i64.wrap (y-x)=y-x:=lO;have o5:(0:Int)<=k:=O;have o6:(k:Int)<ng:=O;have u4:ng<=9223372036854775807:=O;have o2:=J (hb.o.alloc hb.o.size (.cells #[x,y] 77));have a9:=Bk.new wr 77 #[x,y];have b2:=(c7.o.below hb.o c7.o.lt).alloc (.cells #[x,y] 77);have i9:=a9.lt;have n0:=b2.lt;have o9:ye (wr.alloc (.cells #[x,y] 77)) ⟨w,0,none⟩ ⟨wr,0,none⟩ ⟨wr,1,none⟩ f (.int .i64 x) y (wr.alloc (.cells #[x,y] 77)).drew:=⟨b2.cell 0,a9.cell 0,a9.cell 1,(bf _ _).drew⟩;have r3:=J (λW W' (h:ye (wr.alloc (.cells #[x,y] 77)) ⟨w,0,none⟩ ⟨wr,0,none⟩ ⟨wr,1,none⟩ f (.int .i64 x) y W) (hb:Below W.heap.size W W')=>ye.below h n0 i9 i9 hb);clear a6 Ld l k4 c5 w7 k5 k6 k7 M d4 s8 a9 b2 n0 i9 g8 f1 t8 t9;go_wp2
  go_region_held3 (λW=>ye (wr.alloc (.cells #[x,y] 77)) ⟨w,0,none⟩ ⟨wr,0,none⟩ ⟨wr,1,none⟩ f (.int .i64 x) y W) (first|with_reducible assumption) (first
   |(go_at_call 41;with_reducible refine(a8.o _).mono ?_;rintro r m5 ⟨rfl,D⟩;have a3:=r3.o _ _ qB D;clear D)
   |(go_at_call 41;with_reducible refine(t2.o _).mono ?_;rintro r m5 ⟨rfl,D⟩;have a3:=r3.o _ _ qB D;clear D));obtain⟨_,_,_,B⟩:=a3;have a1:=J (o2.o.trans (B.mono o2.o.size));exact ER
 have t7:k=ng:=O;subst t7;rw[d' (by rw[h4.o];exact aU)];have M:=W3 f E;obtain⟨b4,f6⟩:=ay (b3++lX f E);have r4:Hid (b4.length<=400):=J (by rw[<-f6,bV];have:=h8.o;have:=h4.o;omega);rw[f6];have h9:=J f6;have h5:=(c7.o.below hb.o c7.o.lt).cell 4;simp at h5;have p0:=hb;clear M f6 hb n1 i0 o1 m8;go_wp2;go_loopw [10,76] (λe8 j5 u6=>∃k:Nat,k<=n/\j5=k/\e8=.string (bs (b4++mD (qs.take k)))/\Hid (Below X X u6)) (λ_ j5 _=>(n-intOf j5).toNat);exact⟨0,cf _,rfl,by rw[Vbv];unfold mD;rw[List.flatMap_nil,fg],p0⟩;clear h5 p0;obtain⟨j,x2,rfl,rfl,hb⟩:=hrel;by_cases ab:j<n
 .have j9:j<qs:=(by rw[c6.o];exact ab);obtain⟨o3,q7,rfl,_,c0⟩:=Q8 (i1.o.below hb.o) j j9;have a6:=NL (qs.take j) qs[j];rw[<-dK j9] at a6;have M:=u_ (qs.take j);rw[ek] at M;obtain⟨q,b0⟩:=ay qs[j];rw[b0] at c0 a6;obtain⟨Q,l,c5⟩:=Xl q.toNat;have a8:=J (λW=>QK (q.toNat:Int) O (by cases q<;>decide) (S:=Q) yB W);have R:Hid (bs (b4++mD (qs.take j))++Q=bs (b4++mD (qs.take (j+1)))):=J (by rw[a6,<-l];simp only[Z9,er]);have d4:(bs (b4++mD (qs.take j))).size<=2000:=by rw[Z0,bV];have:=r4.o;omega
  generalize bs (b4++mD (qs.take j))=U at*;have s1:=XY (a:=U.size) (b:=Q.size) O;have o5:(0:Int)<=j:=O;have o6:(j:Int)<n:=O;clear a6 b0 l c5 M d4 j9;cases q
  all_goals
   go_wp21;refine ij (a8.o _) hb λm5 a1=>?_;go_wp2;rw[R.o];refine⟨⟨j+1,ab,ci,rfl,a1⟩,?_⟩;simp[intOf]<;>omega
 have u0:j=n:=O;subst u0;rw[d' (by rw[c6.o];exact aU)];have M:=u_ qs;obtain⟨b1,f7⟩:=ay (b4++mD qs);have n5:Hid (b1.length<=1000):=J (by rw[<-f7,bV];have:=r4.o;have:=c6.o;omega);rw[f7];have t4:=J f7;obtain⟨Q,l,c5⟩:=Xl snap;have a8:=J (λW=>QK (snap.length:Int) O O (S:=Q) yB W);have R:Hid (bs b1++Q=bs (b1++bi snap)):=J (by rw[<-l,Z9]);have h6:Hid ((b1++bi snap).length<=1009):=J (by rw[bV];have:=n5.o;have:=ZF snap;omega);have d4:(bs b1).size<=2000:=by rw[Z0];have:=n5.o;omega
 have g9:=Z0 snap;have s1:=XY (a:=(bs b1).size) (b:=Q.size) O;generalize bs b1=U at*;obtain⟨w9,g0⟩:=ay (bs snap);rw[g0] at g9;rw[g0];have s7:=J g0;rw[<-g9] at a8;have x1:=J g9;clear M f7 d4 l c5 g0 g9;go_wp21;refine ij (a8.o _) hb λm5 a1=>?_;clear a8 hb;go_wp2;rw[R.o];obtain⟨a4,i6⟩:=ay (b1++bi snap);rw[i6] at h6⊢;have t5:=J i6;clear i6 R;go_loopw [10,16,94] (λe8 u9 j6 m6=>∃k:Nat,k<=j/\j6=k/\e8=.string (bs (a4++oQ lv st qs xs k))/\u9=.string (bs (snap++oT lv st qs xs k))/\Hid (Below X X m6)) (λ_ _ j6 _=>(j-intOf j6).toNat);exact⟨0,cf _,rfl,by unfold oQ lw;simp,by unfold oT iT;simp[s7.o],a1⟩;clear a1 s1;obtain⟨i,hi,rfl,rfl,rfl,hb⟩:=hrel;by_cases ab:i<j
 .have j8:i<st:=iF;have h7:i<qs:=(by rw[c6.o];exact ab);have f5:i<xs:=(by rw[b9.o];exact ab);obtain⟨L1,g4⟩:=Vx (lv:=(lv:Int)) j8 h7 f5;have u7:=G' (lv:Int) st qs xs i;have l2:=Mp (lv:=(lv:Int)) (st:=st) (qs:=qs) i4.o (by have:=I.o;have:=b9.o;omega) (by have:=c6.o;have:=b9.o;omega) i O;obtain⟨o3,q7,rfl,x5,r9,s0⟩:=ZV (Ha.o.below hb.o) i j8;obtain⟨b7,d2,rfl,p9,m7⟩:=Q8 (i1.o.below hb.o) i h7;obtain⟨o4,x6,rfl,l8,c4⟩:=QB (n8.o.below hb.o) i (by rw[c'];exact f5);rw[uF] at c4;have b8:=i4.o _ (dt f5);obtain⟨⟨a,c⟩,aF⟩:=ay st[i];obtain⟨q,b0⟩:=ay qs[i];obtain⟨x,j7⟩:=ay xs[i];rw[aF] at r9 s0;rw[aF,b0,j7] at L1 g4;rw[b0] at m7;rw[j7] at c4 b8;simp only at r9 s0;have o5:(0:Int)<=i:=O;have o6:(i:Int)<j:=O;have s9:=J (λW=>Gj a c q (lv:Int) W);obtain⟨Q,l,c5⟩:=Xl x.length;have a8:=J (λW=>QK (x.length:Int) O O (S:=Q) yB W);have r5:Hid (bs (a4++oQ lv st qs xs i)++Q=bs (a4++(oQ lv st qs xs i++bi x.length))):=J (by rw[<-l,Z9,er]);have R:Hid (bs (snap++oT lv st qs xs i)++bs x=bs (snap++(oT lv st qs xs i++x))):=J (by rw[Z9,er]);have v4:(bs (a4++oQ lv st qs xs i)).size<=2000:=by rw[Z0,bV];have:=h6.o;exact kG
  have v5:(bs (snap++oT lv st qs xs i)).size<=8000000:=by rw[Z0,bV];omega
  have m3:=Z0 x;have s1:=XY (a:=(bs (a4++oQ lv st qs xs i)).size) (b:=Q.size) O;have s2:=XY (a:=(bs (snap++oT lv st qs xs i)).size) (b:=(bs x).size) O;rw[<-m3] at a8;have a9:=Bk.new wr 68 #[a,c];have b2:=(c7.o.below hb.o c7.o.lt).alloc (.cells #[a,c] 68);have q8:=J (hb.o.alloc hb.o.size (.cells #[a,c] 68));have lg:=a9.lt;have m4:=b2.lt;have d7:=Below.cellAt ((bf wr wr).alloc aU (.cells #[a,c] 68)) p9 m7;have d8:=Below.cellAt ((bf wr wr).alloc aU (.cells #[a,c] 68)) l8 c4;have d9:b7<(wr.alloc (.cells #[a,c] 68)):=eg p9 (by simp);have e7:o4<(wr.alloc (.cells #[a,c] 68)):=eg l8 (by simp);have k8:zO (wr.alloc (.cells #[a,c] 68)) ⟨wr,0,none⟩ ⟨wr,1,none⟩ ⟨w,4,none⟩ ⟨w,2,none⟩ ⟨b7,d2+i,none⟩ a c (.slice (some (b7,d2)) j a7) lv (.bool q) (wr.alloc (.cells #[a,c] 68)).drew:=⟨a9.cell 0,a9.cell 1,b2.cell 4,b2.cell 2,d7,(bf _ _).drew⟩;have n9:=J (λW W' h hb=>zO.below (X:=wr.alloc (.cells #[a,c] 68)) (p:=⟨wr,0,none⟩) (q:=⟨wr,1,none⟩) (r:=⟨w,4,none⟩) (u:=⟨w,2,none⟩) (v:=⟨b7,d2+i,none⟩) (x:=.int .i64 a) (y:=.int .i64 c) (z:=.slice (some (b7,d2)) j a7) (a:=.int .i64 (lv:Int)) (b:=.bool q) (W:=W) (W':=W') h lg lg m4 m4 d9 hb);have i2:=J (λW (hb:Below (wr.alloc (.cells #[a,c] 68)) (wr.alloc (.cells #[a,c] 68)) W)=>Below.cellAt hb e7 d8);have i3:Hid (eR (a,c) q (lv:Int)=false->bs (a4++oQ lv st qs xs i)=bs (a4++oQ lv st qs xs (i+1))/\bs (snap++oT lv st qs xs i)=bs (snap++oT lv st qs xs (i+1))):=J (λh=>by rw[L1,g4,h];simp);have l6:Hid (eR (a,c) q (lv:Int)=true->bs (a4++oQ lv st qs xs i)++Q=bs (a4++oQ lv st qs xs (i+1))/\bs (snap++oT lv st qs xs i)++bs x=bs (snap++oT lv st qs xs (i+1))):=J (λh=>by rw[L1,g4,h,r5.o,R.o];exact⟨rfl,rfl⟩);generalize bs (a4++oQ lv st qs xs i)=U1 at*;generalize bs (snap++oT lv st qs xs i)=U2 at*;have w8:=J m3;generalize bs x=Sx at*;clear r5 R L1 g4 u7 l2 m7 c4 aF b0 j7 b8 l c5 v4 v5 m3 a9 b2 lg m4 d7 d8 d9 e7 j8 h7 f5;go_wp2
  go_region_held3 (λW=>zO (wr.alloc (.cells #[a,c] 68)) ⟨wr,0,none⟩ ⟨wr,1,none⟩ ⟨w,4,none⟩ ⟨w,2,none⟩ ⟨b7,d2+i,none⟩ a c (.slice (some (b7,d2)) j a7) lv (.bool q) W) (first|with_reducible assumption) (first
   |(go_at_call 50;with_reducible refine(s9.o _).mono ?_;rintro r v6 ⟨rfl,D⟩;have a3:=n9.o _ _ qB D;clear D));obtain⟨_,_,_,_,_,B⟩:=a3;have h3:=J (q8.o.trans (B.mono q8.o.size));have c4:=i2.o _ B;have l9:o4<v6:=eg l8 (co (by simp) B.size);clear B n9 k8;cases h0:eR (a,c) q (lv:Int);.obtain⟨e9,f4⟩:=i3.o h0;have i7:=J e9;have i8:=J f4;clear e9 f4 h0 i3 l6;go_wp2;refine⟨⟨i+1,ab,ci,by rw[i7.o],by rw[i8.o],h3⟩,?_⟩;simp[intOf]<;>omega
  obtain⟨e9,f4⟩:=l6.o h0;have i7:=J e9;have i8:=J f4;clear e9 f4 h0 i3 l6;go_wp21;refine aP (a8.o _) λx8 D=>?_;have v7:=Below.cellAt D l9 c4;have t6:=J (h3.o.trans (D.mono h3.o.size));clear c4 D h3;go_wp2;refine⟨⟨i+1,ab,ci,by rw[<-i7.o],by rw[<-i8.o],t6⟩,?_⟩;simp[intOf]<;>omega
 have l0:i=j:=O;subst l0;obtain⟨A1,A2⟩:=BQ (lv:=(lv:Int)) I.o.symm c6.o b9.o;rw[A1,A2];have i5:a4++lw lv st qs (zsT lv st qs xs)=YR st f t lv sp E qs snap (zsT lv st qs xs):=by rw[NQ,<-I.o,h4.o,t3.o,h9.o,t4.o,t5.o]
 rw[i5];have M:(YR st f t lv sp E qs snap (zsT lv st qs xs)).length<=2000:=by rw[<-i5,bV];have:=Lg (lv:Int) st qs (zsT lv st qs xs);have:=h6.o;exact kG
 obtain⟨f8,m9⟩:=ay (YR st f t lv sp E qs snap (zsT lv st qs xs));obtain⟨a0,h2⟩:=ay (snap++iT lv st qs xs);have p1:a0.length<=8000000:=by have:=Mp (lv:=(lv:Int)) (st:=st) (qs:=qs) i4.o (by have:=I.o;have:=b9.o;omega) (by have:=c6.o;have:=b9.o;omega) i (by have:=b9.o;omega);rw[A2] at this;rw[<-h2,bV];omega
 have G:Hid (oj st f t lv sp E qs snap xs=match Zo 5 f8 with
  |none=>([],9)
  |some x=>if 16384<2+x.length+a0.length then([],9) else(UInt8.ofNat (x.length/256)::UInt8.ofNat x.length::(x++a0),0)):=J (by unfold oj;rw[m9,h2];rfl)
 rw[m9] at M⊢;rw[h2];have a5:=λW=>Z1k 5 aY f8 O W;unfold rJ at a5;rw[show(((5:Nat):Int))=5 from rfl] at a5;have h1:=Z0 a0;clear A1 A2 i5 m9 h2 M;generalize bs f8=SH at*;rcases d1:Zo 5 f8 with _|x;rw[d1] at a5 G;rw[show mV none=.tuple #[.string ⟨#[]⟩,(9:Int)] from rfl] at a5;have L:=J a5;generalize bs a0=ST at*;clear a5 h1 d1;exact O1;rw[d1] at a5 G;rw[show mV (some x)=.tuple #[bs x,(0:Int)] from rfl] at a5;simp only at G;have b8:=LU d1;have c3:=Z0 x;have f9:(16384:Int)<2+((bs x).size:Int)+((bs a0).size:Int)↔16384<2+x.length+a0.length:=(by rw[c3,h1];omega);have l3:IntKind.i64.wrap (2+((bs x).size:Int))=2+((bs x).size:Int):=lO;have l5:IntKind.i64.wrap (2+((bs x).size:Int)+((bs a0).size:Int))=2+((bs x).size:Int)+((bs a0).size:Int):=lO;have L:=J a5;by_cases d6:(16384:Int)<2+((bs x).size:Int)+((bs a0).size:Int);rw[Vag (f9.1 d6)] at G;generalize bs a0=ST at*;generalize bs x=SX at*;clear a5 h1 d1 c3 b8 f9;exact O1;rw[aD (λh=>d6 (f9.2 h))] at G;have o7:=Zdf (bs x).size O;have n6:Hid (bs (oj st f t lv sp E qs snap xs).1=bs [UInt8.ofNat ((bs x).size/256),UInt8.ofNat (bs x).size]++bs x++bs a0/\(oj st f t lv sp E qs snap xs).2=0):=J (by rw[G.o,c3,Z9,Z9];exact⟨by simp only[jw,pU,er],rfl⟩);have o9:(bs [UInt8.ofNat ((bs x).size/256),UInt8.ofNat (bs x).size]).size=2:=Z0 _;have s1:=XY (a:=(bs [UInt8.ofNat ((bs x).size/256),UInt8.ofNat (bs x).size]).size) (b:=(bs x).size) O;have s2:=XY (a:=(bs [UInt8.ofNat ((bs x).size/256),UInt8.ofNat (bs x).size]).size+(bs x).size) (b:=(bs a0).size) O;generalize bs [UInt8.ofNat ((bs x).size/256),UInt8.ofNat (bs x).size]=S8 at*;generalize bs a0=ST at*;generalize bs x=SX at*;clear a5 h1 d1 c3 f9 G o9;go_wp21;refine aP (L.o _) λd D=>?_;have F:=J (hb.o.trans (D.mono hb.o.size));have p3:=o7 d;clear D hb o7;go_wp2;go_returns;exact⟨by rw[n6.o.1,n6.o.2];rfl,a2.o.trans ((F.o.alloc F.o.size _).mono a2.o.size)⟩
