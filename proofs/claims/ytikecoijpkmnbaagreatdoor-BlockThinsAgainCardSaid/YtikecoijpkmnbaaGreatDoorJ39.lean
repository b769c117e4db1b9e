import Derived.Test.YtikecoijpkmnbaaGreatDoorJ38
set_option linter.all false
set_option maxRecDepth 100000
set_option maxHeartbeats 0
section
variable{P Q:Prop}
theorem As(h:P:=by rw[R,show g=b from e]):P:=h
theorem I9(h:P:=by rw[R,show g=w0 from e]):P:=h
theorem PX(h:P:=by go_in;go_wp21;refine cp (I.o _) ?_;go_wp2;go_returns;exact⟨rfl,q.o⟩):P:=h
theorem Pm(h:P:=by exact⟨rfl,rfl,rfl,by simp only;omega,by simp only;omega,Int.le_refl _,by simp⟩):P:=h
theorem EF(h:P:=by go_in;go_wp2;go_quiet (fail);go_wp2;go_returns;exact⟨rfl,_,u.o.drewN _,q.o.drewN _,.inl rfl⟩):P:=h
theorem O9(h:P:=by rcases t with h|h;rw[h];exact e2 b rfl;rw[h];intro h;injection h with h;have h:w+1=b:=h;omega):P:=h
theorem O1(h:P:=by go_wp21;refine ij (Q.o _) hb λl F=>?_;clear hb;go_wp2;go_returns;exact⟨by rw[G.o];rfl,a2.o.trans (F.o.mono a2.o.size)⟩):P:=h
theorem Nq(h:P:=by simp only[jH];generalize bs s=S at*;go_in;go_wp21;refine aP I.o λw1 ⟨v',t1,p,q⟩=>?_;obtain⟨d9,u,z⟩:=bD t1 (B.o w _ p) (q.imp id (λ⟨g,y,t⟩=>⟨g,y,k g t⟩):_\/∃g,v'.ownBlock=some g/\w.heap.size<=g);clear t1 p q;go_wp2;go_returns;exact⟨rfl,v',d9.o,u.o,z.o⟩):P:=h
end
namespace Go.Proofs.Y
open Tryz Wv Go.RowKit
variable{W w w' w0:aq}{b base:Nat}{d:aT}{o:Int}{v:aI}
theorem Zl0:(prog.info? 41).map (λi=>(i.zero,i.size,i.bytes))=some (some (.agg #[(0:Int),(0:Int)]),2,16):=dw
structure TxAt (w:World) (b base:Nat) (D:ca) (v:Value):Prop where
 bk:Bk w b 49 #[bs D.s,D.fail,D.code,D.calls,v]
 own:w.ownsRow base 41 2 v D.parts.length (pv D.parts)
 ap:v.ownBlock≠some b
theorem TxAt.drewN {D:ca} (h:TxAt w b base D v) (n:Nat):TxAt (w.drewN n) b base D v:=⟨h.bk,h.own,h.ap⟩
def uw (b:Nat) (v:aI):Nat->Prop:=λk=>k=b\/v.ownBlock=some k
theorem Qm (l:List (Int×Int)) (p:Int×Int):pv (l++[p])=pv l++[.int .i64 p.1,.int .i64 p.2]:=by unfold pv;rw[yD];rfl
theorem CU {P : Program} (t e : TypeId) (z : aI) (bytes size : Nat) (a0 : P.underlying t = some (.slice e)) (p : (P.info? e).map (λi => (i.zero, i.size, i.bytes)) = some (some z, size, bytes)) (D : z.cells.size = size) (a2 : 0 < size) {w : aq} {B : Nat} {v : aI} {n : Nat} {xs : List aI} (h : w.ownsRow B e size v n xs) (M : B <= w.heap.size) (ys : List aI) (a3 : ys.length = size) (h1 : ∀ y ∈ ys, y.oneCell' = true) (F : n + 1 <= maxLen) (q : (n + 1) * bytes <= 140737488355328) :
    ∃g w',(Builtin.append_ #[t,t] t #[v,.slice (some (w,0)) 1 1]).run P (w.alloc (.cells ys.toArray e))=.ok g w'/\w'.ownsRow B e size g (n+1) (xs++ys)/\Fr (λk=>v.ownBlock=some k) w w'/\(g.ownBlock=v.ownBlock\/g.ownBlock=some (w.heap.size+1)):=by obtain⟨i,hi,a1,S,E⟩:=info_parts p;obtain ⟨g, w', R, G, I, _, l⟩ := run_append_own_at (P := P) (w.alloc (.cells ys.toArray e)) B t t e i z size bytes a0 hi a1 S E D a2 v n xs (h.alloc _) ⟨w, 0, none⟩ 1 1 ys O (λj u hu => OB) h1 F q (co M (by simp));refine⟨g,w',R,G,((Fr.refl _ w).alloc _).grown I (λk Q=>.inl Q),?_⟩;rcases l with l|l;exact .inl l;exact .inr (l.trans (by simp))
theorem Zcm {D:ca} (h:TxAt w b base D v) (d5:base<=w) (a6:D.s.length<=1099511627776) (e9: -1<=D.calls) (f5:D.calls<=1000000) (f6:D.parts.length<=1000000) (o l:Int):
  Calls prog 363 #[(b,0),o,l] w λx w'=>x=.returned (.tuple #[bs (gy D (o,l)).1.1,((gy D (o,l)).1.2:Int)])/\
   ∃R,TxAt w' b base (gy D (o,l)).2 R/\Fr (uw b v) w w'/\(R.ownBlock=v.ownBlock\/∃g,R.ownBlock=some g/\w.heap.size<=g):=by
 obtain⟨y,M,F⟩:=h;obtain⟨a0,a3,a2,rfl⟩:=Z7 M;have a7:=y.cell 0;have q1:=y.cell 1;have q2:=y.cell 2;have q3:=y.cell 3;have q4:=y.cell 4;have c7:=y.frozen 3;have c8:=y.frozen 4;simp at a7 q1 q2 q3 q4 c7 c8;have f7:IntKind.i64.wrap (D.calls+1)=D.calls+1:=lO;obtain⟨z,I,q⟩:=bD (y.put 3 (D.calls+1:Int)) (Zq M (p:=⟨b,3,none⟩) F (D.calls+1:Int)) ((Fr.refl (uw b (.slice a0 a3 a2)) w).setCell (p:=⟨b,3,none⟩) (.inl (.inl rfl)) (D.calls+1:Int));have r0:=z.o.cell 0;have d8:=z.o.cell 1;have d9:=z.o.cell 2;have e1:=z.o.cell 3;have e3:=z.o.cell 4;have c9:=z.o.frozen 4;simp at r0 d8 d9 e1 e3 c9;have u:Hid (TxAt (w.setCell (b,3) (D.calls+1:Int)) b base { D with calls:=D.calls+1 } (.slice a0 a3 a2)):=J ⟨by simpa using z.o,I.o,F⟩;by_cases hF:D.calls+1=D.fail;.have B:gy D (o,l)=(([],D.code), { D with calls:=D.calls+1 }):=(by unfold gy;rw[Vag hF]);rw[B];have a5:(D.calls+1==D.fail)=true:=(by rw[beq_iff_eq];exact hF);clear y M F B hF I z;go_in;go_wp2;go_quiet (fail);go_wp2;go_quiet (fail);go_wp2;go_returns;exact⟨rfl,_,(u.o.drewN _).drewN _,(q.o.drewN _).drewN _,.inl rfl⟩
 have a5:(D.calls+1==D.fail)=false:=(by rw[lL];exact hF);cases a1:inT D.s (o,l);have B:gy D (o,l)=(([],2), { D with calls:=D.calls+1 }):=(by unfold gy;rw[Vae hF,Vag a1]);rw[B];have a8:o<0\/l<0\/(D.s.length:Int)<o\/(D.s.length:Int)-o<l:=Rh;have E:=Z0 D.s;obtain⟨S,G⟩:=ay (bs D.s);obtain⟨L,b6⟩:=ay D.s.length;rw[G] at a7 r0 E;rw[b6] at E a8 a6;clear y M F B hF I z a1;rw[<-E] at a8 a6;clear E b6 G;by_cases h1:o<0;exact EF;by_cases b3:l<0;exact EF;by_cases b4:(S.size:Int)<o;exact EF;have b5:(S.size:Int)-o<l:=O;exact EF;unfold inT at a1;simp only[gm,Vax] at a1;obtain⟨⟨⟨h1,b3⟩,b4⟩,b5⟩:=a1;obtain⟨a,rfl⟩:=Int.eq_ofNat_of_zero_le h1;obtain⟨c,rfl⟩:=Int.eq_ofNat_of_zero_le b3;have B:gy D ((a:Int),(c:Int))=((tI D.s ((a:Int),(c:Int)),0), { D with calls:=D.calls+1,parts:=D.parts++[((a:Int),(c:Int))] }):=by unfold gy;rw[Vae hF,Vae];unfold inT;simp only[Ca,uJ];omega
 rw[B];have E:=Z0 D.s;have b7:Hid (bs (tI D.s ((a:Int),(c:Int)))=(bs D.s).extract a (a+c)):=J (WL (bs D.s) a c).symm;rw[b7.o];obtain⟨S,G⟩:=ay (bs D.s);rw[G] at a7 r0 E⊢;have c3:=J G;rw[<-E] at b4 b5 a6;have d1:¬(a:Int)<0:=O;have d2:¬(c:Int)<0:=O;have d3:¬(S.size:Int)<a:=O;have d4:¬(S.size:Int)-a<(c:Int):=O;have f2:decide ((a:Int)<0)=false:=Vai d1;have e7:decide ((c:Int)<0)=false:=Vai d2;have e8:decide ((S.size:Int)<a)=false:=Vai d3;have e6:decide (S.size<a)=false:=Vai O;have f8:decide ((S.size:Int)-a<(c:Int))=false:=Vai d4;have d7:b<w:=y.lt;have c4:=J u.o.bk;have e2:∀k,k=b->¬(Value.slice a0 a3 a2).ownBlock=some k:=λk d6 h=>F (by rw[h,d6]);clear y F B hF z b7 G E;go_in;go_wp2;go_quiet (fail);obtain⟨R,W,a4,b2,b8,t⟩:=CU (P:=prog) 42 41 _ _ 2 underlying42 Zl0 rfl aY (w:=(w.setCell ⟨b,3,none⟩ (D.calls+1:Int)).drewN nq) I.o (by simpa using d5) [.int .i64 (a:Int),.int .i64 (c:Int)] rfl sX fU O;obtain⟨A2,b0,a9,rfl⟩:=Z7 b2;have c5:((w.setCell (b,3) (D.calls+1:Int)).drewN nq).heap.size=w.heap.size:=(by simp);rw[c5] at a4 t;have c6:=J a4;have Q:Bk W b 49 #[bs D.s,D.fail,D.code,(D.calls+1:Int),(a0,a3,a2)]:=(c4.o.drewN nq).fr b8 (e2 b rfl);have b1:=J (Q.put 4 (.slice A2 b0 a9));have e4:=Q.frozen 4;have e5:=Q.cell 4;have b9:=b1.o.cell 0;rw[c3.o] at b9;simp at b9 e4 e5;clear a4 Q;go_wp2_with (at_builtin;refine Z5 iG rfl _ _ _ rfl _ _ (by rfl) (by rfl) c6.o ?_);go_wp2;go_returns;refine⟨rfl,.slice A2 b0 a9,⟨by simpa using b1.o,?_,?_⟩,?_,?_⟩;have e:(D.parts++[((a:Int),(c:Int))]).length=D.parts.length+1:=(by simp);show(W.setCell _ _).ownsRow _ _ _ _ (D.parts++[((a:Int),(c:Int))]) _;rw[e,Qm];refine Zq b2 ?_ _;exact O9;exact O9;exact(((q.o.drewN nq).trans' b8 (λ_ _ h=>.inr h)).setCell (.inl (.inl rfl)) _);rcases t with h|h;exact .inl h;exact .inr ⟨_,h,O⟩
def jH (r:ax×Nat):aI:=.tuple #[bs r.1,r.2]
theorem Wa (D:ca) (o:Int):dr D (o,0)=(([],0),D):=by unfold dr;rw[Vag rfl]
theorem ZpJ {D:ca} {l:Int} (h0:l≠0):dr D (o,l)=if(gy D (o,l)).1.2=2 then(([],12),(gy D (o,l)).2) else if(gy D (o,l)).1.2≠0 then(([],(gy D (o,l)).1.2),(gy D (o,l)).2) else gy D (o,l):=by unfold dr;rw[Vae h0]
theorem Z7W (hd:d.size<=1099511627776) {D:ca} (t:D.s=aH d) (ok:qn D) (o l:Int) (w:aq):
  Calls prog 27 #[.iface 72 (.string d),.agg #[o,l]] w (bM w (jH (dr D (o,l)).1)):=by
 have q:=J ((bf w w).alloc aU (.cells #[o,l] 41));have I:=J (λW=>ZaU d hd o l W);obtain⟨_,_,g⟩:=zg ok (o,l);by_cases h0:l=0;.subst h0;have k:Hid (jH (dr D (o,0)).1=.tuple #[.string ⟨#[]⟩,(0:Int)]):=J (by rw[Wa];rfl);clear g I;rw[k.o];go_in;go_wp2;go_returns;exact⟨rfl,q.o⟩
 have u:(l==0)=false:=(by rw[lL];exact h0);rw[t,Dq _ _ h0] at g;rw[show(aH d).length=d.size from rfl] at g;clear ok t;cases p:inT d.size (o,l);rw[p,Vag rfl] at I;have k:Hid (jH (dr D (o,l)).1=.tuple #[.string ⟨#[]⟩,(12:Int)]):=J (by rw[g,p];rfl);clear g;rw[k.o];exact PX;rw[p,Vae aY] at I;have k:Hid (jH (dr D (o,l)).1=.tuple #[bs (tI (aH d) (o,l)),(0:Int)]):=J (by rw[g,p];rfl);clear g;rw[k.o];generalize bs (tI (aH d) (o,l))=S at*;exact PX
theorem TxAt.nob {D:ca} (h:TxAt w b base D v) (g:Fr nob w w'):TxAt w' b base D v:=⟨h.bk.fr g id,Z6 h.own g (λ_ _ f=>f),h.ap⟩
def M' (w:aq) (b base:Nat) (v:aI) (r:(ax×Nat)×ca) (x:Ending) (w':aq):Prop:=
 x=.returned (jH r.1)/\∃k,TxAt w' b base r.2 k/\Fr (uw b v) w w'/\(k.ownBlock=v.ownBlock\/∃g,k.ownBlock=some g/\w.heap.size<=g)
theorem ZaZ {D:ca} (h:TxAt w b base D v) (a1:base<=w) (M:D.s.length<=1099511627776) (a0: -1<=D.calls) (F:D.calls<=1000000) (G:D.parts.length<=1000000) (o l:Int):
  Calls prog 27 #[.iface 47 (.pointer (some (b,0))),.agg #[o,l]] w λx w'=>M' w b base v (dr D (o,l)) x w':=by
 have E:=J ((Fr.refl nob w).alloc (.cells #[o,l] 41));have h1:=h.nob E.o;have I:=J (Zcm h1 (co a1 E.o.size) M a0 F G o l);have B:=J (λ(X W:aq) (h:Fr (uw b v) (w.alloc (.cells #[o,l] 41)) W)=>E.o.of_nob.trans' h (λ_ _ h=>h));have k:∀g,(w.alloc (.cells #[o,l] 41)).heap.size<=g->w.heap.size<=g:=λg a2=>(by rw[World.size_alloc] at a2;omega);unfold M';by_cases h0:l=0;.subst h0;have R:=J (Wa D o);have Q:=J h1;clear h h1 I M F G;rw[R.o];go_in;go_wp2;go_returns;exact⟨rfl,v,Q.o,E.o.of_nob,.inl rfl⟩
 have a3:(l==0)=false:=(by rw[lL];exact h0);rw[ZpJ h0];obtain⟨⟨⟨s,e⟩,D2⟩,hR⟩:=ay (gy D (o,l));rw[hR] at I⊢;simp only at I⊢;clear h h1 hR M F G;by_cases e2:e=2;.subst e2;rw[Vag rfl];go_in;go_wp21;refine aP I.o λw1 ⟨v',t1,p,q⟩=>?_;obtain⟨d9,u,z⟩:=bD t1 (B.o w _ p) (q.imp id (λ⟨g,y,t⟩=>⟨g,y,k g t⟩):_\/∃g,v'.ownBlock=some g/\w.heap.size<=g);clear t1 p q;go_wp2;go_returns;exact⟨rfl,v',d9.o,u.o,z.o⟩
 rw[Vae e2];by_cases e0:e=0;subst e0;rw[Vae (λh=>h rfl)];exact Nq;rw[Vag e0];have c2:((e:Int)==2)=false:=W4P;have c0:((e:Int) !=0)=true:=eV;exact Nq
abbrev di (h:Hd) (AQ:Wto) (kq:Nat) (AG:Wto) (kg:Nat) (AS:Wto) (ks:Nat):Array aI:=
 #[h.f,h.t,h.lv,h.sp,(AQ,h.quiet.length,kq),(AG,h.gaps.length,kg),h.off,h.sn,(AS,h.strs.length,ks)]
def ky (l:List Bool):List aI:=l.map Value.bool
structure gZ (w:World) (h:Hd) (AQ AG AS:Option Addr):Prop where
 q:At w AQ (ky h.quiet)
 g:At w AG (pv h.gaps)
 s:At w AS (pv h.strs)
theorem gZ.below {h:Hd} {AQ AG l:Wto} (k:gZ w h AQ AG l) (hb:Below w w w'):gZ w' h AQ AG l:=⟨k.q.below hb,k.g.below hb,k.s.below hb⟩
theorem Vl {f t:Int} {lv sp:Int} {Q G S:aI} {z:Int} (hb:Below (w.alloc (.cells #[f,t,lv,sp,Q,G,o,z,S] 44)) (w.alloc (.cells #[f,t,lv,sp,Q,G,o,z,S] 44)) W):
  (W.cell? (w,0)=f/\W.cell? (w,1)=t/\W.cell? (w,2)=lv/\W.cell? (w,3)=sp/\W.cell? (w,4)=some Q/\W.cell? (w,5)=some G/\W.cell? (w,6)=o/\W.cell? (w,7)=z/\W.cell? (w,8)=some S)/\Below w w W/\w<W.heap.size:=by have h:=(Bk.new w 44 #[f,t,lv,sp,Q,G,o,z,S]).below hb (by simp);exact⟨⟨h.cell 0,h.cell 1,h.cell 2,h.cell 3,h.cell 4,h.cell 5,h.cell 6,h.cell 7,h.cell 8⟩,((bf w w).alloc aU _).trans (hb.mono (by simp)),h.lt⟩
theorem Tx {A:Wto} {st:List (Int×Int)} (E:At w A (pv st)) (n cap:Nat) (k:n=st) (F:n<=9223372036854775807) (h:Hd) (AQ:Wto) (l:Nat) (AG:Wto) (kg:Nat) (g:Wto) (ks:Nat) (q4:h.quiet.length<=9223372036854775807) (a0:h.strs.length<=9223372036854775807):
  Calls prog 30 #[(A,n,cap),.agg (di h AQ l AG kg g ks)] w (bM w (gV st h)):=by
 have y:=J ((bf w w).alloc aU (.cells (di h AQ l AG kg g ks) 44));have u:=J (JU (E.below y.o) n cap k F);have p:=J (λW hb=>Vl (w:=w) (W:=W) (f:=h.f) (t:=h.t) (lv:=(h.lv:Int)) (sp:=(h.sp:Int)) (Q:=.slice AQ h.quiet l) (G:=.slice AG h.gaps kg) (S:=.slice g h.strs ks) (o:=h.off) (z:=(h.sn:Int)) hb);have q:Hid (gV st h=(fN st&&((h.quiet.length:Int)==n)&&((h.strs.length:Int)==n))):=J (by subst k;unfold gV;rw[lN];simp only[gm,Vax,beq_iff_eq,Int.ofNat_inj]);generalize gV st h=R at*;generalize fN st=B at*;obtain⟨f,t,lv,sp,gs,qs,off,sn,M⟩:=h;simp only[di] at*;generalize qs.length=nq at*;generalize M.length=ns at*;clear E k;go_in;go_wp21;refine aP u.o λw1 D=>?_;obtain⟨⟨a1,a2,a3,a4,a5,a6,a7,a8,a9⟩,aa,_⟩:=p.o _ D;have I:=J aa;clear D aa u p y
 cases e1:((nq:Int)==n)<;>cases e2:((ns:Int)==n)<;>cases B<;>(
  rw[e1,e2] at q;go_wp2;go_returns;exact⟨Z4 q.o.symm,I.o⟩)
structure oY (w0:World) (V:Value) (I:World->ca->(Nat->Prop)->Prop):Prop where
 rdF:∀ {W:World} {D:ca} {T:Nat->Prop},I W D T->D.calls<=1000->D.parts.length<=1000->∀o l:Int,
  cK 27 #[V,.agg #[o,l]] W λx w'=>x=.returned (jH (dr D (o,l)).1)/\∃T',I w' (dr D (o,l)).2 T'/\Fr T W w'/\∀k,T' k->T k\/W.heap.size<=k
 frS:∀ {W W':World} {D:ca} {T S:Nat->Prop},I W D T->Fr S W W'->(∀k,S k->¬T k/\w0.heap.size<=k)->I W' D T
 lt:∀ {W:World} {D:ca} {T:Nat->Prop},I W D T->∀k,T k->k<W.heap.size
 bl:∀ {W:World} {D:ca} {T:Nat->Prop},I W D T->Below w0.heap.size w0 W
theorem oY.fr {V:aI} {I:aq->ca->(Nat->Prop)->Prop} (R:oY w0 V I) {W':aq} {D:ca} {T:Nat->Prop} (hi:I W D T) (g:Fr nob W W'):I W' D T:=R.frS hi g (λ_ k=>k.elim)
theorem Kj (w0:aq) (hd:d.size<=1099511627776):oY w0 (.iface 72 (.string d)) (λW D T=>D.s=aH d/\qn D/\T=nob/\Below w0 w0 W) where
 rdF:=by intro W D T hi _ _ o l;obtain⟨h1,p,q,g⟩:=hi;refine(Z7W hd h1 p o l W).mono ?_;rintro x w' ⟨rfl,hb⟩;obtain⟨k1,k2,_⟩:=zg p (o,l);exact⟨rfl,T,⟨by rw[k2,h1],k1,q,g.trans (hb.mono g.size)⟩,Fr.of_below hb,λk h=>.inl h⟩
 frS:=λ⟨h1,p,q,g⟩ hf hS=>⟨h1,p,q,g.trans (hf.toBelow' g.size (λk t u=>by have:=(hS k u).2;omega))⟩
 lt:=by intro W D T hi k t;rw[hi.2.2.1] at t;exact t.elim
 bl:=λhi=>hi.2.2.2
theorem ZqT (D:ca) (p:Int×Int):(gy D p).2.s=D.s/\(gy D p).2.fail=D.fail/\(gy D p).2.code=D.code/\D.calls<=(gy D p).2.calls/\(gy D p).2.parts<=D.parts.length+1/\(gy D p).2.calls<=D.calls+1/\(gy D p).1.1<=D.s.length:=by unfold gy;split;exact Pm;split;exact Pm;refine⟨rfl,rfl,rfl,dz,by simp,Int.le_refl _,?_⟩;simp only[tI,ek,iW];omega
theorem zl (D:ca) (p:Int×Int):(dr D p).2.s=D.s/\(dr D p).2.fail=D.fail/\(dr D p).2.code=D.code/\D.calls<=(dr D p).2.calls/\(dr D p).2.parts<=D.parts.length+1/\(dr D p).2.calls<=D.calls+1/\(dr D p).1.1<=D.s.length:=by obtain⟨a1,a2,a3,a4,a5,a6,g⟩:=ZqT D p;unfold dr;split;exact⟨rfl,rfl,rfl,Int.le_refl _,dz,dz,by simp⟩;split;exact⟨a1,a2,a3,a4,a5,a6,by simp⟩;split;exact⟨a1,a2,a3,a4,a5,a6,by simp⟩;exact⟨a1,a2,a3,a4,a5,a6,g⟩
theorem Zjy (h0:w0<=b) (h1:w0<=base):oY w0 (.iface 47 (.pointer (some (b,0)))) (λW D T=>∃v,TxAt W b base D v/\base<=W.heap.size/\D.s.length<=1099511627776/\-1<=D.calls/\T=uw b v/\Below w0 w0 W) where
 rdF:=by intro W D T hi c1 c2 o l;obtain⟨v,k1,k2,k3,y,q,p⟩:=hi;refine(ZaZ k1 k2 k3 y O O o l).mono ?_;rintro x w' ⟨rfl,F,t1,B,I⟩;obtain⟨a1,a2,a3,a4,a5,a6,M⟩:=zl D (o,l);subst q;refine⟨rfl,uw b F,⟨F,t1,co k2 B.size,by rw[a1];exact k3,O,rfl,?_⟩,B,?_⟩;refine p.trans (B.toBelow' p.size (λk u t=> ?_));rcases t with h|h;exact O;have:=(k1.own.lt k h).1;omega;intro k u;rcases u with h|h;exact .inl (.inl h);rcases I with e|⟨g,e,E⟩;exact .inl (.inr (by rw[<-e];exact h));rw[e] at h;injection h with h;exact .inr O
 frS:=by rintro W W' D T S ⟨v,k1,k2,k3,y,q,p⟩ z t;subst q;exact⟨v,⟨k1.bk.fr z (λh=>(t _ h).1 (.inl rfl)),Z6 k1.own z (λg E h=>(t _ h).1 (.inr E)),k1.ap⟩,co k2 z.size,k3,y,rfl,p.trans (z.toBelow' p.size (λk u G=>by have:=(t k G).2;omega))⟩
 lt:=by rintro W D T ⟨v,k1,k2,k3,y,q,p⟩ k u;subst q;rcases u with h|h;rw[h];exact k1.bk.lt;exact(k1.own.lt k h).2
 bl:=λ⟨v,k1,k2,k3,y,q,p⟩=>p
end Go.Proofs.Y
namespace Wv
open Go.Proofs.Tryz Go.Proofs.Y
variable{k:Nat}{lv:Int}{qs:List Bool}{st:List (Int×Int)}{xs:List ax}
def zx (n:Nat) (f t:Int) (lv sp ng:Nat):ax:=bi n++(bi (f+1).toNat++(bi (t-f).toNat++(bi lv++(bi sp++bi ng))))
theorem NQ (st:List (Int×Int)) (f t:Int) (lv sp:Nat) (gs:List (Int×Int)) (qs:List Bool) (sn:Nat) (zs:List Nat):
  YR st f t lv sp gs qs sn zs=(((zx st f t lv sp gs.length++lX f gs)++mD qs)++bi sn)++lenT lv st qs zs:=by unfold YR xC zx;grind
theorem NH (f:Int) (l:List (Int×Int)) (g:Int×Int):lX f (l++[g])=lX f l++(bi (g.1-f-1).toNat++bi (g.2-g.1).toNat):=by unfold lX;grind
theorem NL (l:List Bool) (q:Bool):mD (l++[q])=mD l++bi q.toNat:=by unfold mD;grind
theorem Zmr (n:Nat) (f t:Int) (lv sp ng:Nat):(zx n f t lv sp ng).length<=54:=by unfold zx;simp only[Vab];have g:=ZF n;have a1:=ZF (f+1).toNat;have a2:=ZF (t-f).toNat;have a3:=ZF lv;have a4:=ZF sp;have a5:=ZF ng;omega
theorem W3 (f:Int) (l:List (Int×Int)):(lX f l).length<=18*l.length:=Do _ 18 (λg=>Px) l
theorem u_ (l:List Bool):(mD l).length<=9*l.length:=Do _ 9 (λq=>ZF _) l
theorem Lg (lv:Int):∀(st:List (Int×Int)) (qs:List Bool) (zs:List Nat),(lenT lv st qs zs).length<=9*st.length
 |s::st,q::qs,z::zs=>by rw[lenT,Vab,gd];have:=Lg lv st qs zs;have:=ZF z;grind
 |[],_,_=>by unfold lenT;simp
 |_::_,[],_=>by unfold lenT;simp
 |_::_,_::_,[]=>by unfold lenT;simp
theorem VJ (lv:Int) (s:Int×Int) (q:Bool) (x:ax):∀(st:List (Int×Int)) (qs:List Bool) (xs:List ax),st=xs.length->qs.length=xs.length->iT lv (st++[s]) (qs++[q]) (xs++[x])=iT lv st qs xs++(if hasS s q lv=true then x else[])
 |[],[],[],_,_=>by simp[iT]
 |s'::st,q'::qs,z'::xs,h1,h2=>by rw[jw,jw,jw,iT,iT,VJ lv s q x st qs xs aO aO,er]
 |[],_,_::_,h1,_=>aO
 |_::_,_,[],h1,_=>aO
 |_,[],_::_,_,h2=>aO
 |_,_::_,[],_,h2=>aO
theorem VW (lv:Int) (s:Int×Int) (q:Bool) (x:ax):∀(st:List (Int×Int)) (qs:List Bool) (xs:List ax),st=xs.length->qs.length=xs.length->zsT lv (st++[s]) (qs++[q]) (xs++[x])=zsT lv st qs xs++[if hasS s q lv=true then x.length else 0]
 |[],[],[],_,_=>by rfl
 |s'::st,q'::qs,z'::xs,h1,h2=>by rw[jw,jw,jw,zsT,zsT,VW lv s q x st qs xs aO aO,jw]
 |[],_,_::_,h1,_=>aO
 |_::_,_,[],h1,_=>aO
 |_,[],_::_,_,h2=>aO
 |_,_::_,[],_,h2=>aO
def lnK (lv:Int) (st:List (Int×Int)) (qs:List Bool) (xs:List ax) (k:Nat):ax:=lenT lv (st.take k) (qs.take k) (zsT lv (st.take k) (qs.take k) (xs.take k))
def oT (lv:Int) (st:List (Int×Int)) (qs:List Bool) (xs:List ax) (k:Nat):ax:=iT lv (st.take k) (qs.take k) (xs.take k)
theorem Vx (h1:k<st) (g:k<qs) (l:k<xs):
  lnK lv st qs xs (k+1)=lnK lv st qs xs k++(if hasS st[k] qs[k] lv=true then bi xs[k].length else[])/\oT lv st qs xs (k+1)=oT lv st qs xs k++(if hasS st[k] qs[k] lv=true then xs[k] else[]):=by unfold lnK oT;have p:(st.take k)=k:=aO;have l2:(qs.take k)=k:=aO;have q:(xs.take k)=k:=aO;rw[dK h1,dK g,dK l];have l4:=Du lv (st.take k) (qs.take k) (xs.take k) O O;refine⟨?_,VJ lv _ _ _ _ _ _ O O⟩;rw[VW lv _ _ _ _ _ _ O O,J7 lv _ _ _ _ _ _ O O];grind
theorem BQ {n:Nat} (h1:st=n) (g:qs=n) (k:xs=n):lnK lv st qs xs n=lenT lv st qs (zsT lv st qs xs)/\oT lv st qs xs n=iT lv st qs xs:=by unfold lnK oT;grind
theorem G' (lv:Int) (st:List (Int×Int)) (qs:List Bool) (xs:List ax) (k:Nat):(lnK lv st qs xs k).length<=9*st.length:=by have:=Lg lv (st.take k) (qs.take k) (zsT lv (st.take k) (qs.take k) (xs.take k));rw[ek] at this;unfold lnK;omega
theorem Mp {lv:Int} {st:List (Int×Int)} {qs:List Bool} {xs:List ax} {M:Nat} (l:∀x∈xs,x.length<=M) (h1:st=xs.length) (g:qs=xs.length):∀k,k<=xs.length->(oT lv st qs xs k).length<=M*k
 |0,_=>by simp[oT,iT]
 |k+1,h=>by rw[(Vx (lv:=lv) (show k<st.length by omega) (show k<qs.length by omega) (show k<xs.length by omega)).2,Vab,Nat.mul_succ];have:=Mp (lv:=lv) l h1 g k O;grind
theorem LU {c w:ax} (h:Zo k c=some w):w.length<=5000:=by unfold Zo at h;rcases g:lx c with _|t;exact aO;rw[g] at h;injection h with h;have p:=C5 g;rw[<-h,QT];have h1:(ZM c t).length<=4096:=Fi;have l:=ZF (ZM c t);omega
end Wv
namespace Go.Proofs.Y
open Tryz Wv Go.RowKit
variable{V:aI}{W w1:aq}{most:Int}{n:Nat}
def dG (I:aq->ca->(Nat->Prop)->Prop) (w:aq) (T:Nat->Prop) (D:ca) (w':aq):Prop:=∃g,I w' D g/\Fr T w w'/\∀k,g k->T k\/w.heap.size<=k
theorem dG.step {I:aq->ca->(Nat->Prop)->Prop} {w0:aq} (R:oY w0 V I) {w g p:aq} {T:Nat->Prop} {D:ca} (h1:Below w w w1) (u:dG I w1 T D g) (l:Below g g p):dG I w T D p:=by obtain⟨q,i,f,t⟩:=u;refine⟨q,R.fr i (Fr.of_below l),((Fr.of_below h1).trans f).below l,λk y=> ?_⟩;rcases t k y with h|h;exact .inl h;exact .inr (co h1.size h)
theorem dG.start {I:aq->ca->(Nat->Prop)->Prop} {w0:aq} (R:oY w0 V I) {w:aq} {T:Nat->Prop} {D:ca} (hi:I w D T) (h1:Below w w w1):dG I w T D w1:=
 ⟨T,R.fr hi (Fr.of_below h1),Fr.of_below h1,λk h=>.inl h⟩
theorem dG.bl {I:aq->ca->(Nat->Prop)->Prop} {w0:aq} (R:oY w0 V I) {w:aq} {T:Nat->Prop} {D:ca} (h:dG I w T D w1):Below w0 w0 w1:=R.bl h.choose_spec.1
def EB (I:aq->ca->(Nat->Prop)->Prop) (w:aq) (T:Nat->Prop) (r:(a'×Nat)×ca) (x:Ending) (w':aq):Prop:=
 ∃v,x=.returned (.tuple #[v,r.1.2])/\sV w' v r.1.1/\dG I w T r.2 w'
abbrev hdZ:Array aI:= #[.int .i64 0,.int .i64 0,.int .i64 0,.int .i64 0,.slice none 0 0,.slice none 0 0,.int .i64 0,.int .i64 0,.slice none 0 0]
structure f' (w0:World) (b H:Nat) (s:ByteArray) (e:Nat) (cs:Array Value) (w:World):Prop where
 rv:RV w b s e
 hd:Bk w H 44 cs
 rs:Bk w w0.heap.size 44 hdZ
 bel:Below w0.heap.size w0 w
variable {w0 w w':aq} {b H:Nat} {s s':aT} {e e':Nat} {cs:Array aI}
theorem f'.fr {S:Nat->Prop} (h:f' w0 b H s e cs w) (g:Fr S w w') (h1:¬S b) (p:¬S H) (l:∀k,S k->w0.heap.size<k):f' w0 b H s e cs w':=
 ⟨Bk.fr h.rv g h1,h.hd.fr g p,h.rs.fr g (λk=>absurd (l _ k) (Nat.lt_irrefl _)),h.bel.trans (g.toBelow' h.bel.size (λk t q=>by have:=l k q;omega))⟩
theorem f'.num (h:f' w0 b H s e cs w) (hb:w0<b) (hH:b≠H) (p:RV w' b s' e') (g:Fr (only b) w w'):f' w0 b H s' e' cs w':=
 ⟨p,h.hd.fr g (λk=>hH k.symm),h.rs.fr g (λk=>by have k:w0=b:=k;omega),h.bel.trans (g.toBelow' h.bel.size (λk q l=>by have l:k=b:=l;omega))⟩
theorem f'.put (h:f' w0 b H s e cs w) (hH:b≠H) (h0:w0<H) (i:Nat) (u:aI):f' w0 b H s e (cs.setIfInBounds i u) (w.setCell (H,i) u):=
 ⟨Bk.off h.rv hH u,h.hd.put i u,h.rs.off (show w0.heap.size≠H by omega) u,h.bel.trans (((Fr.refl (only H) w).setCell (p:=⟨H,i,none⟩) (.inl rfl) u).toBelow' h.bel.size (λk l g=>by have g:k=H:=g;omega))⟩
theorem f'.alloc (h:f' w0 b H s e cs w) (o:Obj):f' w0 b H s e cs (w.alloc o):=h.fr ((Fr.refl nob w).alloc o) id id (λ_ k=>k.elim)
theorem f'.drew (h:f' w0 b H s e cs w):f' w0 b H s e cs w.drew:=h.fr (Fr.refl nob w).drew id id (λ_ k=>k.elim)
theorem f'.below (h:f' w0 b H s e cs w) (hb:Below w w w'):f' w0 b H s e cs w':=h.fr (Fr.of_below (S:=nob) hb) id id (λ_ k=>k.elim)
theorem f'.off (h:f' w0 b H s e cs w) {p:Addr} (h1:p.block≠b) (l:p.block≠H) (q:w0<p.block) (u:aI):f' w0 b H s e cs (w.setCell p u):=
 h.fr ((Fr.refl (only p.block) w).setCell (.inl rfl) u) (λk=>h1 k.symm) (λk=>l k.symm) (λk g=>by have g:k=p.block:=g;omega)
theorem G1 (h:bG s e most=(n,s',e')) (g:s.size<=1099511627776) (k:RV W b s e):
  cK 55 #[(b,0),most] W λx w'=>x=.returned n/\RV w' b s' e'/\Fr (only b) W w':=by have:=Zk k g most;rw[h] at this;exact this
theorem Bg (h:bG s e most=(n,s',e')) (l:s.size<=1099511627776) (hb:w0<b) (hH:b≠H) (k:f' w0 b H s e cs W):
  cK 55 #[(b,0),most] W λx w'=>x=.returned n/\f' w0 b H s' e' cs w'/\Fr (only b) W w':=
 (G1 h l k.rv).mono λx w' g=>⟨g.1,k.num hb hH g.2.1 g.2.2,g.2.2⟩
end Go.Proofs.Y
namespace Wv
open Go.Proofs.Tryz Go.Proofs.Y
variable{e e1 e2 k n:Nat}{s s1 s2:aT}
theorem TJ (f:Int) (x:Rs):∀k,(jo f x k).2.1.size<=x.1.size
 |0=>aU
 |k+1=>by rw[jo];exact co Zv (co Zv (TJ f x k))
theorem UA (x:Rs):∀k,(quiR x k).2.1.size<=x.1.size
 |0=>aU
 |k+1=>by rw[quiR];exact co Zv (UA x k)
theorem Zgk (s:Int×Int) (q:Bool) (lv:Int) (p:(List (Int×Int)×Int)×Rs):(sK s q lv p).2.1.size<=p.2.1.size:=by unfold sK;split;exact aU;split<;>exact Zv
theorem UM (lv:Int) (st:List (Int×Int)) (qs:List Bool) (a:Int) (x:Rs):∀k,(gD lv st qs a x k).2.1.size<=x.1.size
 |0=>aU
 |k+1=>by rw[gD];exact co (Zgk _ _ _ _) (UM lv st qs a x k)
theorem H_ {lv:Int} {st:List (Int×Int)} {qs:List Bool} {a:Int} {x:Rs} :∀k,a<=(gD lv st qs a x k).1.2/\(gD lv st qs a x k).1.2<=a+16384*k
 |0=>⟨Int.le_refl _,by simp[gD]⟩
 |k+1=>by obtain⟨h1,g⟩:=H_ (lv:=lv) (st:=st) (qs:=qs) (a:=a) (x:=x) k;rw[gD];generalize gD lv st qs a x k=p at*;have l:=Yu p.2.1 p.2.2 (most:=16384) O;unfold sK;split;exact⟨h1,dz⟩;split;exact⟨h1,dz⟩;exact⟨dz,dz⟩
theorem Ze7 {f:Int} {x:Rs} {l:List (Int×Int)} {m:Nat} (h:jo f x k=(l,(s,e))) (h1:bG s e 1099511627776=(n,s1,e1)) (g:bG s1 e1 1099511627777=(m,s2,e2)):
  jo f x (k+1)=(l++[(f+1+n,f+1+n+m)],(s2,e2)):=by rw[jo,h];simp only;rw[h1];simp only;rw[g]
theorem Zfq {x:Rs} {l:List Bool} (h:quiR x k=(l,(s,e))) (h1:bG s e 1=(n,s1,e1)):quiR x (k+1)=(l++[decide (n=1)],(s1,e1)):=by rw[quiR,h];simp only;rw[h1]
theorem ZpK {t s3 z B l:aT} {y n1 n2 n3 n4 k p q u g:Nat} (h0:bG t 0 64=(y,s1,e1)) (h1:bG s1 e1 1099511627776=(n1,s2,e2)) (D:bG s2 e2 1099511627777=(n2,s3,p)) (E:bG s3 p 2=(n3,z,q)) (F:bG z q 1099511627776=(n4,B,u)) (G:bG B u 16=(k,l,g)):
  mW t=⟨y,(n1:Int)-1,(n1:Int)-1+n2,n3,n4,(jo ((n1:Int)-1) (l,g) k).1,(jo ((n1:Int)-1) (l,g) k).2⟩:=by unfold mW;simp only[h0,h1,D,E,F,G]
end Wv
namespace Go.Proofs.Y
open Tryz Wv Go.RowKit
section
variable{V:aI}{W W0 w w0 w1:aq}{r:Nat}
abbrev Xu (W:aq) (r:Nat) (v0 v1 v2 v3 v4 v5 v6 v7 v8:aI):aq:=((((((((W.setCell ⟨r,0,none⟩ v0).setCell ⟨r,1,none⟩ v1).setCell ⟨r,2,none⟩ v2).setCell ⟨r,3,none⟩ v3).setCell ⟨r,4,none⟩ v4).setCell ⟨r,5,none⟩ v5).setCell ⟨r,6,none⟩ v6).setCell ⟨r,7,none⟩ v7).setCell ⟨r,8,none⟩ v8
theorem Xe (h:Bk W r 44 hdZ) (g k l q t u y z B:aI):
  Bk (Xu W r g k l q t u y z B) r 44 #[g,k,l,q,t,u,y,z,B]/\Fr (only r) W (Xu W r g k l q t u y z B):=by refine⟨by simpa using ((((((((h.put 0 g).put 1 k).put 2 l).put 3 q).put 4 t).put 5 u).put 6 y).put 7 z).put 8 B,?_⟩;exact(((((((((Fr.refl (only r) W).setCell (p:=⟨r,0,none⟩) (.inl rfl) g).setCell (p:=⟨r,1,none⟩) (.inl rfl) k).setCell (p:=⟨r,2,none⟩) (.inl rfl) l).setCell (p:=⟨r,3,none⟩) (.inl rfl) q).setCell (p:=⟨r,4,none⟩) (.inl rfl) t).setCell (p:=⟨r,5,none⟩) (.inl rfl) u).setCell (p:=⟨r,6,none⟩) (.inl rfl) y).setCell (p:=⟨r,7,none⟩) (.inl rfl) z).setCell (p:=⟨r,8,none⟩) (.inl rfl) B
theorem Zg {g l p q t u y z B:aI} (k:Bk W r 44 #[g,l,p,q,t,u,y,z,B]):
  W.cell? (r,0)=some g/\W.cell? (r,1)=some l/\W.cell? (r,2)=some p/\W.cell? (r,3)=some q/\W.cell? (r,4)=some t/\W.cell? (r,5)=some u/\W.cell? (r,6)=some y/\W.cell? (r,7)=some z/\W.cell? (r,8)=some B:=
 ⟨k.cell 0,k.cell 1,k.cell 2,k.cell 3,k.cell 4,k.cell 5,k.cell 6,k.cell 7,k.cell 8⟩
theorem YQ (h:Bk W r 44 hdZ) (g l p q t u y z B:aI):
  (Xu W r g l p q t u y z B).cell? (r,0)=some g/\(Xu W r g l p q t u y z B).cell? (r,1)=some l/\(Xu W r g l p q t u y z B).cell? (r,2)=some p/\(Xu W r g l p q t u y z B).cell? (r,3)=some q/\(Xu W r g l p q t u y z B).cell? (r,4)=some t/\(Xu W r g l p q t u y z B).cell? (r,5)=some u/\(Xu W r g l p q t u y z B).cell? (r,6)=some y/\(Xu W r g l p q t u y z B).cell? (r,7)=some z/\(Xu W r g l p q t u y z B).cell? (r,8)=some B:=by have k:=(Xe h g l p q t u y z B).1;exact⟨k.cell 0,k.cell 1,k.cell 2,k.cell 3,k.cell 4,k.cell 5,k.cell 6,k.cell 7,k.cell 8⟩
theorem YJ (h:Bk W r 44 hdZ):(W.cell? (r,0)=(0:Int)/\W.cell? (r,1)=(0:Int)/\W.cell? (r,2)=(0:Int)/\W.cell? (r,3)=(0:Int)/\W.cell? (r,4)=some (.slice none 0 0)/\W.cell? (r,5)=some (.slice none 0 0)/\W.cell? (r,6)=(0:Int)/\W.cell? (r,7)=(0:Int)/\W.cell? (r,8)=some (.slice none 0 0))/\(W.frozen? (r,0)=false/\W.frozen? (r,1)=false/\W.frozen? (r,2)=false/\W.frozen? (r,3)=false/\W.frozen? (r,4)=false/\W.frozen? (r,5)=false/\W.frozen? (r,6)=false/\W.frozen? (r,7)=false/\W.frozen? (r,8)=false):=
 ⟨⟨h.cell 0,h.cell 1,h.cell 2,h.cell 3,h.cell 4,h.cell 5,h.cell 6,h.cell 7,h.cell 8⟩,h.frozen 0,h.frozen 1,h.frozen 2,h.frozen 3,h.frozen 4,h.frozen 5,h.frozen 6,h.frozen 7,h.frozen 8⟩
theorem f'.nine {b H:Nat} {s:aT} {e:Nat} {cs:Array aI} (h:f' w0 b H s e cs W) (g l p q t u y z B:aI):Below w0 w0 (Xu W w0 g l p q t u y z B):=
 h.bel.trans ((Xe h.rs g l p q t u y z B).2.toBelow' h.bel.size (λk D e=>by have e:k=w0.heap.size:=e;omega))
theorem dG.fin {I:aq->ca->(Nat->Prop)->Prop} (R:oY w0 V I) {y:aq} {T:Nat->Prop} {D p:ca} (hi:I w D T) (hb:Below w w W0) (h:dG I W0 T p w1) (u:Fr (only r) w1 y) (h1:w<=r) (z:r<W0):dG I w T p y:=by
 obtain⟨q,i,f,t⟩:=h;have ab:=R.lt hi;have E:=(R.bl hi).size;have l:¬q r:=λg=>by rcases t r g with k|k;have:=ab r k;omega;omega
 refine⟨q,R.frS i u (λk g=> ?_),((Fr.of_below hb).trans f).trans' u (λj B e=> ?_),λk g=> ?_⟩;have g:k=r:=g;subst g;exact⟨l,O⟩;have e:j=r:=e;omega;rcases t k g with h|h;exact .inl h;exact .inr O
theorem dG.bk {I:aq->ca->(Nat->Prop)->Prop} (R:oY w0 V I) {T:Nat->Prop} {D g:ca} {t:TypeId} {cs:Array aI} (hi:I w D T) (h:dG I W0 T g w1) (h1:w<=r) (k:Bk W0 r t cs):Bk w1 r t cs:=by obtain⟨l,i,f,t⟩:=h;exact k.fr f (λh=>by have:=R.lt hi r h;omega)
def uB (B:Nat) (AQ AG g:Wto):Prop:=∀b o,AQ=some ⟨b,o,none⟩\/AG=some ⟨b,o,none⟩\/g=some ⟨b,o,none⟩->B<=b
theorem uB.mono {B k:Nat} {AQ AG g:Wto} (h:uB B AQ AG g) (hb:k<=B):uB k AQ AG g:=λb o e=>co hb (h b o e)
def M2 (I:aq->ca->(Nat->Prop)->Prop) (w:aq) (T:Nat->Prop) (r:(Option Hd×Nat)×ca) (x:Ending) (w':aq):Prop:=
 dG I w T r.2 w'/\match r.1.1 with
 |none=>x=.returned (.tuple #[.agg hdZ,r.1.2])
 |some h=>∃AQ k AG kg g ks,x=.returned (.tuple #[.agg (di h AQ k AG kg g ks),r.1.2])/\gZ w' h AQ AG g/\uB w AQ AG g
end
variable{base n size:Nat}{v:aI}
theorem Zp6:(prog.info? 93).map (λi=>(i.zero,i.size,i.bytes))=some (some (.agg #[(0:Int),(0:Int)]),2,16):=dw
theorem Zhy:(prog.info? 4).map (λi=>(i.zero,i.size,i.bytes))=some (some (.bool false),1,1):=dw
theorem Ho {w:aq} {F:Nat} {e e':TypeId} {y E:Nat} {u:aI} {xs q:List aI} (h:w.ownsRow base e size v n xs) (D:w.ownsRow F e' y u E q) (B:e≠e'):∀g,v.ownBlock=some g->u.ownBlock≠some g:=by intro g k;rcases h.2 with ⟨p,_⟩|⟨t,cap,l,p,_,z,_⟩;rw[p] at k;cases k;rw[p] at k;injection k with k;have k:t=g:=k;subst k;exact Z1 D (show Bk w t e l from z) (λx=>B x.symm)
theorem OY {w0 w:aq} {b H:Nat} {s:aT} {e:Nat} {cs:Array aI} (h:f' w0 b H s e cs w) {e':TypeId} {xs:List aI} (l:w.ownsRow w0 e' size v n xs) (p:e'≠44):∀k,v.ownBlock=some k->w0.heap.size<k:=λk g=>by have h1:=(l.lt k g).1;have q:k≠w0.heap.size:=λe=>(by subst e;exact Z1 l h.rs p g);omega
theorem Znb:(prog.info? 41).map (λi=>(i.zero,i.size,i.bytes))=some (some (.agg #[(0:Int),(0:Int)]),2,16):=dw
structure fz (w0:World) (b H:Nat) (s:ByteArray) (e:Nat) (c0 c1 c2 c3 c6 c7:Int) (Q G S:Value) (nq ng ns:Nat) (xq xg xs:List Value) (w:World):Prop where
 pa:f' w0 b H s e #[c0,c1,c2,c3,Q,G,c6,c7,S] w
 q:w.ownsRow w0.heap.size 4 1 Q nq xq
 g:w.ownsRow w0.heap.size 93 2 G ng xg
 s:w.ownsRow w0.heap.size 41 2 S ns xs
 hb:w0.heap.size<b
 hH:w0.heap.size<H
 bH:b≠H
section
variable {w0 w w':aq} {b H:Nat} {s s':aT} {e e':Nat} {c0 c1 c2 c3 c6 c7:Int} {Q G S:aI} {nq ng ns:Nat} {xq xg xs:List aI}
theorem fz.fr {Z:Nat->Prop} (h:fz w0 b H s e c0 c1 c2 c3 c6 c7 Q G S nq ng ns xq xg xs w) (l:Fr Z w w') (h1:¬Z b) (t:¬Z H) (u:∀k,Z k->w0.heap.size<k) (p:∀g,Q.ownBlock=some g\/G.ownBlock=some g\/S.ownBlock=some g->¬Z g):fz w0 b H s e c0 c1 c2 c3 c6 c7 Q G S nq ng ns xq xg xs w':=
 ⟨h.pa.fr l h1 t u,Z6 h.q l (λg k=>p g (.inl k)),Z6 h.g l (λg k=>p g (.inr (.inl k))),Z6 h.s l (λg k=>p g (.inr (.inr k))),h.hb,h.hH,h.bH⟩
theorem fz.below (h:fz w0 b H s e c0 c1 c2 c3 c6 c7 Q G S nq ng ns xq xg xs w) (hb:Below w w w'):fz w0 b H s e c0 c1 c2 c3 c6 c7 Q G S nq ng ns xq xg xs w':=h.fr (Fr.of_below (S:=nob) hb) id id (λ_ k=>k.elim) (λ_ _=>id)
theorem fz.drew (h:fz w0 b H s e c0 c1 c2 c3 c6 c7 Q G S nq ng ns xq xg xs w):fz w0 b H s e c0 c1 c2 c3 c6 c7 Q G S nq ng ns xq xg xs w.drew:=h.fr (Fr.refl nob w).drew id id (λ_ k=>k.elim) (λ_ _=>id)
theorem fz.alloc (h:fz w0 b H s e c0 c1 c2 c3 c6 c7 Q G S nq ng ns xq xg xs w) (o:Obj):fz w0 b H s e c0 c1 c2 c3 c6 c7 Q G S nq ng ns xq xg xs (w.alloc o):=h.fr ((Fr.refl nob w).alloc o) id id (λ_ k=>k.elim) (λ_ _=>id)
theorem fz.num (h:fz w0 b H s e c0 c1 c2 c3 c6 c7 Q G S nq ng ns xq xg xs w) (l:RV w' b s' e') (k:Fr (only b) w w'):fz w0 b H s' e' c0 c1 c2 c3 c6 c7 Q G S nq ng ns xq xg xs w':=
 ⟨h.pa.num h.hb h.bH l k,Z6 h.q k (λg R e=>Z1 h.q h.pa.rv aY As),Z6 h.g k (λg R e=>Z1 h.g h.pa.rv aY As),Z6 h.s k (λg R e=>Z1 h.s h.pa.rv aY As),h.hb,h.hH,h.bH⟩
theorem LO {most:Int} (h:bG s e most=(n,s',e')) (l:s.size<=1099511627776) {W:aq} (k:fz w0 b H s e c0 c1 c2 c3 c6 c7 Q G S nq ng ns xq xg xs W):
  cK 55 #[(b,0),most] W λx w'=>x=.returned n/\fz w0 b H s' e' c0 c1 c2 c3 c6 c7 Q G S nq ng ns xq xg xs w'/\Fr (only b) W w':=
 (G1 h l k.pa.rv).mono λx w' g=>⟨g.1,k.num g.2.1 g.2.2,g.2.2⟩
theorem fz.off (h:fz w0 b H s e c0 c1 c2 c3 c6 c7 Q G S nq ng ns xq xg xs w) {p:Addr} (h1:p.block≠b) (q:p.block≠H) (z:w0<p.block) (t:∀g,Q.ownBlock=some g\/G.ownBlock=some g\/S.ownBlock=some g->g≠p.block) (u:aI):fz w0 b H s e c0 c1 c2 c3 c6 c7 Q G S nq ng ns xq xg xs (w.setCell p u):=
 h.fr ((Fr.refl (only p.block) w).setCell (.inl rfl) u) (λk=>h1 k.symm) (λk=>q k.symm) (λk l=>by have l:k=p.block:=l;omega) (λg y k=>t g y k)
theorem fz.rows (h:fz w0 b H s e c0 c1 c2 c3 c6 c7 Q G S nq ng ns xq xg xs w):∀g,Q.ownBlock=some g\/G.ownBlock=some g\/S.ownBlock=some g->g<w.heap.size:=λg l=>by rcases l with k|k|k;exact(h.q.lt g k).2;exact(h.g.lt g k).2;exact(h.s.lt g k).2
theorem fz.put (h:fz w0 b H s e c0 c1 c2 c3 c6 c7 Q G S nq ng ns xq xg xs w) (i:Nat) (u:aI):Fr (only H) w (w.setCell (H,i) u)/\(∀ {e:TypeId} {sz n:Nat} {v:aI} {xs:List aI},w.ownsRow w0 e sz v n xs->e≠44->(w.setCell (H,i) u).ownsRow w0 e sz v n xs):=
 ⟨(Fr.refl (only H) w).setCell (p:=⟨H,i,none⟩) (.inl rfl) u,λk g=>Zq k (Z1 k h.pa.hd g) u⟩
theorem fz.appQ {x:Bool} (h:fz w0 b H s e c0 c1 c2 c3 c6 c7 Q G S nq ng ns xq xg xs w) (B:nq<=1000):
  ∃A M C W,(Builtin.append_ #[39,39] 39 #[Q,.slice (some (w,0)) 1 1]).run prog (w.alloc (.cells #[x] 4))=.ok (.slice A M C) W/\(W.cell? (H,4)=some Q/\W.frozen? (H,4)=false/\H<W.heap.size)/\
   fz w0 b H s e c0 c1 c2 c3 c6 c7 (.slice A M C) G S (nq+1) ng ns (xq++[.bool x]) xg xs (W.setCell (H,4) (.slice A M C)):=by obtain⟨D,W,z,u,t,_⟩:=CU (P:=prog) 39 4 _ _ 1 underlying39 Zhy rfl aY h.q h.pa.bel.size [.bool x] rfl sX fU O;obtain⟨A,M,C,rfl⟩:=Z7 u;have l:=h.pa.fr t (λk=>Z1 h.q h.pa.rv aY k) (λk=>Z1 h.q h.pa.hd aY k) (OY h.pa h.q aY);have p:=Z6 h.g t (λg p k=>Ho h.q h.g aY g k p);have y:=Z6 h.s t (λg p k=>Ho h.q h.s aY g k p);refine⟨A,M,C,W,z,⟨l.hd.cell 4,l.hd.frozen 4,l.hd.lt⟩,?_⟩;exact⟨by simpa using l.put h.bH h.hH 4 (.slice A M C),Zq u (Z1 u l.hd aY) _,Zq p (Z1 p l.hd aY) _,Zq y (Z1 y l.hd aY) _,h.hb,h.hH,h.bH⟩
theorem fz.appS {x y:Int} (h:fz w0 b H s e c0 c1 c2 c3 c6 c7 Q G S nq ng ns xq xg xs w) (D:ns<=1000):
  ∃A M C W,(Builtin.append_ #[42,42] 42 #[S,.slice (some (w,0)) 1 1]).run prog (w.alloc (.cells #[x,y] 41))=.ok (.slice A M C) W/\(W.cell? (H,8)=some S/\W.frozen? (H,8)=false/\H<W.heap.size)/\
   fz w0 b H s e c0 c1 c2 c3 c6 c7 Q G (.slice A M C) nq ng (ns+1) xq xg (xs++[.int .i64 x,.int .i64 y]) (W.setCell (H,8) (.slice A M C)):=by obtain⟨E,W,B,u,t,_⟩:=CU (P:=prog) 42 41 _ _ 2 underlying42 Znb rfl aY h.s h.pa.bel.size [.int .i64 x,.int .i64 y] rfl sX fU O;obtain⟨A,M,C,rfl⟩:=Z7 u;have l:=h.pa.fr t (λk=>Z1 h.s h.pa.rv aY k) (λk=>Z1 h.s h.pa.hd aY k) (OY h.pa h.s aY);have p:=Z6 h.g t (λg p k=>Ho h.s h.g aY g k p);have z:=Z6 h.q t (λg p k=>Ho h.s h.q aY g k p);refine⟨A,M,C,W,B,⟨l.hd.cell 8,l.hd.frozen 8,l.hd.lt⟩,?_⟩;exact⟨by simpa using l.put h.bH h.hH 8 (.slice A M C),Zq z (Z1 z l.hd aY) _,Zq p (Z1 p l.hd aY) _,Zq u (Z1 u l.hd aY) _,h.hb,h.hH,h.bH⟩
theorem fz.snap (h:fz w0 b H s e c0 c1 c2 c3 c6 c7 Q G S nq ng ns xq xg xs w) (o z:Int):fz w0 b H s e c0 c1 c2 c3 o z Q G S nq ng ns xq xg xs ((w.setCell (H,6) o).setCell (H,7) z):=by have h1:=h.pa.put h.bH h.hH 6 o;have q1:=Zq h.q (Z1 h.q h.pa.hd aY) (p:=⟨H,6,none⟩) o;have k:=Zq h.g (Z1 h.g h.pa.hd aY) (p:=⟨H,6,none⟩) o;have s1:=Zq h.s (Z1 h.s h.pa.hd aY) (p:=⟨H,6,none⟩) o;exact⟨by simpa using h1.put h.bH h.hH 7 z,Zq q1 (Z1 q1 h1.hd aY) _,Zq k (Z1 k h1.hd aY) _,Zq s1 (Z1 s1 h1.hd aY) _,h.hb,h.hH,h.bH⟩
theorem fz.ends (h:fz w0 b H s e c0 c1 c2 c3 c6 c7 Q G S nq ng ns xq xg xs w) (l:Fr (only b) w w'):
  Bk w' H 44 #[c0,c1,c2,c3,Q,G,c6,c7,S]/\Bk w' w0 44 hdZ/\
   Below w0.heap.size w0 (Xu w' w0 c0 c1 c2 c3 Q G c6 c7 S)/\
   (Xu w' w0 c0 c1 c2 c3 Q G c6 c7 S).ownsRow w0 4 1 Q nq xq/\
   (Xu w' w0 c0 c1 c2 c3 Q G c6 c7 S).ownsRow w0 93 2 G ng xg/\
   (Xu w' w0 c0 c1 c2 c3 Q G c6 c7 S).ownsRow w0 41 2 S ns xs:=by have h1:=h.hb;have k1:=h.pa.hd.fr l (λk=>h.bH k.symm);have k2:=h.pa.rs.fr l (λk=>by have k:w0=b:=k;omega);have p:=(Xe k2 c0 c1 c2 c3 Q G c6 c7 S).2;have q1:=Z6 h.q l (λg R e=>Z1 h.q h.pa.rv aY As);have t:=Z6 h.g l (λg R e=>Z1 h.g h.pa.rv aY As);have s1:=Z6 h.s l (λg R e=>Z1 h.s h.pa.rv aY As);refine⟨k1,k2,(h.pa.bel.trans (l.toBelow' h.pa.bel.size (λk u e=>by have e:k=b:=e;omega))).trans (p.toBelow' (co h.pa.bel.size l.size) (λk u e=>by have e:k=w0.heap.size:=e;omega)),?_,?_,?_⟩;exact Z6 q1 p (λg R e=>Z1 q1 k2 aY I9);exact Z6 t p (λg R e=>Z1 t k2 aY I9);exact Z6 s1 p (λg R e=>Z1 s1 k2 aY I9)
theorem Zaa {w:aq} {sz m C:Nat} {e:TypeId} {A:Wto} {xs:List aI} (h:w.ownsRow base e sz (.slice A n C) m xs) (b o:Nat) (k:A=some ⟨b,o,none⟩):base<=b:=(h.lt b (by rw[k];rfl)).1
end
end Go.Proofs.Y
namespace Wv
open Go.Proofs.Tryz Go.Proofs.Y
variable{a b lv:Int}{e k:Nat}{ps st:List (Int×Int)}{qs:List Bool}{s:aT}
theorem ZnE {x:Rs} (h:gD lv st qs a x k=((ps,b),(s,e))) (g:hasS (st.getD k (0,0)) (qs.getD k false) lv=false):gD lv st qs a x (k+1)=((ps++[(0,0)],b),(s,e)):=by rw[gD,h];unfold sK;rw[Vag g]
theorem Zk1 {x:Rs} {s1:aT} {e1 p:Nat} (h:gD lv st qs a x k=((ps,b),(s,e))) (g:hasS (st.getD k (0,0)) (qs.getD k false) lv=true) (l:bG s e 16384=(p,s1,e1)):gD lv st qs a x (k+1)=if p=0 then((ps++[(0,0)],b),(s1,e1)) else((ps++[(b,(p:Int))],b+p),(s1,e1)):=by rw[gD,h];unfold sK;rw[Vae (by rw[g];decide)];simp only;rw[l]
end Wv
namespace Go.Proofs.Y
open Tryz Wv Go.RowKit
variable{A:Wto}{W W' X w:aq}{p q r:Addr}{x y z:aI}
theorem Zi4 (n:Nat) (g:n<=5000) (W:aq):
  (convert 110 9 (.slice (some (W,0)) 2 2)).run prog (W.alloc (.cells #[.int .u8 ((n:Int)/256 % 256),.int .u8 ((n:Int) % 256)] 5))=.ok (.string (bs [UInt8.ofNat (n/256),UInt8.ofNat n])) (W.alloc (.cells #[.int .u8 ((n:Int)/256 % 256),.int .u8 ((n:Int) % 256)] 5)):=by have h:=KC (n/256 % 256) (n % 256) O O (Bk.new W 5 #[.int .u8 ((n/256 % 256:Nat):Int),.int .u8 ((n % 256:Nat):Int)]);rw[show((n/256 % 256:Nat):Int)=(n:Int)/256 % 256 by omega,show((n % 256:Nat):Int)=(n:Int) % 256 by omega] at h;rw[show n/256 % 256=n/256 by omega,show UInt8.ofNat (n % 256)=UInt8.ofNat n from UInt8.toNat_inj.1 (by simp)] at h;exact h
theorem Zdf (n:Nat) (g:n<=5000) (W:aq):
  (convert 110 9 (.slice (some (W,0)) 2 2)).run prog (W.alloc (.cells #[.int .u8 ((n:Int)/256),.int .u8 ((n:Int) % 256)] 5))=.ok (.string (bs [UInt8.ofNat (n/256),UInt8.ofNat n])) (W.alloc (.cells #[.int .u8 ((n:Int)/256),.int .u8 ((n:Int) % 256)] 5)):=by have h:=Zi4 n g W;rw[show(n:Int)/256 % 256=(n:Int)/256 by omega] at h;exact h
theorem XY {a b:Nat} (h:a+b<=100000000):(9223372036854775807<a+b)=False:=by rw[eq_iff_iff,iff_false];omega
abbrev yd (X:aq) (B:Nat) (f t lv sp:Int) (Q G:aI) (W:aq):Prop:=
 (W.cell? ⟨B,0,none⟩=f/\W.cell? ⟨B,1,none⟩=t/\W.cell? ⟨B,2,none⟩=lv/\W.cell? ⟨B,3,none⟩=sp/\W.cell? ⟨B,4,none⟩=some Q/\W.cell? ⟨B,5,none⟩=some G/\Below X X W)
theorem yd.below {B:Nat} {f t lv sp:Int} {Q G:aI} (h:yd X B f t lv sp Q G W) (u:B<X) (hb:Below W W W'):yd X B f t lv sp Q G W':=by obtain⟨h0,h1,k,l,p,q,g⟩:=h;have s:=g.size;exact⟨Below.cellAt hb dz h0,Below.cellAt hb dz h1,Below.cellAt hb dz k,Below.cellAt hb dz l,Below.cellAt hb dz p,Below.cellAt hb dz q,g.trans (hb.mono s)⟩
abbrev ye (X:aq) (p q r:Addr) (x y z:aI) (W:aq):Prop:=(W.cell? p=some x/\W.cell? q=some y/\W.cell? r=some z/\Below X X W)
theorem ye.below (h:ye X p q r x y z W) (l:p.block<X) (t:q.block<X) (u:r.block<X) (hb:Below W W W'):ye X p q r x y z W':=by obtain⟨h0,h1,k,g⟩:=h;have s:=g.size;exact⟨Below.cellAt hb O h0,Below.cellAt hb O h1,Below.cellAt hb O k,g.trans (hb.mono s)⟩
abbrev zO (X:aq) (p q r u v:Addr) (x y z a b:aI) (W:aq):Prop:=(W.cell? p=some x/\W.cell? q=some y/\W.cell? r=some z/\W.cell? u=some a/\W.cell? v=some b/\Below X X W)
theorem zO.below {u v:Addr} {a b:aI} (h:zO X p q r u v x y z a b W) (B:p.block<X) (D:q.block<X) (E:r.block<X) (F:u.block<X) (lv:v.block<X) (hb:Below W W W'):zO X p q r u v x y z a b W':=by obtain⟨h0,h1,k,l,t,g⟩:=h;have s:=g.size;exact⟨Below.cellAt hb O h0,Below.cellAt hb O h1,Below.cellAt hb O k,Below.cellAt hb O l,Below.cellAt hb O t,g.trans (hb.mono s)⟩
theorem Q8 {l:List Bool} (g:At w A (ky l)) (k:Nat) (h:k<l):∃b o,A=some ⟨b,o,none⟩/\b<w.heap.size/\w.cell? ⟨b,o+k,none⟩=some (.bool l[k]):=
 g.get k _ (by unfold ky;rw[jX,fb h];rfl)
theorem ZmV (k:Nat):(bs (bi k)).size<=9:=by rw[Z0];exact ZF k
theorem Xl (v:Nat):∃S,bs (bi v)=S/\S.size<=9:=⟨_,rfl,ZmV v⟩
theorem QK (v:Int) (h0:0<=v) (h1:v<=1099511627777) {S:aT} (g:bs (bi v.toNat)=S) (W:aq):cK 47 #[v] W (bM W S):=by have:=Zj v h0 O W;rw[g] at this;exact this
theorem R8 {st:List (Int×Int)} (p2:At w A (pv st)) (n cap:Nat) (p5:n=st) (x0:n<=64) (f t:Int) (lv sp:Nat) {gs:List (Int×Int)} {qs:List Bool} {AQ AG:Wto} (a5 kg:Nat) (a8:At w AQ (ky qs)) (d7:At w AG (pv gs)) (q6:qs=n)
  (p4: -1<=f) (r8:f<t) (p6:t<=1099511627776) (x7:lv<=2) (u6:sp<=1099511627776) (r6:∀g∈gs,f+1<=g.1/\g.1<=g.2/\g.2<=t+1) (u9:gs.length<=16) (o z:Int) (g7:aI) {snap:ax} (R:snap.length<=1000000)
  {AX:Wto} {xs:List ax} (p8:At w AX (eN (xs.map bs))) (w6:Nat) (b7:xs=n) (c3:∀x∈xs,x.length<=100000):
  Calls prog 17 #[(A,n,cap),.agg #[f,t,lv,sp,(AQ,n,a5),(AG,gs.length,kg),o,z,g7],bs snap,(AX,n,w6)] w λx w'=>
   x=.returned (.tuple #[bs (oj st f t lv sp gs qs snap xs).1,((oj st f t lv sp gs qs snap xs).2:Int)])/\Below w w w':=by
 obtain⟨ng,m2⟩:=ay gs.length;rw[m2] at u9⊢;have d1:=(bf w w).alloc aU (.cells #[f,t,lv,sp,(AQ,n,a5),(AG,ng,kg),o,z,g7] 44);have G:=Bk.new w 44 #[f,t,lv,sp,(AQ,n,a5),(AG,ng,kg),o,z,g7];obtain⟨Ha,i2,i1,n8,a2⟩:=ii (p2.below d1) (a8.below d1) (d7.below d1) (p8.below d1) d1;have l7:=G.lt;obtain⟨X,l0⟩:=ay (w.alloc (.cells #[f,t,lv,sp,(AQ,n,a5),(AG,ng,kg),o,z,g7] 44));rw[l0] at G Ha i2 i1 n8 a2 l7;have n7:=J l0;have q0:yd X w f t lv sp (.slice AQ n a5) (.slice AG ng kg) X:=⟨G.cell 0,G.cell 1,G.cell 2,G.cell 3,G.cell 4,G.cell 5,bf _ _⟩;have d4:=J (λW W' (h:yd X w f t lv sp (.slice AQ n a5) (.slice AG ng kg) W) (hb:Below W.heap.size W W')=>yd.below h l7 hb);have c7:=J G;obtain⟨b4,e1,v8⟩:=Xl n;obtain⟨b5,e2,v9⟩:=Xl (f+1).toNat;obtain⟨c8,k1,w0⟩:=Xl (t-f).toNat;obtain⟨d6,k2,h6⟩:=Xl lv;obtain⟨g6,k3,m8⟩:=Xl sp;obtain⟨j4,k4,w3⟩:=Xl ng;have r7:Hid (b4++b5++c8++d6++g6++j4=bs (zx n f t lv sp ng)):=J (by rw[<-e1,<-e2,<-k1,<-k2,<-k3,<-k4];unfold zx;simp only[Z9,er]);obtain⟨q9,s6,n2,n3,n4,o0⟩:=fA (λW=>QK (n:Int) O O (S:=b4) e1 W) (λW=>QK (f+1) O O (S:=b5) e2 W) (λW=>QK (t-f) O O (S:=c8) k1 W) (λW=>QK (lv:Int) O O (S:=d6) k2 W) (λW=>QK (sp:Int) O O (S:=g6) k3 W) (λW=>QK (ng:Int) O O (S:=j4) k4 W);have s1:=XY (a:=b4.size) (b:=b5.size) O;have s2:=XY (a:=b4.size+b5.size) (b:=c8.size) O;have s3:=XY (a:=b4.size+b5.size+c8.size) (b:=d6.size) O;have v2:=XY (a:=b4.size+b5.size+c8.size+d6.size) (b:=g6.size) O;have v3:=XY (a:=b4.size+b5.size+c8.size+d6.size+g6.size) (b:=j4.size) O;have l3:IntKind.i64.wrap (f+1)=f+1:=lO;have l5:IntKind.i64.wrap (t-f)=t-f:=lO;obtain⟨a0,h5,c6,b9,o1,i5⟩:=fA p5 m2 q6 b7 r6 c3;have t1:Hid (-1<=f/\f<t/\t<=1099511627776):=J ⟨p4,r8,p6⟩;clear m2 p2 a8 d7 p8 d1 G l0 e1 e2 k1 k2 k3 k4 v8 v9 w0 h6 m8 w3 p5 q6 b7 r6 c3 p4 r8 p6 u6;go_in;go_wp2;rw[n7.o];have v1:=q0.below l7 (bf X X).drew;clear q0 n7
 go_region_held3 (λW=>yd X w f t lv sp (.slice AQ n a5) (.slice AG ng kg) W) (first|with_reducible assumption) (first
  |(go_at_call 47;with_reducible refine(q9.o _).mono ?_;rintro r w1 ⟨rfl,B⟩;have R:=d4.o _ _ qB B;clear B)
  |(go_at_call 47;with_reducible refine(s6.o _).mono ?_;rintro r w1 ⟨rfl,B⟩;have R:=d4.o _ _ qB B;clear B)
  |(go_at_call 47;with_reducible refine(n2.o _).mono ?_;rintro r w1 ⟨rfl,B⟩;have R:=d4.o _ _ qB B;clear B)
  |(go_at_call 47;with_reducible refine(n3.o _).mono ?_;rintro r w1 ⟨rfl,B⟩;have R:=d4.o _ _ qB B;clear B)
  |(go_at_call 47;with_reducible refine(n4.o _).mono ?_;rintro r w1 ⟨rfl,B⟩;have R:=d4.o _ _ qB B;clear B)
  |(go_at_call 47;with_reducible refine(o0.o _).mono ?_;rintro r w1 ⟨rfl,B⟩;have R:=d4.o _ _ qB B;clear B));rw[r7.o];obtain⟨_,_,_,_,_,m8,o8⟩:=R;have n1:=J o8;clear o8 q9 s6 n2 n3 n4 o0 s1 s2 s3 v2 v3 l3 l5 r7 v1;have h9:=J (Zmr n f t lv sp ng);obtain⟨b2,m1⟩:=ay (zx n f t lv sp ng);rw[m1] at h9⊢;have t3:=J m1;clear m1;go_wp2;go_loopw [10,52] (λe9 j5 wr=>∃k:Nat,k<=ng/\j5=k/\e9=.string (bs (b2++lX f (gs.take k)))/\Hid (Below X X wr)) (λ_ j5 _=>(ng-intOf j5).toNat);exact⟨0,cf _,rfl,by rw[qA];unfold lX;rw[List.flatMap_nil,fg],n1⟩;obtain⟨k,x3,rfl,rfl,hb⟩:=hrel;by_cases ab:k<ng
 .have g9:k<gs:=(by rw[h5.o];exact ab);obtain⟨o3,q7,rfl,_,c0,c1⟩:=ZV (i1.o.below hb.o) k g9;have a4:=NH f (gs.take k) gs[k];rw[<-dK g9] at a4;obtain⟨k6,k7,k8⟩:=o1.o _ (dt g9);have D:=W3 f (gs.take k);rw[ek] at D;obtain⟨⟨x,y⟩,Ld⟩:=ay gs[k];rw[Ld] at c0 c1 a4 k6 k7 k8;simp only at c0 c1 a4 k6 k7 k8;obtain⟨f1,t9,u0⟩:=t1.o;obtain⟨E,I,c5⟩:=Xl (x-f-1).toNat;obtain⟨g8,k5,w7⟩:=Xl (y-x).toNat;have a6:=J (λW=>QK (x-f-1) O O (S:=E) I W);have t2:=J (λW=>QK (y-x) O O (S:=g8) k5 W);have a9:Hid (bs (b2++lX f (gs.take k))++(E++g8)=bs (b2++lX f (gs.take (k+1)))):=J (by rw[a4,<-I,<-k5];simp only[Z9,er]);have d5:(bs (b2++lX f (gs.take k))).size<=1000:=by rw[Z0,Vab];have:=h9.o;omega
  have s8:=Z0 (b2++lX f (gs.take k));generalize bs (b2++lX f (gs.take k))=U at*;have s1:=XY (a:=E.size) (b:=g8.size) O;have s2:=XY (a:=U.size) (b:=E.size+g8.size) O;have x4:IntKind.i64.wrap (x-f)=x-f:=lO;have l3:IntKind.i64.wrap (x-f-1)=x-f-1:=lO;have l5:IntKind.i64.wrap (y-x)=y-x:=lO;have o5:(0:Int)<=k:=O;have o6:(k:Int)<ng:=O;have u5:ng<=9223372036854775807:=O;have o2:=J (hb.o.alloc hb.o.size (.cells #[x,y] 93));have a7:=Bk.new wr 93 #[x,y];have b1:=(c7.o.below hb.o c7.o.lt).alloc (.cells #[x,y] 93);have j3:=a7.lt;have n0:=b1.lt;have o9:ye (wr.alloc (.cells #[x,y] 93)) ⟨w,0,none⟩ ⟨wr,0,none⟩ ⟨wr,1,none⟩ f (.int .i64 x) y (wr.alloc (.cells #[x,y] 93)).drew:=⟨b1.cell 0,a7.cell 0,a7.cell 1,(bf _ _).drew⟩;have r3:=J (λW W' (h:ye (wr.alloc (.cells #[x,y] 93)) ⟨w,0,none⟩ ⟨wr,0,none⟩ ⟨wr,1,none⟩ f (.int .i64 x) y W) (hb:Below W.heap.size W W')=>ye.below h n0 j3 j3 hb);clear a4 Ld I k5 c5 w7 k6 k7 k8 D d5 s8 a7 b1 n0 j3 g9 f1 t9 u0;go_wp2
  go_region_held3 (λW=>ye (wr.alloc (.cells #[x,y] 93)) ⟨w,0,none⟩ ⟨wr,0,none⟩ ⟨wr,1,none⟩ f (.int .i64 x) y W) (first|with_reducible assumption) (first
   |(go_at_call 47;with_reducible refine(a6.o _).mono ?_;rintro r m5 ⟨rfl,B⟩;have R:=r3.o _ _ qB B;clear B)
   |(go_at_call 47;with_reducible refine(t2.o _).mono ?_;rintro r m5 ⟨rfl,B⟩;have R:=r3.o _ _ qB B;clear B));obtain⟨_,_,_,b8⟩:=R;have c9:=J (o2.o.trans (b8.mono o2.o.size));clear b8;rw[a9.o];go_wp2;refine⟨⟨k+1,ab,ci,rfl,c9⟩,?_⟩;simp[intOf]<;>omega
 have t8:k=ng:=O;subst t8;rw[d' (by rw[h5.o];exact aU)];have D:=W3 f gs;obtain⟨b3,f7⟩:=ay (b2++lX f gs);have r4:Hid (b3.length<=400):=J (by rw[<-f7,Vab];have:=h9.o;have:=h5.o;omega);rw[f7];have i0:=J f7;have h6:=(c7.o.below hb.o c7.o.lt).cell 4;simp at h6;have p0:=hb;clear D f7 hb n1 i1 o1 m8;go_wp2;go_loopw [10,76] (λe9 j6 u7=>∃k:Nat,k<=n/\j6=k/\e9=.string (bs (b3++mD (qs.take k)))/\Hid (Below X X u7)) (λ_ j6 _=>(n-intOf j6).toNat);exact⟨0,cf _,rfl,by rw[qA];unfold mD;rw[List.flatMap_nil,fg],p0⟩;clear h6 p0;obtain⟨j,x2,rfl,rfl,hb⟩:=hrel;by_cases ab:j<n
 .have k0:j<qs:=(by rw[c6.o];exact ab);obtain⟨o3,q7,rfl,_,c0⟩:=Q8 (i2.o.below hb.o) j k0;have a4:=NL (qs.take j) qs[j];rw[<-dK k0] at a4;have D:=u_ (qs.take j);rw[ek] at D;obtain⟨q,a8⟩:=ay qs[j];rw[a8] at c0 a4;obtain⟨E,I,c5⟩:=Xl q.toNat;have a6:=J (λW=>QK (q.toNat:Int) O (by cases q<;>decide) (S:=E) (by rw[ep];exact I) W);have a9:Hid (bs (b3++mD (qs.take j))++E=bs (b3++mD (qs.take (j+1)))):=J (by rw[a4,<-I];simp only[Z9,er]);have d5:(bs (b3++mD (qs.take j))).size<=2000:=by rw[Z0,Vab];have:=r4.o;omega
  generalize bs (b3++mD (qs.take j))=U at*;have s1:=XY (a:=U.size) (b:=E.size) O;have o5:(0:Int)<=j:=O;have o6:(j:Int)<n:=O;clear a4 a8 I c5 D d5 k0;cases q
  all_goals
   go_wp21;refine ij (a6.o _) hb λm5 c9=>?_;go_wp2;rw[a9.o];refine⟨⟨j+1,ab,ci,rfl,c9⟩,?_⟩;simp[intOf]<;>omega
 have u4:j=n:=O;subst u4;rw[d' (by rw[c6.o];exact aU)];have D:=u_ qs;obtain⟨b0,f8⟩:=ay (b3++mD qs);have n5:Hid (b0.length<=1000):=J (by rw[<-f8,Vab];have:=r4.o;have:=c6.o;omega);rw[f8];have t4:=J f8;obtain⟨E,I,c5⟩:=Xl snap;have a6:=J (λW=>QK (snap.length:Int) O O (S:=E) (by rw[ep];exact I) W);have a9:Hid (bs b0++E=bs (b0++bi snap)):=J (by rw[<-I,Z9]);have h7:Hid ((b0++bi snap).length<=1009):=J (by rw[Vab];have:=n5.o;have:=ZF snap;omega);have d5:(bs b0).size<=2000:=by rw[Z0];have:=n5.o;omega
 have h0:=Z0 snap;have s1:=XY (a:=(bs b0).size) (b:=E.size) O;generalize bs b0=U at*;obtain⟨w9,g4⟩:=ay (bs snap);rw[g4] at h0;rw[g4];have s7:=J g4;rw[<-h0] at a6;have x1:=J h0;clear D f8 d5 I c5 g4 h0;go_wp21;refine ij (a6.o _) hb λm5 c9=>?_;clear a6 hb;go_wp2;rw[a9.o];obtain⟨a1,i7⟩:=ay (b0++bi snap);rw[i7] at h7⊢;have t5:=J i7;clear i7 a9;go_loopw [10,16,94] (λe9 v0 j7 m6=>∃k:Nat,k<=j/\j7=k/\e9=.string (bs (a1++lnK lv st qs xs k))/\v0=.string (bs (snap++oT lv st qs xs k))/\Hid (Below X X m6)) (λ_ _ j7 _=>(j-intOf j7).toNat);exact⟨0,cf _,rfl,by unfold lnK lenT;simp,by unfold oT iT;simp[s7.o],c9⟩;clear c9 s1;obtain⟨i,hi,rfl,rfl,rfl,hb⟩:=hrel;by_cases ab:i<j
 .have j9:i<st:=iF;have h8:i<qs:=(by rw[c6.o];exact ab);have f6:i<xs:=(by rw[b9.o];exact ab);obtain⟨L1,g5⟩:=Vx (lv:=(lv:Int)) j9 h8 f6;have u8:=G' (lv:Int) st qs xs i;have l2:=Mp (lv:=(lv:Int)) (st:=st) (qs:=qs) i5.o (by have:=a0.o;have:=b9.o;omega) (by have:=c6.o;have:=b9.o;omega) i O;obtain⟨o3,q7,rfl,x5,r9,s0⟩:=ZV (Ha.o.below hb.o) i j9;obtain⟨b6,d3,rfl,p9,m7⟩:=Q8 (i2.o.below hb.o) i h8;obtain⟨o4,x6,rfl,l8,c4⟩:=QB (n8.o.below hb.o) i (by rw[Vah];exact f6);rw[uF] at c4;have b7:=i5.o _ (dt f6);obtain⟨⟨a,c⟩,aF⟩:=ay st[i];obtain⟨q,a8⟩:=ay qs[i];obtain⟨x,j8⟩:=ay xs[i];rw[aF] at r9 s0;rw[aF,a8,j8] at L1 g5;rw[a8] at m7;rw[j8] at c4 b7;simp only at r9 s0;have o5:(0:Int)<=i:=O;have o6:(i:Int)<j:=O;have s9:=J (λW=>Gj a c q (lv:Int) W);obtain⟨E,I,c5⟩:=Xl x.length;have a6:=J (λW=>QK (x.length:Int) O O (S:=E) (by rw[ep];exact I) W);have r5:Hid (bs (a1++lnK lv st qs xs i)++E=bs (a1++(lnK lv st qs xs i++bi x.length))):=J (by rw[<-I,Z9,er]);have a9:Hid (bs (snap++oT lv st qs xs i)++bs x=bs (snap++(oT lv st qs xs i++x))):=J (by rw[Z9,er]);have v4:(bs (a1++lnK lv st qs xs i)).size<=2000:=by rw[Z0,Vab];have:=h7.o;exact W69
  have v5:(bs (snap++oT lv st qs xs i)).size<=8000000:=by rw[Z0,Vab];omega
  have m3:=Z0 x;have s1:=XY (a:=(bs (a1++lnK lv st qs xs i)).size) (b:=E.size) O;have s2:=XY (a:=(bs (snap++oT lv st qs xs i)).size) (b:=(bs x).size) O;rw[<-m3] at a6;have a7:=Bk.new wr 57 #[a,c];have b1:=(c7.o.below hb.o c7.o.lt).alloc (.cells #[a,c] 57);have q8:=J (hb.o.alloc hb.o.size (.cells #[a,c] 57));have lg:=a7.lt;have m4:=b1.lt;have d8:=Below.cellAt ((bf wr wr).alloc aU (.cells #[a,c] 57)) p9 m7;have d9:=Below.cellAt ((bf wr wr).alloc aU (.cells #[a,c] 57)) l8 c4;have e7:b6<(wr.alloc (.cells #[a,c] 57)):=Vas p9 (by simp);have e8:o4<(wr.alloc (.cells #[a,c] 57)):=Vas l8 (by simp);have k9:zO (wr.alloc (.cells #[a,c] 57)) ⟨wr,0,none⟩ ⟨wr,1,none⟩ ⟨w,4,none⟩ ⟨w,2,none⟩ ⟨b6,d3+i,none⟩ a c (.slice (some (b6,d3)) j a5) lv (.bool q) (wr.alloc (.cells #[a,c] 57)).drew:=⟨a7.cell 0,a7.cell 1,b1.cell 4,b1.cell 2,d8,(bf _ _).drew⟩;have n9:=J (λW W' h hb=>zO.below (X:=wr.alloc (.cells #[a,c] 57)) (p:=⟨wr,0,none⟩) (q:=⟨wr,1,none⟩) (r:=⟨w,4,none⟩) (u:=⟨w,2,none⟩) (v:=⟨b6,d3+i,none⟩) (x:=.int .i64 a) (y:=.int .i64 c) (z:=.slice (some (b6,d3)) j a5) (a:=.int .i64 (lv:Int)) (b:=.bool q) (W:=W) (W':=W') h lg lg m4 m4 e7 hb);have i3:=J (λW (hb:Below (wr.alloc (.cells #[a,c] 57)) (wr.alloc (.cells #[a,c] 57)) W)=>Below.cellAt hb e8 d9);have i4:Hid (hasS (a,c) q (lv:Int)=false->bs (a1++lnK lv st qs xs i)=bs (a1++lnK lv st qs xs (i+1))/\bs (snap++oT lv st qs xs i)=bs (snap++oT lv st qs xs (i+1))):=J (λh=>by rw[L1,g5,h];simp);have l6:Hid (hasS (a,c) q (lv:Int)=true->bs (a1++lnK lv st qs xs i)++E=bs (a1++lnK lv st qs xs (i+1))/\bs (snap++oT lv st qs xs i)++bs x=bs (snap++oT lv st qs xs (i+1))):=J (λh=>by rw[L1,g5,h,r5.o,a9.o];exact⟨rfl,rfl⟩);generalize bs (a1++lnK lv st qs xs i)=U1 at*;generalize bs (snap++oT lv st qs xs i)=U2 at*;have w8:=J m3;generalize bs x=Sx at*;clear r5 a9 L1 g5 u8 l2 m7 c4 aF a8 j8 b7 I c5 v4 v5 m3 a7 b1 lg m4 d8 d9 e7 e8 j9 h8 f6;go_wp2
  go_region_held3 (λW=>zO (wr.alloc (.cells #[a,c] 57)) ⟨wr,0,none⟩ ⟨wr,1,none⟩ ⟨w,4,none⟩ ⟨w,2,none⟩ ⟨b6,d3+i,none⟩ a c (.slice (some (b6,d3)) j a5) lv (.bool q) W) (first|with_reducible assumption) (first
   |(go_at_call 21;with_reducible refine(s9.o _).mono ?_;rintro r v6 ⟨rfl,B⟩;have R:=n9.o _ _ qB B;clear B));obtain⟨_,_,_,_,_,b8⟩:=R;have h4:=J (q8.o.trans (b8.mono q8.o.size));have c4:=i3.o _ b8;have l9:o4<v6:=Vas l8 (co (by simp) b8.size);clear b8 n9 k9;cases h1:hasS (a,c) q (lv:Int);.obtain⟨f4,f5⟩:=i4.o h1;have i8:=J f4;have i9:=J f5;clear f4 f5 h1 i4 l6;go_wp2;refine⟨⟨i+1,ab,ci,by rw[i8.o],by rw[i9.o],h4⟩,?_⟩;simp[intOf]<;>omega
  obtain⟨f4,f5⟩:=l6.o h1;have i8:=J f4;have i9:=J f5;clear f4 f5 h1 i4 l6;go_wp21;refine aP (a6.o _) λx8 B=>?_;have v7:=Below.cellAt B l9 c4;have t7:=J (h4.o.trans (B.mono h4.o.size));clear c4 B h4;go_wp2;refine⟨⟨i+1,ab,ci,by rw[<-i8.o],by rw[<-i9.o],t7⟩,?_⟩;simp[intOf]<;>omega
 have t6:i=j:=O;subst t6;obtain⟨A1,A2⟩:=BQ (lv:=(lv:Int)) a0.o.symm c6.o b9.o;rw[A1,A2];have i6:a1++lenT lv st qs (zsT lv st qs xs)=YR st f t lv sp gs qs snap (zsT lv st qs xs):=by rw[NQ,<-a0.o,h5.o,t3.o,i0.o,t4.o,t5.o]
 rw[i6];have D:(YR st f t lv sp gs qs snap (zsT lv st qs xs)).length<=2000:=by rw[<-i6,Vab];have:=Lg (lv:Int) st qs (zsT lv st qs xs);have:=h7.o;exact W69
 obtain⟨f9,m9⟩:=ay (YR st f t lv sp gs qs snap (zsT lv st qs xs));obtain⟨M,h3⟩:=ay (snap++iT lv st qs xs);have p1:M.length<=8000000:=by have:=Mp (lv:=(lv:Int)) (st:=st) (qs:=qs) i5.o (by have:=a0.o;have:=b9.o;omega) (by have:=c6.o;have:=b9.o;omega) i (by have:=b9.o;omega);rw[A2] at this;rw[<-h3,Vab];omega
 have G:Hid (oj st f t lv sp gs qs snap xs=match Zo 5 f9 with
  |none=>([],9)
  |some x=>if 16384<2+x.length+M.length then([],9) else(UInt8.ofNat (x.length/256)::UInt8.ofNat x.length::(x++M),0)):=J (by unfold oj;rw[m9,h3];rfl)
 rw[m9] at D⊢;rw[h3];have a3:=λW=>Dj 5 aY f9 O W;unfold rJ at a3;rw[show(((5:Nat):Int))=5 from rfl] at a3;have h2:=Z0 M;clear A1 A2 i6 m9 h3 D;generalize bs f9=SH at*;rcases d2:Zo 5 f9 with _|x;rw[d2] at a3 G;rw[show mV none=.tuple #[.string ⟨#[]⟩,(9:Int)] from rfl] at a3;have Q:=J a3;generalize bs M=ST at*;clear a3 h2 d2;exact O1;rw[d2] at a3 G;rw[show mV (some x)=.tuple #[bs x,(0:Int)] from rfl] at a3;simp only at G;have b7:=LU d2;have c3:=Z0 x;have g0:(16384:Int)<2+((bs x).size:Int)+((bs M).size:Int)↔16384<2+x.length+M.length:=(by rw[c3,h2];omega);have l3:IntKind.i64.wrap (2+((bs x).size:Int))=2+((bs x).size:Int):=lO;have l5:IntKind.i64.wrap (2+((bs x).size:Int)+((bs M).size:Int))=2+((bs x).size:Int)+((bs M).size:Int):=lO;have Q:=J a3;by_cases d7:(16384:Int)<2+((bs x).size:Int)+((bs M).size:Int);rw[Vag (g0.1 d7)] at G;generalize bs M=ST at*;generalize bs x=SX at*;clear a3 h2 d2 c3 b7 g0;exact O1;rw[Vae (λh=>d7 (g0.2 h))] at G;have o7:=Zdf (bs x).size O;have n6:Hid (bs (oj st f t lv sp gs qs snap xs).1=bs [UInt8.ofNat ((bs x).size/256),UInt8.ofNat (bs x).size]++bs x++bs M/\(oj st f t lv sp gs qs snap xs).2=0):=J (by rw[G.o,c3,Z9,Z9];exact⟨by simp only[jw,pU,er],rfl⟩);have o9:(bs [UInt8.ofNat ((bs x).size/256),UInt8.ofNat (bs x).size]).size=2:=Z0 _;have s1:=XY (a:=(bs [UInt8.ofNat ((bs x).size/256),UInt8.ofNat (bs x).size]).size) (b:=(bs x).size) O;have s2:=XY (a:=(bs [UInt8.ofNat ((bs x).size/256),UInt8.ofNat (bs x).size]).size+(bs x).size) (b:=(bs M).size) O;generalize bs [UInt8.ofNat ((bs x).size/256),UInt8.ofNat (bs x).size]=S8 at*;generalize bs M=ST at*;generalize bs x=SX at*;clear a3 h2 d2 c3 g0 G o9;go_wp21;refine aP (Q.o _) λl B=>?_;have F:=J (hb.o.trans (B.mono hb.o.size));have p3:=o7 l;clear B hb o7;go_wp2;go_returns;exact⟨by rw[n6.o.1,n6.o.2];rfl,a2.o.trans ((F.o.alloc F.o.size _).mono a2.o.size)⟩
