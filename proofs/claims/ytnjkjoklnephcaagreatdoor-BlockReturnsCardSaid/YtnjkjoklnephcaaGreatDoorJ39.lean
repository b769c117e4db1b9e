import Derived.Test.YtnjkjoklnephcaaGreatDoorJ38
set_option linter.all false
set_option maxRecDepth 100000
set_option maxHeartbeats 0
section
variable{P Q:Prop}
theorem Av(h:P:=by rw[R,show g=b from e]):P:=h
theorem I'{P:Prop}(h:P:=by rw[R,show g=w0 from e]):P:=h
theorem Ar(h:P:=by exact⟨by simp only;omega,by simp only;omega⟩):P:=h
theorem Q1(h:P:=by go_in;go_wp21;refine cq (E.o _) ?_;go_wp2;go_returns;exact⟨rfl,q.o⟩):P:=h
theorem PU(h:P:=by exact⟨rfl,rfl,rfl,by simp only;omega,by simp only;omega,Int.le_refl _,by simp⟩):P:=h
theorem EK(h:P:=by go_in;go_wp2;go_quiet (fail);go_wp2;go_returns;exact⟨rfl,_,u.o.drewN _,q.o.drewN _,.inl rfl⟩):P:=h
theorem Pp(h:P:=by rcases t with h|h;rw[h];exact e2 b rfl;rw[h];intro h;injection h with h;have h:w+1=b:=h;omega):P:=h
theorem Pe(h:P:=by go_wp21;refine gO (a7.o _) hb λl D=>?_;clear hb;go_wp2;go_returns;exact⟨by rw[G.o];rfl,a2.o.trans (D.o.mono a2.o.size)⟩):P:=h
theorem NA(h:P:=by simp only[jK];generalize bs s=S at*;go_in;go_wp21;refine aO E.o λw1 ⟨v',t1,p,q⟩=>?_;obtain⟨e3,u,B⟩:=bF t1 (z.o w _ p) (q.imp id (λ⟨g,y,t⟩=>⟨g,y,k g t⟩):_\/∃g,v'.ownBlock=some g/\w.heap.size<=g);clear t1 p q;go_wp2;go_returns;exact⟨rfl,v',e3.o,u.o,B.o⟩):P:=h
end
namespace Go.Proofs.Y
open Tryz Wv Go.RowKit
variable{W w w' w0:au}{b base:Nat}{d:aS}{o:Int}{v:aJ}
theorem ZpS:(prog.info? 40).map (λi=>(i.zero,i.size,i.bytes))=some (some (.agg #[(0:Int),(0:Int)]),2,16):=dE
structure pg (w:World) (b base:Nat) (D:co) (v:Value):Prop where
 bk:Bk w b 37 #[bs D.s,D.fail,D.code,D.calls,v]
 own:w.ownsRow base 40 2 v D.parts.length (pv D.parts)
 ap:v.ownBlock≠some b
theorem pg.drewN {D:co} (h:pg w b base D v) (n:Nat):pg (w.drewN n) b base D v:=⟨h.bk,h.own,h.ap⟩
def uC (b:Nat) (v:aJ):Nat->Prop:=λk=>k=b\/v.ownBlock=some k
theorem QN (l:List (Int×Int)) (p:Int×Int):pv (l++[p])=pv l++[.int .i64 p.1,.int .i64 p.2]:=by unfold pv;rw[yI];rfl
theorem C0 {P : Program} (t e : TypeId) (z : aJ) (bytes size : Nat) (a0 : P.underlying t = some (.slice e)) (p : (P.info? e).map (λi => (i.zero, i.size, i.bytes)) = some (some z, size, bytes)) (D : z.cells.size = size) (a2 : 0 < size) {w : au} {B : Nat} {v : aJ} {n : Nat} {xs : List aJ} (h : w.ownsRow B e size v n xs) (M : B <= w.heap.size) (ys : List aJ) (a3 : ys.length = size) (h1 : ∀ y ∈ ys, y.oneCell' = true) (F : n + 1 <= maxLen) (q : (n + 1) * bytes <= 140737488355328) :
    ∃g w',(Builtin.append_ #[t,t] t #[v,.slice (some (w,0)) 1 1]).run P (w.alloc (.cells ys.toArray e))=.ok g w'/\w'.ownsRow B e size g (n+1) (xs++ys)/\Fr (λk=>v.ownBlock=some k) w w'/\(g.ownBlock=v.ownBlock\/g.ownBlock=some (w.heap.size+1)):=by obtain⟨i,hi,a1,S,E⟩:=info_parts p;obtain ⟨g, w', R, G, I, _, l⟩ := run_append_own_at (P := P) (w.alloc (.cells ys.toArray e)) B t t e i z size bytes a0 hi a1 S E D a2 v n xs (h.alloc _) ⟨w, 0, none⟩ 1 1 ys O (λj u hu => OP) h1 F q (cp M (by simp));refine⟨g,w',R,G,((Fr.refl _ w).alloc _).grown I (λk Q=>.inl Q),?_⟩;rcases l with l|l;exact .inl l;exact .inr (l.trans (by simp))
theorem Zcv {D:co} (h:pg w b base D v) (d5:base<=w) (a6:D.s.length<=1099511627776) (e9: -1<=D.calls) (f5:D.calls<=1000000) (f6:D.parts.length<=1000000) (o l:Int):
  Calls prog 380 #[(b,0),o,l] w λx w'=>x=.returned (.tuple #[bs (gI D (o,l)).1.1,((gI D (o,l)).1.2:Int)])/\
   ∃R,pg w' b base (gI D (o,l)).2 R/\Fr (uC b v) w w'/\(R.ownBlock=v.ownBlock\/∃g,R.ownBlock=some g/\w.heap.size<=g):=by
 obtain⟨y,M,F⟩:=h;obtain⟨a1,a3,a2,rfl⟩:=Za M;have a7:=y.cell 0;have q1:=y.cell 1;have q2:=y.cell 2;have q3:=y.cell 3;have q4:=y.cell 4;have c7:=y.frozen 3;have c8:=y.frozen 4;simp at a7 q1 q2 q3 q4 c7 c8;have j1:IntKind.i64.wrap (D.calls+1)=D.calls+1:=lP;obtain⟨z,I,q⟩:=bF (y.put 3 (D.calls+1:Int)) (Zq M (p:=⟨b,3,none⟩) F (D.calls+1:Int)) ((Fr.refl (uC b (.slice a1 a3 a2)) w).setCell (p:=⟨b,3,none⟩) (.inl (.inl rfl)) (D.calls+1:Int));have r0:=z.o.cell 0;have d8:=z.o.cell 1;have d9:=z.o.cell 2;have e1:=z.o.cell 3;have e3:=z.o.cell 4;have c9:=z.o.frozen 4;simp at r0 d8 d9 e1 e3 c9;have u:Hid (pg (w.setCell (b,3) (D.calls+1:Int)) b base { D with calls:=D.calls+1 } (.slice a1 a3 a2)):=J ⟨by simpa using z.o,I.o,F⟩;by_cases hF:D.calls+1=D.fail;.have B:gI D (o,l)=(([],D.code), { D with calls:=D.calls+1 }):=(by unfold gI;rw[aP hF]);rw[B];have a5:(D.calls+1==D.fail)=true:=(by rw[beq_iff_eq];exact hF);clear y M F B hF I z;go_in;go_wp2;go_quiet (fail);go_wp2;go_quiet (fail);go_wp2;go_returns;exact⟨rfl,_,(u.o.drewN _).drewN _,(q.o.drewN _).drewN _,.inl rfl⟩
 have a5:(D.calls+1==D.fail)=false:=(by rw[lN];exact hF);cases a0:pN D.s (o,l);have B:gI D (o,l)=(([],2), { D with calls:=D.calls+1 }):=(by unfold gI;rw[az hF,aP a0]);rw[B];have a8:o<0\/l<0\/(D.s.length:Int)<o\/(D.s.length:Int)-o<l:=RA;have E:=Z0 D.s;obtain⟨S,G⟩:=ay (bs D.s);obtain⟨L,b6⟩:=ay D.s.length;rw[G] at a7 r0 E;rw[b6] at E a8 a6;clear y M F B hF I z a0;rw[<-E] at a8 a6;clear E b6 G;by_cases h1:o<0;exact EK;by_cases b3:l<0;exact EK;by_cases b4:(S.size:Int)<o;exact EK;have b5:(S.size:Int)-o<l:=O;exact EK;unfold pN at a0;simp only[gm,fE] at a0;obtain⟨⟨⟨h1,b3⟩,b4⟩,b5⟩:=a0;obtain⟨a,rfl⟩:=Int.eq_ofNat_of_zero_le h1;obtain⟨c,rfl⟩:=Int.eq_ofNat_of_zero_le b3;have B:gI D ((a:Int),(c:Int))=((tH D.s ((a:Int),(c:Int)),0), { D with calls:=D.calls+1,parts:=D.parts++[((a:Int),(c:Int))] }):=by unfold gI;rw[az hF,az];unfold pN;simp only[Cg,uN];omega
 rw[B];have E:=Z0 D.s;have b7:Hid (bs (tH D.s ((a:Int),(c:Int)))=(bs D.s).extract a (a+c)):=J (p_ (bs D.s) a c).symm;rw[b7.o];obtain⟨S,G⟩:=ay (bs D.s);rw[G] at a7 r0 E⊢;have c3:=J G;rw[<-E] at b4 b5 a6;have d1:¬(a:Int)<0:=O;have d2:¬(c:Int)<0:=O;have d3:¬(S.size:Int)<a:=O;have d4:¬(S.size:Int)-a<(c:Int):=O;have f2:decide ((a:Int)<0)=false:=cG d1;have e6:decide ((c:Int)<0)=false:=cG d2;have e8:decide ((S.size:Int)<a)=false:=cG d3;have e7:decide (S.size<a)=false:=cG O;have f7:decide ((S.size:Int)-a<(c:Int))=false:=cG d4;have d7:b<w:=y.lt;have c4:=J u.o.bk;have e2:∀k,k=b->¬(Value.slice a1 a3 a2).ownBlock=some k:=λk d6 h=>F (by rw[h,d6]);clear y F B hF z b7 G E;go_in;go_wp2;go_quiet (fail);obtain⟨R,W,a4,b2,b8,t⟩:=C0 (P:=prog) 35 40 _ _ 2 underlying35 ZpS rfl aZ (w:=(w.setCell ⟨b,3,none⟩ (D.calls+1:Int)).drewN nq) I.o (by simpa using d5) [.int .i64 (a:Int),.int .i64 (c:Int)] rfl t' gn O;obtain⟨A2,b0,a9,rfl⟩:=Za b2;have c5:((w.setCell (b,3) (D.calls+1:Int)).drewN nq).heap.size=w.heap.size:=(by simp);rw[c5] at a4 t;have c6:=J a4;have Q:Bk W b 37 #[bs D.s,D.fail,D.code,(D.calls+1:Int),(a1,a3,a2)]:=(c4.o.drewN nq).fr b8 (e2 b rfl);have b1:=J (Q.put 4 (.slice A2 b0 a9));have e4:=Q.frozen 4;have e5:=Q.cell 4;have b9:=b1.o.cell 0;rw[c3.o] at b9;simp at b9 e4 e5;clear a4 Q;go_wp2_with (at_builtin;refine Z5 iW rfl _ _ _ rfl _ _ (by rfl) (by rfl) c6.o ?_);go_wp2;go_returns;refine⟨rfl,.slice A2 b0 a9,⟨by simpa using b1.o,?_,?_⟩,?_,?_⟩;have e:(D.parts++[((a:Int),(c:Int))]).length=D.parts.length+1:=(by simp);show(W.setCell _ _).ownsRow _ _ _ _ (D.parts++[((a:Int),(c:Int))]) _;rw[e,QN];refine Zq b2 ?_ _;exact Pp;exact Pp;exact(((q.o.drewN nq).trans' b8 (λ_ _ h=>.inr h)).setCell (.inl (.inl rfl)) _);rcases t with h|h;exact .inl h;exact .inr ⟨_,h,O⟩
def jK (r:ax×Nat):aJ:=.tuple #[bs r.1,r.2]
theorem WJ (D:co) (o:Int):dk D (o,0)=(([],0),D):=by unfold dk;rw[aP rfl]
theorem ZpU {D:co} {l:Int} (h0:l≠0):dk D (o,l)=if(gI D (o,l)).1.2=2 then(([],12),(gI D (o,l)).2) else if(gI D (o,l)).1.2≠0 then(([],(gI D (o,l)).1.2),(gI D (o,l)).2) else gI D (o,l):=by unfold dk;rw[az h0]
theorem Z82 (hd:d.size<=1099511627776) {D:co} (t:D.s=aH d) (ok:qn D) (o l:Int) (w:au):
  Calls prog 45 #[.iface 103 (.string d),.agg #[o,l]] w (bN w (jK (dk D (o,l)).1)):=by
 have q:=J ((bi w w).alloc aW (.cells #[o,l] 40));have E:=J (λW=>Zb5 d hd o l W);obtain⟨_,_,g⟩:=zj ok (o,l);by_cases h0:l=0;.subst h0;have k:Hid (jK (dk D (o,0)).1=.tuple #[.string ⟨#[]⟩,(0:Int)]):=J (by rw[WJ];rfl);clear g E;rw[k.o];go_in;go_wp2;go_returns;exact⟨rfl,q.o⟩
 have u:(l==0)=false:=(by rw[lN];exact h0);rw[t,Dx _ _ h0] at g;rw[show(aH d).length=d.size from rfl] at g;clear ok t;cases p:pN d.size (o,l);rw[p,aP rfl] at E;have k:Hid (jK (dk D (o,l)).1=.tuple #[.string ⟨#[]⟩,(12:Int)]):=J (by rw[g,p];rfl);clear g;rw[k.o];exact Q1;rw[p,az aZ] at E;have k:Hid (jK (dk D (o,l)).1=.tuple #[bs (tH (aH d) (o,l)),(0:Int)]):=J (by rw[g,p];rfl);clear g;rw[k.o];generalize bs (tH (aH d) (o,l))=S at*;exact Q1
theorem pg.nob {D:co} (h:pg w b base D v) (g:Fr nob w w'):pg w' b base D v:=⟨h.bk.fr g id,Z6 h.own g (λ_ _ f=>f),h.ap⟩
def Nj (w:au) (b base:Nat) (v:aJ) (r:(ax×Nat)×co) (x:Ending) (w':au):Prop:=
 x=.returned (jK r.1)/\∃k,pg w' b base r.2 k/\Fr (uC b v) w w'/\(k.ownBlock=v.ownBlock\/∃g,k.ownBlock=some g/\w.heap.size<=g)
theorem Zba {D:co} (h:pg w b base D v) (a1:base<=w) (M:D.s.length<=1099511627776) (a0: -1<=D.calls) (G:D.calls<=1000000) (I:D.parts.length<=1000000) (o l:Int):
  Calls prog 45 #[.iface 34 (.pointer (some (b,0))),.agg #[o,l]] w λx w'=>Nj w b base v (dk D (o,l)) x w':=by
 have F:=J ((Fr.refl nob w).alloc (.cells #[o,l] 40));have h1:=h.nob F.o;have E:=J (Zcv h1 (cp a1 F.o.size) M a0 G I o l);have z:=J (λ(X W:au) (h:Fr (uC b v) (w.alloc (.cells #[o,l] 40)) W)=>F.o.of_nob.trans' h (λ_ _ h=>h));have k:∀g,(w.alloc (.cells #[o,l] 40)).heap.size<=g->w.heap.size<=g:=λg a2=>(by rw[World.size_alloc] at a2;omega);unfold Nj;by_cases h0:l=0;.subst h0;have R:=J (WJ D o);have Q:=J h1;clear h h1 E M G I;rw[R.o];go_in;go_wp2;go_returns;exact⟨rfl,v,Q.o,F.o.of_nob,.inl rfl⟩
 have a3:(l==0)=false:=(by rw[lN];exact h0);rw[ZpU h0];obtain⟨⟨⟨s,e⟩,D2⟩,hR⟩:=ay (gI D (o,l));rw[hR] at E⊢;simp only at E⊢;clear h h1 hR M G I;by_cases e2:e=2;.subst e2;rw[aP rfl];go_in;go_wp21;refine aO E.o λw1 ⟨v',t1,p,q⟩=>?_;obtain⟨e3,u,B⟩:=bF t1 (z.o w _ p) (q.imp id (λ⟨g,y,t⟩=>⟨g,y,k g t⟩):_\/∃g,v'.ownBlock=some g/\w.heap.size<=g);clear t1 p q;go_wp2;go_returns;exact⟨rfl,v',e3.o,u.o,B.o⟩
 rw[az e2];by_cases e0:e=0;subst e0;rw[az (λh=>h rfl)];exact NA;rw[aP e0];have c2:((e:Int)==2)=false:=pt;have c0:((e:Int) !=0)=true:=fb;exact NA
abbrev dQ (h:Hd) (AQ:bS) (kq:Nat) (AG:bS) (kg:Nat) (AS:bS) (ks:Nat):Array aJ:=
 #[h.f,h.t,h.lv,h.sp,(AQ,h.quiet.length,kq),(AG,h.gaps.length,kg),h.off,h.sn,(AS,h.strs.length,ks)]
def ky (l:List Bool):List aJ:=l.map Value.bool
structure mi (w:World) (h:Hd) (AQ AG AS:Option Addr):Prop where
 q:At w AQ (ky h.quiet)
 g:At w AG (pv h.gaps)
 s:At w AS (pv h.strs)
theorem mi.below {h:Hd} {AQ AG l:bS} (k:mi w h AQ AG l) (hb:Below w w w'):mi w' h AQ AG l:=⟨k.q.below hb,k.g.below hb,k.s.below hb⟩
theorem VO {f t:Int} {lv sp:Int} {Q G S:aJ} {z:Int} (hb:Below (w.alloc (.cells #[f,t,lv,sp,Q,G,o,z,S] 42)) (w.alloc (.cells #[f,t,lv,sp,Q,G,o,z,S] 42)) W):
  (W.cell? (w,0)=f/\W.cell? (w,1)=t/\W.cell? (w,2)=lv/\W.cell? (w,3)=sp/\W.cell? (w,4)=some Q/\W.cell? (w,5)=some G/\W.cell? (w,6)=o/\W.cell? (w,7)=z/\W.cell? (w,8)=some S)/\Below w w W/\w<W.heap.size:=by have h:=(Bk.new w 42 #[f,t,lv,sp,Q,G,o,z,S]).below hb (by simp);exact⟨⟨h.cell 0,h.cell 1,h.cell 2,h.cell 3,h.cell 4,h.cell 5,h.cell 6,h.cell 7,h.cell 8⟩,((bi w w).alloc aW _).trans (hb.mono (by simp)),h.lt⟩
theorem Uc {A:bS} {st:List (Int×Int)} (E:At w A (pv st)) (n cap:Nat) (k:n=st) (F:n<=9223372036854775807) (h:Hd) (AQ:bS) (l:Nat) (AG:bS) (kg:Nat) (g:bS) (ks:Nat) (q4:h.quiet.length<=9223372036854775807) (a1:h.strs.length<=9223372036854775807):
  Calls prog 48 #[(A,n,cap),.agg (dQ h AQ l AG kg g ks)] w (bN w (ic st h)):=by
 have D:=J ((bi w w).alloc aW (.cells (dQ h AQ l AG kg g ks) 42));have u:=J (QX (E.below D.o) n cap k F);have p:=J (λW hb=>VO (w:=w) (W:=W) (f:=h.f) (t:=h.t) (lv:=(h.lv:Int)) (sp:=(h.sp:Int)) (Q:=.slice AQ h.quiet l) (G:=.slice AG h.gaps kg) (S:=.slice g h.strs ks) (o:=h.off) (z:=(h.sn:Int)) hb);have q:Hid (ic st h=(ee st&&((h.quiet.length:Int)==n)&&((h.strs.length:Int)==n))):=J (by subst k;unfold ic;rw[lO];simp only[gm,fE,beq_iff_eq,Int.ofNat_inj]);generalize ic st h=R at*;generalize ee st=B at*;obtain⟨f,t,lv,sp,a0,qs,off,sn,M⟩:=h;simp only[dQ] at*;generalize qs.length=nq at*;generalize M.length=ns at*;clear E k;go_in;go_wp21;refine aO u.o λw1 y=>?_;obtain⟨⟨a2,a3,a4,a5,a6,a7,a8,b0,b1⟩,aa,_⟩:=p.o _ y;have I:=J aa;clear y aa u p D
 cases e1:((nq:Int)==n)<;>cases e2:((ns:Int)==n)<;>cases B<;>(
  rw[e1,e2] at q;go_wp2;go_returns;exact⟨Z4 q.o.symm,I.o⟩)
structure rj (w0:World) (V:Value) (I:World->co->(Nat->Prop)->Prop):Prop where
 rdF:∀ {W:World} {D:co} {T:Nat->Prop},I W D T->D.calls<=1000->D.parts.length<=1000->∀o l:Int,
  dt 45 #[V,.agg #[o,l]] W λx w'=>x=.returned (jK (dk D (o,l)).1)/\∃T',I w' (dk D (o,l)).2 T'/\Fr T W w'/\∀k,T' k->T k\/W.heap.size<=k
 frS:∀ {W W':World} {D:co} {T S:Nat->Prop},I W D T->Fr S W W'->(∀k,S k->¬T k/\w0.heap.size<=k)->I W' D T
 lt:∀ {W:World} {D:co} {T:Nat->Prop},I W D T->∀k,T k->k<W.heap.size
 bl:∀ {W:World} {D:co} {T:Nat->Prop},I W D T->Below w0.heap.size w0 W
theorem rj.fr {V:aJ} {I:au->co->(Nat->Prop)->Prop} (R:rj w0 V I) {W':au} {D:co} {T:Nat->Prop} (hi:I W D T) (g:Fr nob W W'):I W' D T:=R.frS hi g (λ_ k=>k.elim)
theorem Ku (w0:au) (hd:d.size<=1099511627776):rj w0 (.iface 103 (.string d)) (λW D T=>D.s=aH d/\qn D/\T=nob/\Below w0 w0 W) where
 rdF:=by intro W D T hi _ _ o l;obtain⟨h1,p,q,g⟩:=hi;refine(Z82 hd h1 p o l W).mono ?_;rintro x w' ⟨rfl,hb⟩;obtain⟨k1,k2,_⟩:=zj p (o,l);exact⟨rfl,T,⟨by rw[k2,h1],k1,q,g.trans (hb.mono g.size)⟩,Fr.of_below hb,λk h=>.inl h⟩
 frS:=λ⟨h1,p,q,g⟩ hf hS=>⟨h1,p,q,g.trans (hf.toBelow' g.size (λk t u=>by have:=(hS k u).2;omega))⟩
 lt:=by intro W D T hi k t;rw[hi.2.2.1] at t;exact t.elim
 bl:=λhi=>hi.2.2.2
theorem Zr2 (D:co) (p:Int×Int):(gI D p).2.s=D.s/\(gI D p).2.fail=D.fail/\(gI D p).2.code=D.code/\D.calls<=(gI D p).2.calls/\(gI D p).2.parts<=D.parts.length+1/\(gI D p).2.calls<=D.calls+1/\(gI D p).1.1<=D.s.length:=by unfold gI;split;exact PU;split;exact PU;refine⟨rfl,rfl,rfl,dw,by simp,Int.le_refl _,?_⟩;simp only[tH,eC,jt];omega
theorem zo (D:co) (p:Int×Int):(dk D p).2.s=D.s/\(dk D p).2.fail=D.fail/\(dk D p).2.code=D.code/\D.calls<=(dk D p).2.calls/\(dk D p).2.parts<=D.parts.length+1/\(dk D p).2.calls<=D.calls+1/\(dk D p).1.1<=D.s.length:=by obtain⟨a1,a2,a3,a4,a5,a6,g⟩:=Zr2 D p;unfold dk;split;exact⟨rfl,rfl,rfl,Int.le_refl _,dw,dw,by simp⟩;split;exact⟨a1,a2,a3,a4,a5,a6,by simp⟩;split;exact⟨a1,a2,a3,a4,a5,a6,by simp⟩;exact⟨a1,a2,a3,a4,a5,a6,g⟩
theorem ZjG (h0:w0<=b) (h1:w0<=base):rj w0 (.iface 34 (.pointer (some (b,0)))) (λW D T=>∃v,pg W b base D v/\base<=W.heap.size/\D.s.length<=1099511627776/\-1<=D.calls/\T=uC b v/\Below w0 w0 W) where
 rdF:=by intro W D T hi c1 c2 o l;obtain⟨v,k1,k2,k3,y,q,p⟩:=hi;refine(Zba k1 k2 k3 y O O o l).mono ?_;rintro x w' ⟨rfl,F,t1,B,I⟩;obtain⟨a1,a2,a3,a4,a5,a6,M⟩:=zo D (o,l);subst q;refine⟨rfl,uC b F,⟨F,t1,cp k2 B.size,by rw[a1];exact k3,O,rfl,?_⟩,B,?_⟩;refine p.trans (B.toBelow' p.size (λk u t=> ?_));rcases t with h|h;exact O;have:=(k1.own.lt k h).1;omega;intro k u;rcases u with h|h;exact .inl (.inl h);rcases I with e|⟨g,e,E⟩;exact .inl (.inr (by rw[<-e];exact h));rw[e] at h;injection h with h;exact .inr O
 frS:=by rintro W W' D T S ⟨v,k1,k2,k3,y,q,p⟩ z t;subst q;exact⟨v,⟨k1.bk.fr z (λh=>(t _ h).1 (.inl rfl)),Z6 k1.own z (λg E h=>(t _ h).1 (.inr E)),k1.ap⟩,cp k2 z.size,k3,y,rfl,p.trans (z.toBelow' p.size (λk u G=>by have:=(t k G).2;omega))⟩
 lt:=by rintro W D T ⟨v,k1,k2,k3,y,q,p⟩ k u;subst q;rcases u with h|h;rw[h];exact k1.bk.lt;exact(k1.own.lt k h).2
 bl:=λ⟨v,k1,k2,k3,y,q,p⟩=>p
end Go.Proofs.Y
namespace Wv
open Go.Proofs.Tryz Go.Proofs.Y
variable{k:Nat}{lv:Int}{qs:List Bool}{st:List (Int×Int)}{xs:List ax}
def zC (n:Nat) (f t:Int) (lv sp ng:Nat):ax:=bj n++(bj (f+1).toNat++(bj (t-f).toNat++(bj lv++(bj sp++bj ng))))
theorem ZiX (st:List (Int×Int)) (f t:Int) (lv sp:Nat) (g:List (Int×Int)) (qs:List Bool) (sn:Nat) (zs:List Nat):
  YV st f t lv sp g qs sn zs=(((zC st f t lv sp g.length++lX f g)++mJ qs)++bj sn)++lw lv st qs zs:=by unfold YV xF zC;grind
theorem Zej (f:Int) (l:List (Int×Int)) (g:Int×Int):lX f (l++[g])=lX f l++(bj (g.1-f-1).toNat++bj (g.2-g.1).toNat):=by unfold lX;grind
theorem Zfz (l:List Bool) (q:Bool):mJ (l++[q])=mJ l++bj q.toNat:=by unfold mJ;grind
theorem Zmx (n:Nat) (f t:Int) (lv sp ng:Nat):(zC n f t lv sp ng).length<=54:=by unfold zC;simp only[bT];have g:=ZG n;have a1:=ZG (f+1).toNat;have a2:=ZG (t-f).toNat;have a3:=ZG lv;have a4:=ZG sp;have a5:=ZG ng;omega
theorem z_ (f:Int) (l:List (Int×Int)):(lX f l).length<=18*l.length:=Dv _ 18 (λg=>PK) l
theorem S_ (l:List Bool):(mJ l).length<=9*l.length:=Dv _ 9 (λq=>ZG _) l
theorem Lu (lv:Int):∀(st:List (Int×Int)) (qs:List Bool) (zs:List Nat),(lw lv st qs zs).length<=9*st.length
 |s::st,q::qs,z::zs=>by rw[lw,bT,f'];have:=Lu lv st qs zs;have:=ZG z;grind
 |[],_,_=>by unfold lw;simp
 |_::_,[],_=>by unfold lw;simp
 |_::_,_::_,[]=>by unfold lw;simp
theorem V8 (lv:Int) (s:Int×Int) (q:Bool) (x:ax):∀(st:List (Int×Int)) (qs:List Bool) (xs:List ax),st=xs.length->qs.length=xs.length->hT lv (st++[s]) (qs++[q]) (xs++[x])=hT lv st qs xs++(if eG s q lv=true then x else[])
 |[],[],[],_,_=>by simp[hT]
 |s'::st,q'::qs,z'::xs,h1,h2=>by rw[ju,ju,ju,hT,hT,V8 lv s q x st qs xs aI aI,ey]
 |[],_,_::_,h1,_=>aI
 |_::_,_,[],h1,_=>aI
 |_,[],_::_,_,h2=>aI
 |_,_::_,[],_,h2=>aI
theorem WS (lv:Int) (s:Int×Int) (q:Bool) (x:ax):∀(st:List (Int×Int)) (qs:List Bool) (xs:List ax),st=xs.length->qs.length=xs.length->eu lv (st++[s]) (qs++[q]) (xs++[x])=eu lv st qs xs++[if eG s q lv=true then x.length else 0]
 |[],[],[],_,_=>by rfl
 |s'::st,q'::qs,z'::xs,h1,h2=>by rw[ju,ju,ju,eu,eu,WS lv s q x st qs xs aI aI,ju]
 |[],_,_::_,h1,_=>aI
 |_::_,_,[],h1,_=>aI
 |_,[],_::_,_,h2=>aI
 |_,_::_,[],_,h2=>aI
def oR (lv:Int) (st:List (Int×Int)) (qs:List Bool) (xs:List ax) (k:Nat):ax:=lw lv (st.take k) (qs.take k) (eu lv (st.take k) (qs.take k) (xs.take k))
def oV (lv:Int) (st:List (Int×Int)) (qs:List Bool) (xs:List ax) (k:Nat):ax:=hT lv (st.take k) (qs.take k) (xs.take k)
theorem Wp (h1:k<st) (g:k<qs) (l:k<xs):
  oR lv st qs xs (k+1)=oR lv st qs xs k++(if eG st[k] qs[k] lv=true then bj xs[k].length else[])/\oV lv st qs xs (k+1)=oV lv st qs xs k++(if eG st[k] qs[k] lv=true then xs[k] else[]):=by unfold oR oV;have p:(st.take k)=k:=aI;have l2:(qs.take k)=k:=aI;have q:(xs.take k)=k:=aI;rw[dD h1,dD g,dD l];have l4:=y' lv (st.take k) (qs.take k) (xs.take k) O O;refine⟨?_,V8 lv _ _ _ _ _ _ O O⟩;rw[WS lv _ _ _ _ _ _ O O,Kc lv _ _ _ _ _ _ O O];grind
theorem ZmP {n:Nat} (h1:st=n) (g:qs=n) (k:xs=n):oR lv st qs xs n=lw lv st qs (eu lv st qs xs)/\oV lv st qs xs n=hT lv st qs xs:=by unfold oR oV;grind
theorem Zpw (lv:Int) (st:List (Int×Int)) (qs:List Bool) (xs:List ax) (k:Nat):(oR lv st qs xs k).length<=9*st.length:=by have:=Lu lv (st.take k) (qs.take k) (eu lv (st.take k) (qs.take k) (xs.take k));rw[eC] at this;unfold oR;omega
theorem Mv {lv:Int} {st:List (Int×Int)} {qs:List Bool} {xs:List ax} {M:Nat} (l:∀x∈xs,x.length<=M) (h1:st=xs.length) (g:qs=xs.length):∀k,k<=xs.length->(oV lv st qs xs k).length<=M*k
 |0,_=>by simp[oV,hT]
 |k+1,h=>by rw[(Wp (lv:=lv) (show k<st.length by omega) (show k<qs.length by omega) (show k<xs.length by omega)).2,bT,Nat.mul_succ];have:=Mv (lv:=lv) l h1 g k O;grind
theorem L8 {c w:ax} (h:Zp k c=some w):w.length<=5000:=by unfold Zp at h;rcases g:lx c with _|t;exact aI;rw[g] at h;injection h with h;have p:=Db g;rw[<-h,QV];have h1:(ZN c t).length<=4096:=Fo;have l:=ZG (ZN c t);omega
end Wv
namespace Go.Proofs.Y
open Tryz Wv Go.RowKit
variable{V:aJ}{W w1:au}{most:Int}{n:Nat}
def ec (I:au->co->(Nat->Prop)->Prop) (w:au) (T:Nat->Prop) (D:co) (w':au):Prop:=∃g,I w' D g/\Fr T w w'/\∀k,g k->T k\/w.heap.size<=k
theorem ec.step {I:au->co->(Nat->Prop)->Prop} {w0:au} (R:rj w0 V I) {w g p:au} {T:Nat->Prop} {D:co} (h1:Below w w w1) (u:ec I w1 T D g) (l:Below g g p):ec I w T D p:=by obtain⟨q,i,f,t⟩:=u;refine⟨q,R.fr i (Fr.of_below l),((Fr.of_below h1).trans f).below l,λk y=> ?_⟩;rcases t k y with h|h;exact .inl h;exact .inr (cp h1.size h)
theorem ec.start {I:au->co->(Nat->Prop)->Prop} {w0:au} (R:rj w0 V I) {w:au} {T:Nat->Prop} {D:co} (hi:I w D T) (h1:Below w w w1):ec I w T D w1:=
 ⟨T,R.fr hi (Fr.of_below h1),Fr.of_below h1,λk h=>.inl h⟩
theorem ec.bl {I:au->co->(Nat->Prop)->Prop} {w0:au} (R:rj w0 V I) {w:au} {T:Nat->Prop} {D:co} (h:ec I w T D w1):Below w0 w0 w1:=R.bl h.choose_spec.1
def VaR (I:au->co->(Nat->Prop)->Prop) (w:au) (T:Nat->Prop) (r:(bd×Nat)×co) (x:Ending) (w':au):Prop:=
 ∃v,x=.returned (.tuple #[v,r.1.2])/\sP w' v r.1.1/\ec I w T r.2 w'
theorem JH {w0:au} {I:au->co->(Nat->Prop)->Prop} (R:rj w0 V I) {w:au} {D:co} {T:Nat->Prop} (hi:I w D T) (c1:D.calls<=1000) (c2:D.parts.length<=1000) (p:D.s.length<=1000000000)
  {A:bS} {st:List (Int×Int)} (y:At w0 A (pv st)) (a5:gL w0) (n cap:Nat) (E:n=st) (a2:n<=9223372036854775807) (h:Hd) (AQ:bS) (q:Nat) (AG:bS) (kg:Nat) (k:bS) (ks:Nat) (q4:h.quiet.length<=9223372036854775807) (c5:h.strs.length<=9223372036854775807):
  Calls prog 17 #[(A,n,cap),V,.agg (dQ h AQ q AG kg k ks)] w λx w'=>VaR I w T (gV st D h) x w':=by
 have b7:=J ((bi w w).alloc aW (.cells (dQ h AQ q AG kg k ks) 42));have M:=R.fr hi (Fr.of_below b7.o);obtain⟨b0,a7,b2,a8,a0,b1⟩:=fF (Uc (y.below (R.bl M)) n cap E a2 h AQ q AG kg k ks q4 c5) (λW hb=>VO (w:=w) (W:=W) (f:=h.f) (t:=h.t) (lv:=(h.lv:Int)) (sp:=(h.sp:Int)) (Q:=.slice AQ h.quiet.length q) (G:=.slice AG h.gaps.length kg) (S:=.slice k h.strs.length ks) (o:=h.off) (z:=(h.sn:Int)) hb) (λW (hb:Below w w W)=>R.rdF (R.fr hi (Fr.of_below hb)) c1 c2 h.off (h.sn:Int)) (λW (hb:Below w0 w0 W) s p=>Z95 (y.below hb) s p (a5.below hb) n cap E a2) (zo D (h.off,(h.sn:Int))) hi
 have g:Hid (gV st D h=if ic st h=false then(([],1),D) else if(dk D (h.off,(h.sn:Int))).1.2≠0 then(([],(dk D (h.off,(h.sn:Int))).1.2),(dk D (h.off,(h.sn:Int))).2)
  else if(km Z3 st (dk D (h.off,(h.sn:Int))).1.1).2≠0 then(([],12),(dk D (h.off,(h.sn:Int))).2) else(((km Z3 st (dk D (h.off,(h.sn:Int))).1.1).1,0),(dk D (h.off,(h.sn:Int))).2)):=J rfl;generalize gV st D h=RV at*;generalize ic st h=B at*;generalize dk D (h.off,(h.sn:Int))=r at*;obtain⟨⟨s,e⟩,D2⟩:=r;have c4:s.length<=1000000000:=cp a0.o.2.2.2.2.2.2 p;obtain⟨f,t,lv,sp,c7,qs,off,sn,c6⟩:=h;simp only[dQ] at*;generalize qs.length=nq at*;generalize c6.length=ns at*;clear y a5 E hi M p c1 c2 a0;go_in;go_wp21;refine aO b0.o λw1 b4=>?_;obtain⟨⟨c9,d1,d3,d4,d5,d6,d7,d8,d9⟩,aa,_⟩:=a7.o _ b4;have l:=J aa;cases B;.rw[aP rfl] at g;go_wp2;go_returns;rw[g.o];exact⟨_,rfl,sP.nil _,ec.start R b1.o l.o⟩
 rw[az aZ] at g;go_wp21;refine aO (b2.o _ l.o) λa6 b9=>?_;have F:=J (show ec I w1 T D2 a6 from b9);by_cases a4:e=0
 .subst a4;rw[az (λh=>h rfl)] at g;simp only[jK];have a1:=J (a8.o a6 (ec.bl R F.o) s c4);obtain⟨⟨vs,e2⟩,hE⟩:=ay (km Z3 st s);rw[hE] at g a1;simp only at g;generalize bs s=S at*;go_wp21;refine(a1.o).mono ?_;rintro x c8 ⟨v,rfl,tv,b5⟩;have u:=J (ec.step R l.o F.o b5);have b3:=J tv;obtain⟨A2,k2,rfl,b6⟩:=b3.o;have b8:=J b6;by_cases a3:e2=0;.subst a3;rw[az (λh=>h rfl)] at g;go_wp2;go_returns;rw[g.o];exact⟨_,rfl,⟨A2,k2,rfl,b8.o⟩,u.o⟩
  rw[aP a3] at g;have c3:((e2:Int) !=0)=true:=fb;go_wp2;go_returns;rw[g.o];exact⟨_,rfl,sP.nil _,u.o⟩
 rw[aP a4] at g;simp only[jK];have c3:((e:Int) !=0)=true:=fb;have u:=J (ec.step R l.o F.o (bi _ _));generalize bs s=S at*;go_wp2;go_returns;rw[g.o];exact⟨_,rfl,sP.nil _,u.o⟩
abbrev iu:Array aJ:= #[.int .i64 0,.int .i64 0,.int .i64 0,.int .i64 0,.slice none 0 0,.slice none 0 0,.int .i64 0,.int .i64 0,.slice none 0 0]
structure gl (w0:World) (b H:Nat) (s:ByteArray) (e:Nat) (cs:Array Value) (w:World):Prop where
 rv:RV w b s e
 hd:Bk w H 42 cs
 rs:Bk w w0.heap.size 42 iu
 bel:Below w0.heap.size w0 w
variable {w0 w w':au} {b H:Nat} {s s':aS} {e e':Nat} {cs:Array aJ}
theorem gl.fr {S:Nat->Prop} (h:gl w0 b H s e cs w) (g:Fr S w w') (h1:¬S b) (p:¬S H) (l:∀k,S k->w0.heap.size<k):gl w0 b H s e cs w':=
 ⟨Bk.fr h.rv g h1,h.hd.fr g p,h.rs.fr g (λk=>absurd (l _ k) (Nat.lt_irrefl _)),h.bel.trans (g.toBelow' h.bel.size (λk t q=>by have:=l k q;omega))⟩
theorem gl.num (h:gl w0 b H s e cs w) (hb:w0<b) (hH:b≠H) (p:RV w' b s' e') (g:Fr (only b) w w'):gl w0 b H s' e' cs w':=
 ⟨p,h.hd.fr g (λk=>hH k.symm),h.rs.fr g (λk=>by have k:w0=b:=k;omega),h.bel.trans (g.toBelow' h.bel.size (λk q l=>by have l:k=b:=l;omega))⟩
theorem gl.put (h:gl w0 b H s e cs w) (hH:b≠H) (h0:w0<H) (i:Nat) (u:aJ):gl w0 b H s e (cs.setIfInBounds i u) (w.setCell (H,i) u):=
 ⟨Bk.off h.rv hH u,h.hd.put i u,h.rs.off (show w0.heap.size≠H by omega) u,h.bel.trans (((Fr.refl (only H) w).setCell (p:=⟨H,i,none⟩) (.inl rfl) u).toBelow' h.bel.size (λk l g=>by have g:k=H:=g;omega))⟩
theorem gl.alloc (h:gl w0 b H s e cs w) (o:Obj):gl w0 b H s e cs (w.alloc o):=h.fr ((Fr.refl nob w).alloc o) id id (λ_ k=>k.elim)
theorem gl.drew (h:gl w0 b H s e cs w):gl w0 b H s e cs w.drew:=h.fr (Fr.refl nob w).drew id id (λ_ k=>k.elim)
theorem gl.below (h:gl w0 b H s e cs w) (hb:Below w w w'):gl w0 b H s e cs w':=h.fr (Fr.of_below (S:=nob) hb) id id (λ_ k=>k.elim)
theorem gl.off (h:gl w0 b H s e cs w) {p:Addr} (h1:p.block≠b) (l:p.block≠H) (q:w0<p.block) (u:aJ):gl w0 b H s e cs (w.setCell p u):=
 h.fr ((Fr.refl (only p.block) w).setCell (.inl rfl) u) (λk=>h1 k.symm) (λk=>l k.symm) (λk g=>by have g:k=p.block:=g;omega)
theorem Hx (h:bK s e most=(n,s',e')) (g:s.size<=1099511627776) (k:RV W b s e):
  dt 81 #[(b,0),most] W λx w'=>x=.returned n/\RV w' b s' e'/\Fr (only b) W w':=by have:=Zl k g most;rw[h] at this;exact this
theorem Bs (h:bK s e most=(n,s',e')) (l:s.size<=1099511627776) (hb:w0<b) (hH:b≠H) (k:gl w0 b H s e cs W):
  dt 81 #[(b,0),most] W λx w'=>x=.returned n/\gl w0 b H s' e' cs w'/\Fr (only b) W w':=
 (Hx h l k.rv).mono λx w' g=>⟨g.1,k.num hb hH g.2.1 g.2.2,g.2.2⟩
end Go.Proofs.Y
namespace Wv
open Go.Proofs.Tryz Go.Proofs.Y
variable{e e1 e2 k n:Nat}{s s1 s2:aS}
theorem T4 (f:Int) (x:Rs):∀k,(jo f x k).2.1.size<=x.1.size
 |0=>aW
 |k+1=>by rw[jo];exact cp Zw (cp Zw (T4 f x k))
theorem US (x:Rs):∀k,(eU x k).2.1.size<=x.1.size
 |0=>aW
 |k+1=>by rw[eU];exact cp Zw (US x k)
theorem Zgq (s:Int×Int) (q:Bool) (lv:Int) (p:(List (Int×Int)×Int)×Rs):(sF s q lv p).2.1.size<=p.2.1.size:=by unfold sF;split;exact aW;split<;>exact Zw
theorem U9 (lv:Int) (st:List (Int×Int)) (qs:List Bool) (a:Int) (x:Rs):∀k,(gU lv st qs a x k).2.1.size<=x.1.size
 |0=>aW
 |k+1=>by rw[gU];exact cp (Zgq _ _ _ _) (U9 lv st qs a x k)
theorem Zgo {lv:Int} {st:List (Int×Int)} {qs:List Bool} {a:Int} {x:Rs} :∀k,a<=(gU lv st qs a x k).1.2/\(gU lv st qs a x k).1.2<=a+16384*k
 |0=>⟨Int.le_refl _,by simp[gU]⟩
 |k+1=>by obtain⟨h1,g⟩:=Zgo (lv:=lv) (st:=st) (qs:=qs) (a:=a) (x:=x) k;rw[gU];generalize gU lv st qs a x k=p at*;have l:=Yt p.2.1 p.2.2 (most:=16384) O;unfold sF;split;exact⟨h1,dw⟩;split;exact⟨h1,dw⟩;exact Ar
theorem Zeg {f:Int} {x:Rs} {l:List (Int×Int)} {m:Nat} (h:jo f x k=(l,(s,e))) (h1:bK s e 1099511627776=(n,s1,e1)) (g:bK s1 e1 1099511627777=(m,s2,e2)):
  jo f x (k+1)=(l++[(f+1+n,f+1+n+m)],(s2,e2)):=by rw[jo,h];simp only;rw[h1];simp only;rw[g]
theorem Zfx {x:Rs} {l:List Bool} (h:eU x k=(l,(s,e))) (h1:bK s e 1=(n,s1,e1)):eU x (k+1)=(l++[decide (n=1)],(s1,e1)):=by rw[eU,h];simp only;rw[h1]
theorem ZpV {t s3 z B l:aS} {y n1 n2 n3 n4 k p q u g:Nat} (h0:bK t 0 64=(y,s1,e1)) (h1:bK s1 e1 1099511627776=(n1,s2,e2)) (D:bK s2 e2 1099511627777=(n2,s3,p)) (E:bK s3 p 2=(n3,z,q)) (F:bK z q 1099511627776=(n4,B,u)) (G:bK B u 16=(k,l,g)):
  nk t=⟨y,(n1:Int)-1,(n1:Int)-1+n2,n3,n4,(jo ((n1:Int)-1) (l,g) k).1,(jo ((n1:Int)-1) (l,g) k).2⟩:=by unfold nk;simp only[h0,h1,D,E,F,G]
end Wv
namespace Go.Proofs.Y
open Tryz Wv Go.RowKit
section
variable{V:aJ}{W W0 w w0 w1:au}{r:Nat}
abbrev Xy (W:au) (r:Nat) (v0 v1 v2 v3 v4 v5 v6 v7 v8:aJ):au:=((((((((W.setCell ⟨r,0,none⟩ v0).setCell ⟨r,1,none⟩ v1).setCell ⟨r,2,none⟩ v2).setCell ⟨r,3,none⟩ v3).setCell ⟨r,4,none⟩ v4).setCell ⟨r,5,none⟩ v5).setCell ⟨r,6,none⟩ v6).setCell ⟨r,7,none⟩ v7).setCell ⟨r,8,none⟩ v8
theorem Xh (h:Bk W r 42 iu) (g k l q t u y z B:aJ):
  Bk (Xy W r g k l q t u y z B) r 42 #[g,k,l,q,t,u,y,z,B]/\Fr (only r) W (Xy W r g k l q t u y z B):=by refine⟨by simpa using ((((((((h.put 0 g).put 1 k).put 2 l).put 3 q).put 4 t).put 5 u).put 6 y).put 7 z).put 8 B,?_⟩;exact(((((((((Fr.refl (only r) W).setCell (p:=⟨r,0,none⟩) (.inl rfl) g).setCell (p:=⟨r,1,none⟩) (.inl rfl) k).setCell (p:=⟨r,2,none⟩) (.inl rfl) l).setCell (p:=⟨r,3,none⟩) (.inl rfl) q).setCell (p:=⟨r,4,none⟩) (.inl rfl) t).setCell (p:=⟨r,5,none⟩) (.inl rfl) u).setCell (p:=⟨r,6,none⟩) (.inl rfl) y).setCell (p:=⟨r,7,none⟩) (.inl rfl) z).setCell (p:=⟨r,8,none⟩) (.inl rfl) B
theorem Zv {g l p q t u y z B:aJ} (k:Bk W r 42 #[g,l,p,q,t,u,y,z,B]):
  W.cell? (r,0)=some g/\W.cell? (r,1)=some l/\W.cell? (r,2)=some p/\W.cell? (r,3)=some q/\W.cell? (r,4)=some t/\W.cell? (r,5)=some u/\W.cell? (r,6)=some y/\W.cell? (r,7)=some z/\W.cell? (r,8)=some B:=
 ⟨k.cell 0,k.cell 1,k.cell 2,k.cell 3,k.cell 4,k.cell 5,k.cell 6,k.cell 7,k.cell 8⟩
theorem YU (h:Bk W r 42 iu) (g l p q t u y z B:aJ):
  (Xy W r g l p q t u y z B).cell? (r,0)=some g/\(Xy W r g l p q t u y z B).cell? (r,1)=some l/\(Xy W r g l p q t u y z B).cell? (r,2)=some p/\(Xy W r g l p q t u y z B).cell? (r,3)=some q/\(Xy W r g l p q t u y z B).cell? (r,4)=some t/\(Xy W r g l p q t u y z B).cell? (r,5)=some u/\(Xy W r g l p q t u y z B).cell? (r,6)=some y/\(Xy W r g l p q t u y z B).cell? (r,7)=some z/\(Xy W r g l p q t u y z B).cell? (r,8)=some B:=by have k:=(Xh h g l p q t u y z B).1;exact⟨k.cell 0,k.cell 1,k.cell 2,k.cell 3,k.cell 4,k.cell 5,k.cell 6,k.cell 7,k.cell 8⟩
theorem YN (h:Bk W r 42 iu):(W.cell? (r,0)=(0:Int)/\W.cell? (r,1)=(0:Int)/\W.cell? (r,2)=(0:Int)/\W.cell? (r,3)=(0:Int)/\W.cell? (r,4)=some (.slice none 0 0)/\W.cell? (r,5)=some (.slice none 0 0)/\W.cell? (r,6)=(0:Int)/\W.cell? (r,7)=(0:Int)/\W.cell? (r,8)=some (.slice none 0 0))/\(W.frozen? (r,0)=false/\W.frozen? (r,1)=false/\W.frozen? (r,2)=false/\W.frozen? (r,3)=false/\W.frozen? (r,4)=false/\W.frozen? (r,5)=false/\W.frozen? (r,6)=false/\W.frozen? (r,7)=false/\W.frozen? (r,8)=false):=
 ⟨⟨h.cell 0,h.cell 1,h.cell 2,h.cell 3,h.cell 4,h.cell 5,h.cell 6,h.cell 7,h.cell 8⟩,h.frozen 0,h.frozen 1,h.frozen 2,h.frozen 3,h.frozen 4,h.frozen 5,h.frozen 6,h.frozen 7,h.frozen 8⟩
theorem gl.nine {b H:Nat} {s:aS} {e:Nat} {cs:Array aJ} (h:gl w0 b H s e cs W) (g l p q t u y z B:aJ):Below w0 w0 (Xy W w0 g l p q t u y z B):=
 h.bel.trans ((Xh h.rs g l p q t u y z B).2.toBelow' h.bel.size (λk D e=>by have e:k=w0.heap.size:=e;omega))
theorem ec.fin {I:au->co->(Nat->Prop)->Prop} (R:rj w0 V I) {y:au} {T:Nat->Prop} {D p:co} (hi:I w D T) (hb:Below w w W0) (h:ec I W0 T p w1) (u:Fr (only r) w1 y) (h1:w<=r) (z:r<W0):ec I w T p y:=by
 obtain⟨q,i,f,t⟩:=h;have ab:=R.lt hi;have E:=(R.bl hi).size;have l:¬q r:=λg=>by rcases t r g with k|k;have:=ab r k;omega;omega
 refine⟨q,R.frS i u (λk g=> ?_),((Fr.of_below hb).trans f).trans' u (λj B e=> ?_),λk g=> ?_⟩;have g:k=r:=g;subst g;exact⟨l,O⟩;have e:j=r:=e;omega;rcases t k g with h|h;exact .inl h;exact .inr O
theorem ec.bk {I:au->co->(Nat->Prop)->Prop} (R:rj w0 V I) {T:Nat->Prop} {D g:co} {t:TypeId} {cs:Array aJ} (hi:I w D T) (h:ec I W0 T g w1) (h1:w<=r) (k:Bk W0 r t cs):Bk w1 r t cs:=by obtain⟨l,i,f,t⟩:=h;exact k.fr f (λh=>by have:=R.lt hi r h;omega)
def uJ (B:Nat) (AQ AG g:bS):Prop:=∀b o,AQ=some ⟨b,o,none⟩\/AG=some ⟨b,o,none⟩\/g=some ⟨b,o,none⟩->B<=b
theorem uJ.mono {B k:Nat} {AQ AG g:bS} (h:uJ B AQ AG g) (hb:k<=B):uJ k AQ AG g:=λb o e=>cp hb (h b o e)
def Nb (I:au->co->(Nat->Prop)->Prop) (w:au) (T:Nat->Prop) (r:(Option Hd×Nat)×co) (x:Ending) (w':au):Prop:=
 ec I w T r.2 w'/\match r.1.1 with
 |none=>x=.returned (.tuple #[.agg iu,r.1.2])
 |some h=>∃AQ k AG kg g ks,x=.returned (.tuple #[.agg (dQ h AQ k AG kg g ks),r.1.2])/\mi w' h AQ AG g/\uJ w AQ AG g
end
variable{base n size:Nat}{v:aJ}
theorem Zpf:(prog.info? 77).map (λi=>(i.zero,i.size,i.bytes))=some (some (.agg #[(0:Int),(0:Int)]),2,16):=dE
theorem ZhH:(prog.info? 4).map (λi=>(i.zero,i.size,i.bytes))=some (some (.bool false),1,1):=dE
theorem G5 {w:au} {F:Nat} {e e':TypeId} {y E:Nat} {u:aJ} {xs q:List aJ} (h:w.ownsRow base e size v n xs) (D:w.ownsRow F e' y u E q) (B:e≠e'):∀g,v.ownBlock=some g->u.ownBlock≠some g:=by intro g k;rcases h.2 with ⟨p,_⟩|⟨t,cap,l,p,_,z,_⟩;rw[p] at k;cases k;rw[p] at k;injection k with k;have k:t=g:=k;subst k;exact Z1 D (show Bk w t e l from z) (λx=>B x.symm)
theorem Zl5 {w0 w:au} {b H:Nat} {s:aS} {e:Nat} {cs:Array aJ} (h:gl w0 b H s e cs w) {e':TypeId} {xs:List aJ} (l:w.ownsRow w0 e' size v n xs) (p:e'≠42):∀k,v.ownBlock=some k->w0.heap.size<k:=λk g=>by have h1:=(l.lt k g).1;have q:k≠w0.heap.size:=λe=>(by subst e;exact Z1 l h.rs p g);omega
theorem Znh:(prog.info? 40).map (λi=>(i.zero,i.size,i.bytes))=some (some (.agg #[(0:Int),(0:Int)]),2,16):=dE
structure fM (w0:World) (b H:Nat) (s:ByteArray) (e:Nat) (c0 c1 c2 c3 c6 c7:Int) (Q G S:Value) (nq ng ns:Nat) (xq xg xs:List Value) (w:World):Prop where
 pa:gl w0 b H s e #[c0,c1,c2,c3,Q,G,c6,c7,S] w
 q:w.ownsRow w0.heap.size 4 1 Q nq xq
 g:w.ownsRow w0.heap.size 77 2 G ng xg
 s:w.ownsRow w0.heap.size 40 2 S ns xs
 hb:w0.heap.size<b
 hH:w0.heap.size<H
 bH:b≠H
section
variable {w0 w w':au} {b H:Nat} {s s':aS} {e e':Nat} {c0 c1 c2 c3 c6 c7:Int} {Q G S:aJ} {nq ng ns:Nat} {xq xg xs:List aJ}
theorem fM.fr {Z:Nat->Prop} (h:fM w0 b H s e c0 c1 c2 c3 c6 c7 Q G S nq ng ns xq xg xs w) (l:Fr Z w w') (h1:¬Z b) (t:¬Z H) (u:∀k,Z k->w0.heap.size<k) (p:∀g,Q.ownBlock=some g\/G.ownBlock=some g\/S.ownBlock=some g->¬Z g):fM w0 b H s e c0 c1 c2 c3 c6 c7 Q G S nq ng ns xq xg xs w':=
 ⟨h.pa.fr l h1 t u,Z6 h.q l (λg k=>p g (.inl k)),Z6 h.g l (λg k=>p g (.inr (.inl k))),Z6 h.s l (λg k=>p g (.inr (.inr k))),h.hb,h.hH,h.bH⟩
theorem fM.below (h:fM w0 b H s e c0 c1 c2 c3 c6 c7 Q G S nq ng ns xq xg xs w) (hb:Below w w w'):fM w0 b H s e c0 c1 c2 c3 c6 c7 Q G S nq ng ns xq xg xs w':=h.fr (Fr.of_below (S:=nob) hb) id id (λ_ k=>k.elim) (λ_ _=>id)
theorem fM.drew (h:fM w0 b H s e c0 c1 c2 c3 c6 c7 Q G S nq ng ns xq xg xs w):fM w0 b H s e c0 c1 c2 c3 c6 c7 Q G S nq ng ns xq xg xs w.drew:=h.fr (Fr.refl nob w).drew id id (λ_ k=>k.elim) (λ_ _=>id)
theorem fM.alloc (h:fM w0 b H s e c0 c1 c2 c3 c6 c7 Q G S nq ng ns xq xg xs w) (o:Obj):fM w0 b H s e c0 c1 c2 c3 c6 c7 Q G S nq ng ns xq xg xs (w.alloc o):=h.fr ((Fr.refl nob w).alloc o) id id (λ_ k=>k.elim) (λ_ _=>id)
theorem fM.num (h:fM w0 b H s e c0 c1 c2 c3 c6 c7 Q G S nq ng ns xq xg xs w) (l:RV w' b s' e') (k:Fr (only b) w w'):fM w0 b H s' e' c0 c1 c2 c3 c6 c7 Q G S nq ng ns xq xg xs w':=
 ⟨h.pa.num h.hb h.bH l k,Z6 h.q k (λg R e=>Z1 h.q h.pa.rv aZ Av),Z6 h.g k (λg R e=>Z1 h.g h.pa.rv aZ Av),Z6 h.s k (λg R e=>Z1 h.s h.pa.rv aZ Av),h.hb,h.hH,h.bH⟩
theorem L5 {most:Int} (h:bK s e most=(n,s',e')) (l:s.size<=1099511627776) {W:au} (k:fM w0 b H s e c0 c1 c2 c3 c6 c7 Q G S nq ng ns xq xg xs W):
  dt 81 #[(b,0),most] W λx w'=>x=.returned n/\fM w0 b H s' e' c0 c1 c2 c3 c6 c7 Q G S nq ng ns xq xg xs w'/\Fr (only b) W w':=
 (Hx h l k.pa.rv).mono λx w' g=>⟨g.1,k.num g.2.1 g.2.2,g.2.2⟩
theorem fM.off (h:fM w0 b H s e c0 c1 c2 c3 c6 c7 Q G S nq ng ns xq xg xs w) {p:Addr} (h1:p.block≠b) (q:p.block≠H) (z:w0<p.block) (t:∀g,Q.ownBlock=some g\/G.ownBlock=some g\/S.ownBlock=some g->g≠p.block) (u:aJ):fM w0 b H s e c0 c1 c2 c3 c6 c7 Q G S nq ng ns xq xg xs (w.setCell p u):=
 h.fr ((Fr.refl (only p.block) w).setCell (.inl rfl) u) (λk=>h1 k.symm) (λk=>q k.symm) (λk l=>by have l:k=p.block:=l;omega) (λg y k=>t g y k)
theorem fM.rows (h:fM w0 b H s e c0 c1 c2 c3 c6 c7 Q G S nq ng ns xq xg xs w):∀g,Q.ownBlock=some g\/G.ownBlock=some g\/S.ownBlock=some g->g<w.heap.size:=λg l=>by rcases l with k|k|k;exact(h.q.lt g k).2;exact(h.g.lt g k).2;exact(h.s.lt g k).2
theorem fM.put (h:fM w0 b H s e c0 c1 c2 c3 c6 c7 Q G S nq ng ns xq xg xs w) (i:Nat) (u:aJ):Fr (only H) w (w.setCell (H,i) u)/\(∀ {e:TypeId} {sz n:Nat} {v:aJ} {xs:List aJ},w.ownsRow w0 e sz v n xs->e≠42->(w.setCell (H,i) u).ownsRow w0 e sz v n xs):=
 ⟨(Fr.refl (only H) w).setCell (p:=⟨H,i,none⟩) (.inl rfl) u,λk g=>Zq k (Z1 k h.pa.hd g) u⟩
theorem fM.appQ {x:Bool} (h:fM w0 b H s e c0 c1 c2 c3 c6 c7 Q G S nq ng ns xq xg xs w) (B:nq<=1000):
  ∃A M C W,(Builtin.append_ #[38,38] 38 #[Q,.slice (some (w,0)) 1 1]).run prog (w.alloc (.cells #[x] 4))=.ok (.slice A M C) W/\(W.cell? (H,4)=some Q/\W.frozen? (H,4)=false/\H<W.heap.size)/\
   fM w0 b H s e c0 c1 c2 c3 c6 c7 (.slice A M C) G S (nq+1) ng ns (xq++[.bool x]) xg xs (W.setCell (H,4) (.slice A M C)):=by obtain⟨D,W,z,u,t,_⟩:=C0 (P:=prog) 38 4 _ _ 1 underlying38 ZhH rfl aZ h.q h.pa.bel.size [.bool x] rfl t' gn O;obtain⟨A,M,C,rfl⟩:=Za u;have l:=h.pa.fr t (λk=>Z1 h.q h.pa.rv aZ k) (λk=>Z1 h.q h.pa.hd aZ k) (Zl5 h.pa h.q aZ);have p:=Z6 h.g t (λg p k=>G5 h.q h.g aZ g k p);have y:=Z6 h.s t (λg p k=>G5 h.q h.s aZ g k p);refine⟨A,M,C,W,z,⟨l.hd.cell 4,l.hd.frozen 4,l.hd.lt⟩,?_⟩;exact⟨by simpa using l.put h.bH h.hH 4 (.slice A M C),Zq u (Z1 u l.hd aZ) _,Zq p (Z1 p l.hd aZ) _,Zq y (Z1 y l.hd aZ) _,h.hb,h.hH,h.bH⟩
theorem fM.appS {x y:Int} (h:fM w0 b H s e c0 c1 c2 c3 c6 c7 Q G S nq ng ns xq xg xs w) (D:ns<=1000):
  ∃A M C W,(Builtin.append_ #[35,35] 35 #[S,.slice (some (w,0)) 1 1]).run prog (w.alloc (.cells #[x,y] 40))=.ok (.slice A M C) W/\(W.cell? (H,8)=some S/\W.frozen? (H,8)=false/\H<W.heap.size)/\
   fM w0 b H s e c0 c1 c2 c3 c6 c7 Q G (.slice A M C) nq ng (ns+1) xq xg (xs++[.int .i64 x,.int .i64 y]) (W.setCell (H,8) (.slice A M C)):=by obtain⟨E,W,B,u,t,_⟩:=C0 (P:=prog) 35 40 _ _ 2 underlying35 Znh rfl aZ h.s h.pa.bel.size [.int .i64 x,.int .i64 y] rfl t' gn O;obtain⟨A,M,C,rfl⟩:=Za u;have l:=h.pa.fr t (λk=>Z1 h.s h.pa.rv aZ k) (λk=>Z1 h.s h.pa.hd aZ k) (Zl5 h.pa h.s aZ);have p:=Z6 h.g t (λg p k=>G5 h.s h.g aZ g k p);have z:=Z6 h.q t (λg p k=>G5 h.s h.q aZ g k p);refine⟨A,M,C,W,B,⟨l.hd.cell 8,l.hd.frozen 8,l.hd.lt⟩,?_⟩;exact⟨by simpa using l.put h.bH h.hH 8 (.slice A M C),Zq z (Z1 z l.hd aZ) _,Zq p (Z1 p l.hd aZ) _,Zq u (Z1 u l.hd aZ) _,h.hb,h.hH,h.bH⟩
theorem fM.snap (h:fM w0 b H s e c0 c1 c2 c3 c6 c7 Q G S nq ng ns xq xg xs w) (o z:Int):fM w0 b H s e c0 c1 c2 c3 o z Q G S nq ng ns xq xg xs ((w.setCell (H,6) o).setCell (H,7) z):=by have h1:=h.pa.put h.bH h.hH 6 o;have q1:=Zq h.q (Z1 h.q h.pa.hd aZ) (p:=⟨H,6,none⟩) o;have k:=Zq h.g (Z1 h.g h.pa.hd aZ) (p:=⟨H,6,none⟩) o;have s1:=Zq h.s (Z1 h.s h.pa.hd aZ) (p:=⟨H,6,none⟩) o;exact⟨by simpa using h1.put h.bH h.hH 7 z,Zq q1 (Z1 q1 h1.hd aZ) _,Zq k (Z1 k h1.hd aZ) _,Zq s1 (Z1 s1 h1.hd aZ) _,h.hb,h.hH,h.bH⟩
theorem fM.ends (h:fM w0 b H s e c0 c1 c2 c3 c6 c7 Q G S nq ng ns xq xg xs w) (l:Fr (only b) w w'):
  Bk w' H 42 #[c0,c1,c2,c3,Q,G,c6,c7,S]/\Bk w' w0 42 iu/\
   Below w0.heap.size w0 (Xy w' w0 c0 c1 c2 c3 Q G c6 c7 S)/\
   (Xy w' w0 c0 c1 c2 c3 Q G c6 c7 S).ownsRow w0 4 1 Q nq xq/\
   (Xy w' w0 c0 c1 c2 c3 Q G c6 c7 S).ownsRow w0 77 2 G ng xg/\
   (Xy w' w0 c0 c1 c2 c3 Q G c6 c7 S).ownsRow w0 40 2 S ns xs:=by have h1:=h.hb;have k1:=h.pa.hd.fr l (λk=>h.bH k.symm);have k2:=h.pa.rs.fr l (λk=>by have k:w0=b:=k;omega);have p:=(Xh k2 c0 c1 c2 c3 Q G c6 c7 S).2;have q1:=Z6 h.q l (λg R e=>Z1 h.q h.pa.rv aZ Av);have t:=Z6 h.g l (λg R e=>Z1 h.g h.pa.rv aZ Av);have s1:=Z6 h.s l (λg R e=>Z1 h.s h.pa.rv aZ Av);refine⟨k1,k2,(h.pa.bel.trans (l.toBelow' h.pa.bel.size (λk u e=>by have e:k=b:=e;omega))).trans (p.toBelow' (cp h.pa.bel.size l.size) (λk u e=>by have e:k=w0.heap.size:=e;omega)),?_,?_,?_⟩;exact Z6 q1 p (λg R e=>Z1 q1 k2 aZ I');exact Z6 t p (λg R e=>Z1 t k2 aZ I');exact Z6 s1 p (λg R e=>Z1 s1 k2 aZ I')
theorem HO {w:au} {sz m C:Nat} {e:TypeId} {A:bS} {xs:List aJ} (h:w.ownsRow base e sz (.slice A n C) m xs) (b o:Nat) (k:A=some ⟨b,o,none⟩):base<=b:=(h.lt b (by rw[k];rfl)).1
end
end Go.Proofs.Y
namespace Wv
open Go.Proofs.Tryz Go.Proofs.Y
variable{a b lv:Int}{e k:Nat}{ps st:List (Int×Int)}{qs:List Bool}{s:aS}
theorem ZnK {x:Rs} (h:gU lv st qs a x k=((ps,b),(s,e))) (g:eG (st.getD k (0,0)) (qs.getD k false) lv=false):gU lv st qs a x (k+1)=((ps++[(0,0)],b),(s,e)):=by rw[gU,h];unfold sF;rw[aP g]
theorem Zka {x:Rs} {s1:aS} {e1 p:Nat} (h:gU lv st qs a x k=((ps,b),(s,e))) (g:eG (st.getD k (0,0)) (qs.getD k false) lv=true) (l:bK s e 16384=(p,s1,e1)):gU lv st qs a x (k+1)=if p=0 then((ps++[(0,0)],b),(s1,e1)) else((ps++[(b,(p:Int))],b+p),(s1,e1)):=by rw[gU,h];unfold sF;rw[az (by rw[g];decide)];simp only;rw[l]
end Wv
namespace Go.Proofs.Y
open Tryz Wv Go.RowKit
variable{A:bS}{W W' X w:au}{p q r:Addr}{x y z:aJ}
theorem Zic (n:Nat) (g:n<=5000) (W:au):
  (convert 88 9 (.slice (some (W,0)) 2 2)).run prog (W.alloc (.cells #[.int .u8 ((n:Int)/256 % 256),.int .u8 ((n:Int) % 256)] 5))=.ok (.string (bs [UInt8.ofNat (n/256),UInt8.ofNat n])) (W.alloc (.cells #[.int .u8 ((n:Int)/256 % 256),.int .u8 ((n:Int) % 256)] 5)):=by have h:=KK (n/256 % 256) (n % 256) O O (Bk.new W 5 #[.int .u8 ((n/256 % 256:Nat):Int),.int .u8 ((n % 256:Nat):Int)]);rw[show((n/256 % 256:Nat):Int)=(n:Int)/256 % 256 by omega,show((n % 256:Nat):Int)=(n:Int) % 256 by omega] at h;rw[show n/256 % 256=n/256 by omega,show UInt8.ofNat (n % 256)=UInt8.ofNat n from UInt8.toNat_inj.1 (by simp)] at h;exact h
theorem Zdp (n:Nat) (g:n<=5000) (W:au):
  (convert 88 9 (.slice (some (W,0)) 2 2)).run prog (W.alloc (.cells #[.int .u8 ((n:Int)/256),.int .u8 ((n:Int) % 256)] 5))=.ok (.string (bs [UInt8.ofNat (n/256),UInt8.ofNat n])) (W.alloc (.cells #[.int .u8 ((n:Int)/256),.int .u8 ((n:Int) % 256)] 5)):=by have h:=Zic n g W;rw[show(n:Int)/256 % 256=(n:Int)/256 by omega] at h;exact h
theorem Q6 {a b:Nat} (h:a+b<=100000000):(9223372036854775807<a+b)=False:=by rw[eq_iff_iff,iff_false];omega
abbrev yf (X:au) (B:Nat) (f t lv sp:Int) (Q G:aJ) (W:au):Prop:=
 (W.cell? ⟨B,0,none⟩=f/\W.cell? ⟨B,1,none⟩=t/\W.cell? ⟨B,2,none⟩=lv/\W.cell? ⟨B,3,none⟩=sp/\W.cell? ⟨B,4,none⟩=some Q/\W.cell? ⟨B,5,none⟩=some G/\Below X X W)
theorem yf.below {B:Nat} {f t lv sp:Int} {Q G:aJ} (h:yf X B f t lv sp Q G W) (u:B<X) (hb:Below W W W'):yf X B f t lv sp Q G W':=by obtain⟨h0,h1,k,l,p,q,g⟩:=h;have s:=g.size;exact⟨Below.cellAt hb dw h0,Below.cellAt hb dw h1,Below.cellAt hb dw k,Below.cellAt hb dw l,Below.cellAt hb dw p,Below.cellAt hb dw q,g.trans (hb.mono s)⟩
abbrev yg (X:au) (p q r:Addr) (x y z:aJ) (W:au):Prop:=(W.cell? p=some x/\W.cell? q=some y/\W.cell? r=some z/\Below X X W)
theorem yg.below (h:yg X p q r x y z W) (l:p.block<X) (t:q.block<X) (u:r.block<X) (hb:Below W W W'):yg X p q r x y z W':=by obtain⟨h0,h1,k,g⟩:=h;have s:=g.size;exact⟨Below.cellAt hb O h0,Below.cellAt hb O h1,Below.cellAt hb O k,g.trans (hb.mono s)⟩
abbrev zQ (X:au) (p q r u v:Addr) (x y z a b:aJ) (W:au):Prop:=(W.cell? p=some x/\W.cell? q=some y/\W.cell? r=some z/\W.cell? u=some a/\W.cell? v=some b/\Below X X W)
theorem zQ.below {u v:Addr} {a b:aJ} (h:zQ X p q r u v x y z a b W) (B:p.block<X) (D:q.block<X) (E:r.block<X) (F:u.block<X) (lv:v.block<X) (hb:Below W W W'):zQ X p q r u v x y z a b W':=by obtain⟨h0,h1,k,l,t,g⟩:=h;have s:=g.size;exact⟨Below.cellAt hb O h0,Below.cellAt hb O h1,Below.cellAt hb O k,Below.cellAt hb O l,Below.cellAt hb O t,g.trans (hb.mono s)⟩
theorem zb {l:List Bool} (g:At w A (ky l)) (k:Nat) (h:k<l):∃b o,A=some ⟨b,o,none⟩/\b<w.heap.size/\w.cell? ⟨b,o+k,none⟩=some (.bool l[k]):=
 g.get k _ (by unfold ky;rw[jV,fD h];rfl)
theorem Zn1 (k:Nat):(bs (bj k)).size<=9:=by rw[Z0];exact ZG k
theorem Xo (v:Nat):∃S,bs (bj v)=S/\S.size<=9:=⟨_,rfl,Zn1 v⟩
theorem QL (v:Int) (h0:0<=v) (h1:v<=1099511627777) {S:aS} (g:bs (bj v.toNat)=S) (W:au):dt 41 #[v] W (bN W S):=by have:=Zj v h0 O W;rw[g] at this;exact this
theorem SK {st:List (Int×Int)} (p1:At w A (pv st)) (n cap:Nat) (p4:n=st) (x0:n<=64) (f t:Int) (lv sp:Nat) {E:List (Int×Int)} {qs:List Bool} {AQ AG:bS} (a5 kg:Nat) (a9:At w AQ (ky qs)) (d8:At w AG (pv E)) (q0:qs=n)
  (p3: -1<=f) (r7:f<t) (p5:t<=1099511627776) (x6:lv<=2) (u6:sp<=1099511627776) (r5:∀g∈E,f+1<=g.1/\g.1<=g.2/\g.2<=t+1) (u8:E.length<=16) (o z:Int) (g8:aJ) {snap:ax} (a0:snap.length<=1000000)
  {AX:bS} {xs:List ax} (p6:At w AX (dZ (xs.map bs))) (w6:Nat) (b8:xs=n) (c4:∀x∈xs,x.length<=100000):
  Calls prog 34 #[(A,n,cap),.agg #[f,t,lv,sp,(AQ,n,a5),(AG,E.length,kg),o,z,g8],bs snap,(AX,n,w6)] w λx w'=>
   x=.returned (.tuple #[bs (nG st f t lv sp E qs snap xs).1,((nG st f t lv sp E qs snap xs).2:Int)])/\Below w w w':=by
 obtain⟨ng,m1⟩:=ay E.length;rw[m1] at u8⊢;have d2:=(bi w w).alloc aW (.cells #[f,t,lv,sp,(AQ,n,a5),(AG,ng,kg),o,z,g8] 42);have G:=Bk.new w 42 #[f,t,lv,sp,(AQ,n,a5),(AG,ng,kg),o,z,g8];obtain⟨Ha,i3,i2,n7,a2⟩:=ia (p1.below d2) (a9.below d2) (d8.below d2) (p6.below d2) d2;have l6:=G.lt;obtain⟨X,l3⟩:=ay (w.alloc (.cells #[f,t,lv,sp,(AQ,n,a5),(AG,ng,kg),o,z,g8] 42));rw[l3] at G Ha i3 i2 n7 a2 l6;have n6:=J l3;have p8:yf X w f t lv sp (.slice AQ n a5) (.slice AG ng kg) X:=⟨G.cell 0,G.cell 1,G.cell 2,G.cell 3,G.cell 4,G.cell 5,bi _ _⟩;have d5:=J (λW W' (h:yf X w f t lv sp (.slice AQ n a5) (.slice AG ng kg) W) (hb:Below W.heap.size W W')=>yf.below h l6 hb);have c8:=J G;obtain⟨b5,e1,v8⟩:=Xo n;obtain⟨b6,e2,v9⟩:=Xo (f+1).toNat;obtain⟨c9,k2,w0⟩:=Xo (t-f).toNat;obtain⟨d7,k3,h7⟩:=Xo lv;obtain⟨g7,k4,m7⟩:=Xo sp;obtain⟨j5,k5,w3⟩:=Xo ng;have r6:Hid (b5++b6++c9++d7++g7++j5=bs (zC n f t lv sp ng)):=J (by rw[<-e1,<-e2,<-k2,<-k3,<-k4,<-k5];unfold zC;simp only[Z8,ey]);obtain⟨q8,s0,n1,n2,n3,n8⟩:=fF (λW=>QL (n:Int) O O (S:=b5) e1 W) (λW=>QL (f+1) O O (S:=b6) e2 W) (λW=>QL (t-f) O O (S:=c9) k2 W) (λW=>QL (lv:Int) O O (S:=d7) k3 W) (λW=>QL (sp:Int) O O (S:=g7) k4 W) (λW=>QL (ng:Int) O O (S:=j5) k5 W);have s1:=Q6 (a:=b5.size) (b:=b6.size) O;have s2:=Q6 (a:=b5.size+b6.size) (b:=c9.size) O;have s3:=Q6 (a:=b5.size+b6.size+c9.size) (b:=d7.size) O;have v2:=Q6 (a:=b5.size+b6.size+c9.size+d7.size) (b:=g7.size) O;have v3:=Q6 (a:=b5.size+b6.size+c9.size+d7.size+g7.size) (b:=j5.size) O;have j1:IntKind.i64.wrap (f+1)=f+1:=lP;have j2:IntKind.i64.wrap (t-f)=t-f:=lP;obtain⟨I,h6,c7,c3,n9,i6⟩:=fF p4 m1 q0 b8 r5 c4;have s8:Hid (-1<=f/\f<t/\t<=1099511627776):=J ⟨p3,r7,p5⟩;clear m1 p1 a9 d8 p6 d2 G l3 e1 e2 k2 k3 k4 k5 v8 v9 w0 h7 m7 w3 p4 q0 b8 r5 c4 p3 r7 p5 u6;go_in;go_wp2;rw[n6.o];have v0:=p8.below l6 (bi X X).drew;clear p8 n6
 go_region_held3 (λW=>yf X w f t lv sp (.slice AQ n a5) (.slice AG ng kg) W) (first|with_reducible assumption) (first
  |(go_at_call 41;with_reducible refine(q8.o _).mono ?_;rintro r w1 ⟨rfl,B⟩;have a0:=d5.o _ _ qC B;clear B)
  |(go_at_call 41;with_reducible refine(s0.o _).mono ?_;rintro r w1 ⟨rfl,B⟩;have a0:=d5.o _ _ qC B;clear B)
  |(go_at_call 41;with_reducible refine(n1.o _).mono ?_;rintro r w1 ⟨rfl,B⟩;have a0:=d5.o _ _ qC B;clear B)
  |(go_at_call 41;with_reducible refine(n2.o _).mono ?_;rintro r w1 ⟨rfl,B⟩;have a0:=d5.o _ _ qC B;clear B)
  |(go_at_call 41;with_reducible refine(n3.o _).mono ?_;rintro r w1 ⟨rfl,B⟩;have a0:=d5.o _ _ qC B;clear B)
  |(go_at_call 41;with_reducible refine(n8.o _).mono ?_;rintro r w1 ⟨rfl,B⟩;have a0:=d5.o _ _ qC B;clear B));rw[r6.o];obtain⟨_,_,_,_,_,m7,o7⟩:=a0;have m9:=J o7;clear o7 q8 s0 n1 n2 n3 n8 s1 s2 s3 v2 v3 j1 j2 r6 v0;have i0:=J (Zmx n f t lv sp ng);obtain⟨b3,l9⟩:=ay (zC n f t lv sp ng);rw[l9] at i0⊢;have t1:=J l9;clear l9;go_wp2;go_loopw [10,52] (λf4 j7 wr=>∃k:Nat,k<=ng/\j7=k/\f4=.string (bs (b3++lX f (E.take k)))/\Hid (Below X X wr)) (λ_ j7 _=>(ng-intOf j7).toNat);exact⟨0,cf _,rfl,by rw[po];unfold lX;rw[List.flatMap_nil,fu],m9⟩;obtain⟨k,x3,rfl,rfl,hb⟩:=hrel;by_cases ab:k<ng
 .have h0:k<E:=(by rw[h6.o];exact ab);obtain⟨o2,q6,rfl,_,c0,c1⟩:=Yi (i2.o.below hb.o) k h0;have a4:=Zej f (E.take k) E[k];rw[<-dD h0] at a4;obtain⟨k7,k8,k9⟩:=n9.o _ (dr h0);have F:=z_ f (E.take k);rw[eC] at F;obtain⟨⟨x,y⟩,KX⟩:=ay E[k];rw[KX] at c0 c1 a4 k7 k8 k9;simp only at c0 c1 a4 k7 k8 k9;obtain⟨f1,t8,t9⟩:=s8.o;obtain⟨M,Q,c6⟩:=Xo (x-f-1).toNat;obtain⟨g9,k6,w7⟩:=Xo (y-x).toNat;have a6:=J (λW=>QL (x-f-1) O O (S:=M) Q W);have s9:=J (λW=>QL (y-x) O O (S:=g9) k6 W);have b0:Hid (bs (b3++lX f (E.take k))++(M++g9)=bs (b3++lX f (E.take (k+1)))):=J (by rw[a4,<-Q,<-k6];simp only[Z8,ey]);have d6:(bs (b3++lX f (E.take k))).size<=1000:=by rw[Z0,bT];have:=i0.o;omega
  have t4:=Z0 (b3++lX f (E.take k));generalize bs (b3++lX f (E.take k))=U at*;have s1:=Q6 (a:=M.size) (b:=g9.size) O;have s2:=Q6 (a:=U.size) (b:=M.size+g9.size) O;have x4:IntKind.i64.wrap (x-f)=x-f:=lP;have j1:IntKind.i64.wrap (x-f-1)=x-f-1:=lP;have j2:IntKind.i64.wrap (y-x)=y-x:=lP;have o4:(0:Int)<=k:=O;have o5:(k:Int)<ng:=O;have u4:ng<=9223372036854775807:=O;have o1:=J (hb.o.alloc hb.o.size (.cells #[x,y] 77));have a8:=Bk.new wr 77 #[x,y];have b2:=(c8.o.below hb.o c8.o.lt).alloc (.cells #[x,y] 77);have j4:=a8.lt;have n0:=b2.lt;have o9:yg (wr.alloc (.cells #[x,y] 77)) ⟨w,0,none⟩ ⟨wr,0,none⟩ ⟨wr,1,none⟩ f (.int .i64 x) y (wr.alloc (.cells #[x,y] 77)).drew:=⟨b2.cell 0,a8.cell 0,a8.cell 1,(bi _ _).drew⟩;have q9:=J (λW W' (h:yg (wr.alloc (.cells #[x,y] 77)) ⟨w,0,none⟩ ⟨wr,0,none⟩ ⟨wr,1,none⟩ f (.int .i64 x) y W) (hb:Below W.heap.size W W')=>yg.below h n0 j4 j4 hb);clear a4 KX Q k6 c6 w7 k7 k8 k9 F d6 t4 a8 b2 n0 j4 h0 f1 t8 t9;go_wp2
  go_region_held3 (λW=>yg (wr.alloc (.cells #[x,y] 77)) ⟨w,0,none⟩ ⟨wr,0,none⟩ ⟨wr,1,none⟩ f (.int .i64 x) y W) (first|with_reducible assumption) (first
   |(go_at_call 41;with_reducible refine(a6.o _).mono ?_;rintro r m4 ⟨rfl,B⟩;have a0:=q9.o _ _ qC B;clear B)
   |(go_at_call 41;with_reducible refine(s9.o _).mono ?_;rintro r m4 ⟨rfl,B⟩;have a0:=q9.o _ _ qC B;clear B));obtain⟨_,_,_,b9⟩:=a0;have d1:=J (o1.o.trans (b9.mono o1.o.size));clear b9;rw[b0.o];go_wp2;refine⟨⟨k+1,ab,ck,rfl,d1⟩,?_⟩;simp[intOf]<;>omega
 have t7:k=ng:=O;subst t7;rw[dU (by rw[h6.o];exact aW)];have F:=z_ f E;obtain⟨b4,f8⟩:=ay (b3++lX f E);have r3:Hid (b4.length<=400):=J (by rw[<-f8,bT];have:=i0.o;have:=h6.o;omega);rw[f8];have i1:=J f8;have h7:=(c8.o.below hb.o c8.o.lt).cell 4;simp at h7;have o8:=hb;clear F f8 hb m9 i2 n9 m7;go_wp2;go_loopw [10,76] (λf4 j8 u5=>∃k:Nat,k<=n/\j8=k/\f4=.string (bs (b4++mJ (qs.take k)))/\Hid (Below X X u5)) (λ_ j8 _=>(n-intOf j8).toNat);exact⟨0,cf _,rfl,by rw[po];unfold mJ;rw[List.flatMap_nil,fu],o8⟩;clear h7 o8;obtain⟨j,x2,rfl,rfl,hb⟩:=hrel;by_cases ab:j<n
 .have k1:j<qs:=(by rw[c7.o];exact ab);obtain⟨o2,q6,rfl,_,c0⟩:=zb (i3.o.below hb.o) j k1;have a4:=Zfz (qs.take j) qs[j];rw[<-dD k1] at a4;have F:=S_ (qs.take j);rw[eC] at F;obtain⟨q,a9⟩:=ay qs[j];rw[a9] at c0 a4;obtain⟨M,Q,c6⟩:=Xo q.toNat;have a6:=J (λW=>QL (q.toNat:Int) O (by cases q<;>decide) (S:=M) (by rw[ek];exact Q) W);have b0:Hid (bs (b4++mJ (qs.take j))++M=bs (b4++mJ (qs.take (j+1)))):=J (by rw[a4,<-Q];simp only[Z8,ey]);have d6:(bs (b4++mJ (qs.take j))).size<=2000:=by rw[Z0,bT];have:=r3.o;omega
  generalize bs (b4++mJ (qs.take j))=U at*;have s1:=Q6 (a:=U.size) (b:=M.size) O;have o4:(0:Int)<=j:=O;have o5:(j:Int)<n:=O;clear a4 a9 Q c6 F d6 k1;cases q
  all_goals
   go_wp21;refine gO (a6.o _) hb λm4 d1=>?_;go_wp2;rw[b0.o];refine⟨⟨j+1,ab,ck,rfl,d1⟩,?_⟩;simp[intOf]<;>omega
 have u0:j=n:=O;subst u0;rw[dU (by rw[c7.o];exact aW)];have F:=S_ qs;obtain⟨b1,f9⟩:=ay (b4++mJ qs);have n4:Hid (b1.length<=1000):=J (by rw[<-f9,bT];have:=r3.o;have:=c7.o;omega);rw[f9];have t2:=J f9;obtain⟨M,Q,c6⟩:=Xo snap;have a6:=J (λW=>QL (snap.length:Int) O O (S:=M) (by rw[ek];exact Q) W);have b0:Hid (bs b1++M=bs (b1++bj snap)):=J (by rw[<-Q,Z8]);have h8:Hid ((b1++bj snap).length<=1009):=J (by rw[bT];have:=n4.o;have:=ZG snap;omega);have d6:(bs b1).size<=2000:=by rw[Z0];have:=n4.o;omega
 have h1:=Z0 snap;have s1:=Q6 (a:=(bs b1).size) (b:=M.size) O;generalize bs b1=U at*;obtain⟨w9,g5⟩:=ay (bs snap);rw[g5] at h1;rw[g5];have s6:=J g5;rw[<-h1] at a6;have x1:=J h1;clear F f9 d6 Q c6 g5 h1;go_wp21;refine gO (a6.o _) hb λm4 d1=>?_;clear a6 hb;go_wp2;rw[b0.o];obtain⟨a1,i7⟩:=ay (b1++bj snap);rw[i7] at h8⊢;have t3:=J i7;clear i7 b0;go_loopw [10,16,94] (λf4 v1 j9 m5=>∃k:Nat,k<=j/\j9=k/\f4=.string (bs (a1++oR lv st qs xs k))/\v1=.string (bs (snap++oV lv st qs xs k))/\Hid (Below X X m5)) (λ_ _ j9 _=>(j-intOf j9).toNat);exact⟨0,cf _,rfl,by unfold oR lw;simp,by unfold oV hT;simp[s6.o],d1⟩;clear d1 s1;obtain⟨i,hi,rfl,rfl,rfl,hb⟩:=hrel;by_cases ab:i<j
 .have k0:i<st:=im;have h9:i<qs:=(by rw[c7.o];exact ab);have f7:i<xs:=(by rw[c3.o];exact ab);obtain⟨L1,g6⟩:=Wp (lv:=(lv:Int)) k0 h9 f7;have u7:=Zpw (lv:Int) st qs xs i;have l2:=Mv (lv:=(lv:Int)) (st:=st) (qs:=qs) i6.o (by have:=I.o;have:=c3.o;omega) (by have:=c7.o;have:=c3.o;omega) i O;obtain⟨o2,q6,rfl,x5,r8,r9⟩:=Yi (Ha.o.below hb.o) i k0;obtain⟨b7,d4,rfl,p7,m6⟩:=zb (i3.o.below hb.o) i h9;obtain⟨o3,x7,rfl,l7,c5⟩:=XO (n7.o.below hb.o) i (by rw[dc];exact f7);rw[uL] at c5;have b8:=i6.o _ (dr f7);obtain⟨⟨a,c⟩,aF⟩:=ay st[i];obtain⟨q,a9⟩:=ay qs[i];obtain⟨x,j6⟩:=ay xs[i];rw[aF] at r8 r9;rw[aF,a9,j6] at L1 g6;rw[a9] at m6;rw[j6] at c5 b8;simp only at r8 r9;have o4:(0:Int)<=i:=O;have o5:(i:Int)<j:=O;have s7:=J (λW=>GC a c q (lv:Int) W);obtain⟨M,Q,c6⟩:=Xo x.length;have a6:=J (λW=>QL (x.length:Int) O O (S:=M) (by rw[ek];exact Q) W);have r4:Hid (bs (a1++oR lv st qs xs i)++M=bs (a1++(oR lv st qs xs i++bj x.length))):=J (by rw[<-Q,Z8,ey]);have b0:Hid (bs (snap++oV lv st qs xs i)++bs x=bs (snap++(oV lv st qs xs i++x))):=J (by rw[Z8,ey]);have v4:(bs (a1++oR lv st qs xs i)).size<=2000:=by rw[Z0,bT];have:=h8.o;have:=I.o;omega
  have v5:(bs (snap++oV lv st qs xs i)).size<=8000000:=by rw[Z0,bT];omega
  have m2:=Z0 x;have s1:=Q6 (a:=(bs (a1++oR lv st qs xs i)).size) (b:=M.size) O;have s2:=Q6 (a:=(bs (snap++oV lv st qs xs i)).size) (b:=(bs x).size) O;rw[<-m2] at a6;have a8:=Bk.new wr 68 #[a,c];have b2:=(c8.o.below hb.o c8.o.lt).alloc (.cells #[a,c] 68);have q7:=J (hb.o.alloc hb.o.size (.cells #[a,c] 68));have lg:=a8.lt;have m3:=b2.lt;have d9:=Below.cellAt ((bi wr wr).alloc aW (.cells #[a,c] 68)) p7 m6;have e7:=Below.cellAt ((bi wr wr).alloc aW (.cells #[a,c] 68)) l7 c5;have e8:b7<(wr.alloc (.cells #[a,c] 68)):=eD p7 (by simp);have e9:o3<(wr.alloc (.cells #[a,c] 68)):=eD l7 (by simp);have l0:zQ (wr.alloc (.cells #[a,c] 68)) ⟨wr,0,none⟩ ⟨wr,1,none⟩ ⟨w,4,none⟩ ⟨w,2,none⟩ ⟨b7,d4+i,none⟩ a c (.slice (some (b7,d4)) j a5) lv (.bool q) (wr.alloc (.cells #[a,c] 68)).drew:=⟨a8.cell 0,a8.cell 1,b2.cell 4,b2.cell 2,d9,(bi _ _).drew⟩;have o0:=J (λW W' h hb=>zQ.below (X:=wr.alloc (.cells #[a,c] 68)) (p:=⟨wr,0,none⟩) (q:=⟨wr,1,none⟩) (r:=⟨w,4,none⟩) (u:=⟨w,2,none⟩) (v:=⟨b7,d4+i,none⟩) (x:=.int .i64 a) (y:=.int .i64 c) (z:=.slice (some (b7,d4)) j a5) (a:=.int .i64 (lv:Int)) (b:=.bool q) (W:=W) (W':=W') h lg lg m3 m3 e8 hb);have i4:=J (λW (hb:Below (wr.alloc (.cells #[a,c] 68)) (wr.alloc (.cells #[a,c] 68)) W)=>Below.cellAt hb e9 e7);have i5:Hid (eG (a,c) q (lv:Int)=false->bs (a1++oR lv st qs xs i)=bs (a1++oR lv st qs xs (i+1))/\bs (snap++oV lv st qs xs i)=bs (snap++oV lv st qs xs (i+1))):=J (λh=>by rw[L1,g6,h];simp);have l5:Hid (eG (a,c) q (lv:Int)=true->bs (a1++oR lv st qs xs i)++M=bs (a1++oR lv st qs xs (i+1))/\bs (snap++oV lv st qs xs i)++bs x=bs (snap++oV lv st qs xs (i+1))):=J (λh=>by rw[L1,g6,h,r4.o,b0.o];exact⟨rfl,rfl⟩);generalize bs (a1++oR lv st qs xs i)=U1 at*;generalize bs (snap++oV lv st qs xs i)=U2 at*;have w8:=J m2;generalize bs x=Sx at*;clear r4 b0 L1 g6 u7 l2 m6 c5 aF a9 j6 b8 Q c6 v4 v5 m2 a8 b2 lg m3 d9 e7 e8 e9 k0 h9 f7;go_wp2
  go_region_held3 (λW=>zQ (wr.alloc (.cells #[a,c] 68)) ⟨wr,0,none⟩ ⟨wr,1,none⟩ ⟨w,4,none⟩ ⟨w,2,none⟩ ⟨b7,d4+i,none⟩ a c (.slice (some (b7,d4)) j a5) lv (.bool q) W) (first|with_reducible assumption) (first
   |(go_at_call 50;with_reducible refine(s7.o _).mono ?_;rintro r v6 ⟨rfl,B⟩;have a0:=o0.o _ _ qC B;clear B));obtain⟨_,_,_,_,_,b9⟩:=a0;have h5:=J (q7.o.trans (b9.mono q7.o.size));have c5:=i4.o _ b9;have l8:o3<v6:=eD l7 (cp (by simp) b9.size);clear b9 o0 l0;cases h2:eG (a,c) q (lv:Int);.obtain⟨f5,f6⟩:=i5.o h2;have i9:=J f5;have j3:=J f6;clear f5 f6 h2 i5 l5;go_wp2;refine⟨⟨i+1,ab,ck,by rw[i9.o],by rw[j3.o],h5⟩,?_⟩;simp[intOf]<;>omega
  obtain⟨f5,f6⟩:=l5.o h2;have i9:=J f5;have j3:=J f6;clear f5 f6 h2 i5 l5;go_wp21;refine aO (a6.o _) λx8 B=>?_;have v7:=Below.cellAt B l8 c5;have t6:=J (h5.o.trans (B.mono h5.o.size));clear c5 B h5;go_wp2;refine⟨⟨i+1,ab,ck,by rw[<-i9.o],by rw[<-j3.o],t6⟩,?_⟩;simp[intOf]<;>omega
 have t5:i=j:=O;subst t5;obtain⟨A1,A2⟩:=ZmP (lv:=(lv:Int)) I.o.symm c7.o c3.o;rw[A1,A2];have i8:a1++lw lv st qs (eu lv st qs xs)=YV st f t lv sp E qs snap (eu lv st qs xs):=by rw[ZiX,<-I.o,h6.o,t1.o,i1.o,t2.o,t3.o]
 rw[i8];have F:(YV st f t lv sp E qs snap (eu lv st qs xs)).length<=2000:=by rw[<-i8,bT];have:=Lu (lv:Int) st qs (eu lv st qs xs);have:=h8.o;have:=I.o;omega
 obtain⟨g0,m8⟩:=ay (YV st f t lv sp E qs snap (eu lv st qs xs));obtain⟨R,h4⟩:=ay (snap++hT lv st qs xs);have p0:R.length<=8000000:=by have:=Mv (lv:=(lv:Int)) (st:=st) (qs:=qs) i6.o (by have:=I.o;have:=c3.o;omega) (by have:=c7.o;have:=c3.o;omega) i (by have:=c3.o;omega);rw[A2] at this;rw[<-h4,bT];omega
 have G:Hid (nG st f t lv sp E qs snap xs=match Zp 5 g0 with
  |none=>([],9)
  |some x=>if 16384<2+x.length+R.length then([],9) else(UInt8.ofNat (x.length/256)::UInt8.ofNat x.length::(x++R),0)):=J (by unfold nG;rw[m8,h4];rfl)
 rw[m8] at F⊢;rw[h4];have a3:=λW=>Do 5 aZ g0 O W;unfold rG at a3;rw[show(((5:Nat):Int))=5 from rfl] at a3;have h3:=Z0 R;clear A1 A2 i8 m8 h4 F;generalize bs g0=SH at*;rcases d3:Zp 5 g0 with _|x;rw[d3] at a3 G;rw[show nj none=.tuple #[.string ⟨#[]⟩,(9:Int)] from rfl] at a3;have a7:=J a3;generalize bs R=ST at*;clear a3 h3 d3;exact Pe;rw[d3] at a3 G;rw[show nj (some x)=.tuple #[bs x,(0:Int)] from rfl] at a3;simp only at G;have b8:=L8 d3;have c4:=Z0 x;have g4:(16384:Int)<2+((bs x).size:Int)+((bs R).size:Int)↔16384<2+x.length+R.length:=(by rw[c4,h3];omega);have j1:IntKind.i64.wrap (2+((bs x).size:Int))=2+((bs x).size:Int):=lP;have j2:IntKind.i64.wrap (2+((bs x).size:Int)+((bs R).size:Int))=2+((bs x).size:Int)+((bs R).size:Int):=lP;have a7:=J a3;by_cases d8:(16384:Int)<2+((bs x).size:Int)+((bs R).size:Int);rw[aP (g4.1 d8)] at G;generalize bs R=ST at*;generalize bs x=SX at*;clear a3 h3 d3 c4 b8 g4;exact Pe;rw[az (λh=>d8 (g4.2 h))] at G;have o6:=Zdp (bs x).size O;have n5:Hid (bs (nG st f t lv sp E qs snap xs).1=bs [UInt8.ofNat ((bs x).size/256),UInt8.ofNat (bs x).size]++bs x++bs R/\(nG st f t lv sp E qs snap xs).2=0):=J (by rw[G.o,c4,Z8,Z8];exact⟨by simp only[ju,pX,ey],rfl⟩);have o9:(bs [UInt8.ofNat ((bs x).size/256),UInt8.ofNat (bs x).size]).size=2:=Z0 _;have s1:=Q6 (a:=(bs [UInt8.ofNat ((bs x).size/256),UInt8.ofNat (bs x).size]).size) (b:=(bs x).size) O;have s2:=Q6 (a:=(bs [UInt8.ofNat ((bs x).size/256),UInt8.ofNat (bs x).size]).size+(bs x).size) (b:=(bs R).size) O;generalize bs [UInt8.ofNat ((bs x).size/256),UInt8.ofNat (bs x).size]=S8 at*;generalize bs R=ST at*;generalize bs x=SX at*;clear a3 h3 d3 c4 g4 G o9;go_wp21;refine aO (a7.o _) λl B=>?_;have D:=J (hb.o.trans (B.mono hb.o.size));have p2:=o6 l;clear B hb o6;go_wp2;go_returns;exact⟨by rw[n5.o.1,n5.o.2];rfl,a2.o.trans ((D.o.alloc D.o.size _).mono a2.o.size)⟩
