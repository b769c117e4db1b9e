import Derived.Test.YtnjkjoklnephcaaGreatDoorF05
import Derived.Deep.DeepCutAuto
set_option linter.all false
set_option maxRecDepth 100000
set_option maxHeartbeats 0
section
variable{P Q:Prop}
theorem mi(h:P:=by assumption):P:=h
theorem eV(h:P:=by rw[kx];omega):P:=h
theorem dz(h:P:=by simp only;omega):P:=h
theorem EV(h:P:=by rw[IntKind.wrap_u32'];omega):P:=h
theorem PQ(h:P:=by rcases rS x.size with t|t;rw[t,Nat.zero_mul] at this;omega;exact t):P:=h
theorem O3(h:P:=by go_in;go_wp2_with (first|(go_at_call 129;refine(g.o).mono ?_;rintro x w' ⟨rfl,l,k⟩));go_ret;rw[G.o];exact⟨rfl,l,k⟩):P:=h
theorem O0(h:P:=by have e2:((e:Int) !=0)=true:=(by rw[kx];omega);have G:=J B;clear B;go_in;go_wp2;go_ret;rw[G.o];exact⟨rfl,h,Fr.refl _ _⟩):P:=h
theorem OT(h:P:=by apply xc;apply pS.1;simp only[bs,aH,ByteArray.data_extract,Array.toList_extract,List.extract_eq_take_drop,Cc];rw[d' (by rw[iW];exact aU)]):P:=h
end
namespace Go.Proofs.Y
open Tryz Wv Go.RowKit
section
variable{b e:Nat}{s:aT}{w:aq}
theorem Zjl (h:RV w b s e) (g:s.size<=1099511627776):
  cK 169 #[(b,0)] w λx w'=>x=.returned (pk s)/\w=w':=by by_cases j:0<s.size;exact Zf7 h j g;have d:s.size=0:=O;refine(Zjm h d).mono ?_;rintro x w' ⟨rfl,rfl⟩;have:aH s=[]:=ia d;exact⟨DJ (Hp (by rw[this];rfl)).symm,rfl⟩
def bG (s:aT) (e:Nat) (most:Int):Nat×aT×Nat:=
 if e=0 then match gP (aH s) with
  |none=>(0,s,12)
  |some x=>if most<(x.1:Int) then(0,s,2) else(x.1,bs ((aH s).drop x.2),0)
 else(0,s,e)
theorem AM (s:aT) (z:Nat):s.extract z s.size=bs ((aH s).drop z):=OT
theorem Gr (s:aT) (z:Nat):s.extract 0 z=bs ((aH s).take z):=by apply xc;apply pS.1;simp[bs,aH]
theorem K3 (n:Int) (w:aq):Calls prog 128 #[n] w λx w'=>x=.returned n/\w=w':=Cl
theorem Zh3 (h:RV w b s e) (I:s.size<=1099511627776) (most:Int):
  Calls prog 127 #[(b,0),.func (.func 128) #[] #[],(0:Int),most] w λx w'=>x=.returned (((bG s e most).1:Nat):Int)/\RV w' b (bG s e most).2.1 (bG s e most).2.2/\Fr (only b) w w':=by
 have h0:=h.c0;have h1:=h.c1;have f0:=h.f0;have f1:=h.f1;by_cases t:e=0
 .subst t;have g:=Zjl h I
  have B:bG s 0 most=match gP (aH s) with
   |none=>(0,s,12)
   |some x=>if most<(x.1:Int) then(0,s,2) else(x.1,bs ((aH s).drop x.2),0):=rfl
  match cF:gP (aH s) with
  |none=>rw[Hp cF] at g;rw[cF] at B;obtain⟨j,G,k⟩:=bD g B (QS h 12);clear g B cF;go_in;go_wp2_with (first|(go_at_call 128;refine(K3 _ _).mono ?_;rintro x w' ⟨rfl,rfl⟩)|(go_at_call 169;refine(j.o).mono ?_;rintro x w' ⟨rfl,rfl⟩)|(go_at_call 129;refine(k.o).mono ?_;rintro x w' ⟨rfl,q,l⟩));go_ret;rw[G.o];exact⟨rfl,q,l⟩
  |some (n,z)=>
   have d:=ZqU cF;rw[n_ cF] at g;rw[cF] at B;have M:z<=s.size:=d.2.2.1;have u:=d.1;have L:=d.2.1;have j:=J g;clear g cF d;by_cases y:most<(n:Int);.simp only[Vag y] at B;have G:=J B;have k:=J (QS h 2);have D:¬(n:Int)<0:=O;clear B;go_in;go_wp2_with (first|(go_at_call 128;refine(K3 _ _).mono ?_;rintro x w' ⟨rfl,rfl⟩)|(go_at_call 169;refine(j.o).mono ?_;rintro x w' ⟨rfl,rfl⟩)|(go_at_call 129;refine(k.o).mono ?_;rintro x w' ⟨rfl,q,l⟩));go_ret;rw[G.o];exact⟨rfl,q,l⟩
   simp only[aD y] at B;have G:=J B;have D:¬(n:Int)<0:=O;have E:=J (Bk.put h 0 (.string (bs ((aH s).drop z))));have F:=AM s z;clear B;go_in;go_wp2_with (first|(go_at_call 128;refine(K3 _ _).mono ?_;rintro x w' ⟨rfl,rfl⟩)|(go_at_call 169;refine(j.o).mono ?_;rintro x w' ⟨rfl,rfl⟩));go_ret;rw[G.o];exact⟨rfl,by simpa [RV] using E.o,(Fr.refl (only b) _).setCell (p:=⟨b,0,none⟩) (.inl rfl) _⟩
 have B:bG s e most=(0,s,e):=(by unfold bG;rw[aD t]);exact O0
theorem Zk (h:RV w b s e) (j:s.size<=1099511627776) (most:Int):
  Calls prog 81 #[(b,0),most] w λx w'=>x=.returned (((bG s e most).1:Nat):Int)/\RV w' b (bG s e most).2.1 (bG s e most).2.2/\Fr (only b) w w':=by have d:=J (Zh3 h j most);generalize bG s e most=r at*;go_in;go_wp21;refine aP d.o λw1 ⟨k,g⟩=>?_;go_wp2;go_ret;exact⟨rfl,k,g⟩
def Zb (s:aT) (e:Nat) (n:Int):aT×aT×Nat:=
 if e=0 then if n<0 then(bs [],s,2) else if(s.size:Int)<n then(bs [],s,12) else(bs ((aH s).take n.toNat),bs ((aH s).drop n.toNat),0)
 else(bs [],s,e)
theorem Zr (h:RV w b s e) (D:s.size<=1099511627776) (n:Int):
  Calls prog 96 #[(b,0),n] w λx w'=>x=.returned (.string (Zb s e n).1)/\RV w' b (Zb s e n).2.1 (Zb s e n).2.2/\Fr (only b) w w':=by
 have h0:=h.c0;have h1:=h.c1;have f0:=h.f0;have f1:=h.f1;by_cases q:e=0;.subst q;have B:Zb s 0 n=if n<0 then(bs [],s,2) else if(s.size:Int)<n then(bs [],s,12) else(bs ((aH s).take n.toNat),bs ((aH s).drop n.toNat),0):=rfl;by_cases d:n<0;rw[Vag d] at B;have G:=J B;have g:=J (QS h 2);clear B;exact O3;obtain⟨n,rfl⟩:=Int.eq_ofNat_of_zero_le (show 0<=n by omega);rw[aD d] at B;by_cases j:(s.size:Int)<n;rw[Vag j] at B;have G:=J B;have g:=J (QS h 12);have y:s.size<n:=O;clear B d;exact O3;rw[aD j,ep] at B;have G:=J B;have u:=J (Bk.put h 0 (.string (bs ((aH s).drop n))));have z:=AM s n;have t:=Gr s n;have y:n<=s.size:=O;clear B d j;go_in;go_wp2;go_ret;rw[G.o];exact⟨rfl,by simpa [RV] using u.o,(Fr.refl (only b) _).setCell (p:=⟨b,0,none⟩) (.inl rfl) _⟩
 have B:Zb s e n=(bs [],s,e):=(by unfold Zb;rw[aD q]);exact O0
end
variable{b p:Nat}{w w':aq}
def dD (w:aq) (b:Nat) (d:De):Prop:=Bk w b 325 #[bs d.rest,.int .u32 (d.code:Int),.int .u32 (d.size:Int),d.miss,d.full]
theorem dD.drewN {d:De} (h:dD w b d) (n:Nat):dD (w.drewN n) b d:=h
theorem dD.drew {d:De} (h:dD w b d):dD w.drew b d:=h
theorem dD.fr {S:Nat->Prop} {d:De} (h:dD w b d) (j:Fr S w w') (g:¬S b):dD w' b d:=Bk.fr h j g
theorem dD.below {d:De} (h:dD w b d) (hb:Below w w w'):dD w' b d:=Bk.below h hb (Bk.lt h)
theorem dD.put0 {d:De} (h:dD w b d) (x:ax):dD (w.setCell (b,0) (.string (bs x))) b { d with rest:=x } :=by simpa [dD] using Bk.put h 0 (.string (bs x))
theorem dD.put1 {d:De} (h:dD w b d) (x:Nat):dD (w.setCell (b,1) (.int .u32 (x:Int))) b { d with code:=x } :=by simpa [dD] using Bk.put h 1 (.int .u32 (x:Int))
theorem dD.put2 {d:De} (h:dD w b d) (x:Nat):dD (w.setCell (b,2) (.int .u32 (x:Int))) b { d with size:=x } :=by simpa [dD] using Bk.put h 2 (.int .u32 (x:Int))
theorem dD.put3 {d:De} (h:dD w b d) (x:Bool):dD (w.setCell (b,3) (.bool x)) b { d with miss:=x } :=by simpa [dD] using Bk.put h 3 (.bool x)
theorem dD.put4 {d:De} (h:dD w b d) (x:Bool):dD (w.setCell (b,4) (.bool x)) b { d with full:=x } :=by simpa [dD] using Bk.put h 4 (.bool x)
theorem XD (h:Fr (only b) w w') (o:Nat) (x:aI):Fr (only b) w (w'.setCell (b,o) x):=h.setCell (p:=⟨b,o,none⟩) (.inl rfl) x
theorem or32 (n c:Nat) (d:c<256):bits .or .u32 (((n*256 % 4294967296:Nat):Int)) (c:Int)=((n*256 % 4294967296+c:Nat):Int):=by rw[u32_or_nat _ _ O O,nat_join 8 _ _ O O]
theorem ZqN (n:Nat):bits .or .u32 (((n*256 % 4294967296:Nat):Int)) 0=((n*256 % 4294967296:Nat):Int):=by have:=or32 n 0 O;simpa using this
theorem T7 {d:De} (h:dD w b d):
  Calls prog 245 #[(b,0)] w λx w'=>x=.returned (.tuple #[])/\dD w' b (Xt d)/\Fr (only b) w w':=by
 have c0:=Bk.cell h 0;have c1:=Bk.cell h 1;have F:=Bk.cell h 3;have f0:=Bk.frozen h 0;have f1:=Bk.frozen h 1;have M:=Bk.frozen h 3;simp at c0 c1 F;obtain⟨X,j⟩:=ay (d.code*256 % 4294967296);have i1:(d.code:Int)*256 % 4294967296=(X:Int):=O;match hr:d.rest with
 |[]=>have k:Xt d= { { d with miss:=true } with code:=X } :=(by unfold Xt;rw[hr];simp only[j]);have l:(bs d.rest).size=0:=(by rw[hr];rfl);have G:=HX l;have p:=ZqN d.code;rw[j] at p;generalize bs d.rest=s at*;have g:=J h;have q:=J k;clear h k l hr j;go_in;go_wp2;go_end0;rw[q.o];exact⟨rfl,(g.o.put3 true).put1 X,XD (XD (Fr.refl _ _) 3 _) 1 _⟩
 |c::t=>
  have k:Xt d= { { d with rest:=t } with code:=X+c.toNat } :=(by unfold Xt;rw[hr];simp only[j]);have l:0<(bs d.rest).size:=(by rw[hr,Z0];simp);have G:=HW l;have p:=or32 d.code c.toNat (iq c);rw[j] at p;have u:=AM (bs d.rest) 1;rw[Zm,hr,List.drop_one,List.tail_cons,<-hr] at u;have D:∀E:0<(bs d.rest).size,((bs d.rest)[0]'E).toNat=c.toNat:=by rw[hr];intro E;rfl
  generalize bs d.rest=s at*;have I:=D l;obtain⟨y,z⟩:=ay c.toNat;rw[z] at I p k;have L:y<256:=(by rw[<-z];exact iq c);have g:=J h;have q:=J k;clear h k hr j D z;go_in;go_wp2;go_region;go_wp2;go_end0;rw[q.o];exact⟨rfl,by have B:=((g.o.put0 t).put1 (X+y)).drew;rw[xb] at B;exact B,(XD (XD (Fr.refl _ _) 0 _) 1 _).drew⟩
def DV (k:Nat) (d:De):Prop:=B6 k d.size/\d.code<4294967296
theorem MD {d:De} (h:DV 0 d):16777216<=d.size/\d.size<4294967296:=by have:=h.1;unfold B6 at this;omega
theorem WX {d:De} (h:DV 0 d) (g:1<=p) (j:p<=2047):DV 2 (ub p d):=by obtain⟨h1,q⟩:=MD h;obtain⟨b1,l⟩:=CX d.size p h1 g j;have k:=h.2;unfold ub;generalize d.size/2048*p=B at*;split;exact⟨⟨by show _<=B*_;omega,by show B<_;omega⟩,k⟩;exact⟨⟨by show _<=(d.size-B)*_;omega,by show d.size-B<_;omega⟩,by show d.code-B<_;omega⟩
theorem yZ {d:De} :(Xt d).size=d.size/\(Xt d).code<4294967296:=by unfold Xt;split;exact⟨rfl,by show d.code*256 % 4294967296<_;omega⟩;rename_i c t _;refine⟨rfl,?_⟩;have:=iq c;show d.code*256 % 4294967296+c.toNat<_;omega
theorem Vb {k:Nat} {d:De} (h:DV (k+1) d) (g:d.size<16777216):DV k (we d):=by refine⟨⟨?_,?_⟩,yZ.2⟩;have:=h.1.1;rw[rn,<-Cb] at this;show _<=d.size*256*256 ^ k;rw[Nat.mul_right_comm];exact this;show d.size*256<_;omega
theorem Zm3 (k:Nat):∀ {d:De},DV k d->DV 0 (ta k d):=by
 induction k with
 |zero=>intro d h;exact h
 |succ k ih=>intro d h;rw[ta];split;exact ih (Vb h mi);exact⟨⟨fj,h.1.2⟩,h.2⟩
theorem Dz {d:De} (h:DV 0 d) (g:1<=p) (j:p<=2047):DV 0 (qe p d):=Zm3 2 (WX h g j)
def DZ (b:Nat) (w:aq):Nat:=match w.cell? ⟨b,2,none⟩ with
 |some (.int _ n)=>(16777216-n).toNat
 |_=>0
theorem WY {d:De} (h:dD w b d):DZ b w=(16777216-(d.size:Int)).toNat:=by have:=Bk.cell h 2;simp at this;unfold DZ;rw[this]
theorem KE {w : aq} {b : Nat} {d : De} (h : dD w b d) (I : DV 0 d) (p : Nat) (a5 : 1 <= p) (a6 : p <= 2047) :
    Calls prog 246 #[(b,0),p] w λx w'=>x=.returned ((iP p d:Nat):Int)/\dD w' b (qe p d)/\Fr (only b) w w':=by
  obtain⟨d1,e1⟩:=MD I;obtain⟨b1,c3⟩:=CX d.size p d1 a5 a6;have d4:=I.2;have b5:=WX I a5 a6;obtain⟨B,u⟩:=ay (d.size/2048*p);have c1:=Bk.cell h 1;have c2:=Bk.cell h 2;have f1:=Bk.frozen h 1;have c6:=Bk.frozen h 2;simp at c1 c2;have c8:=J (Tm (p:Int) O O);rw[u] at b1 c3;have y:ub p d=if d.code<B then { d with size:=B } else { d with code:=d.code-B,size:=d.size-B } :=by unfold ub;rw[u]
  have a1:iP p d=if d.code<B then 0 else 1:=by unfold iP;rw[u]
  have g:=J h;have i0:IntKind.u32.wrap ((d.size:Int)/2048*(p:Int))=(B:Int):=by have:(d.size:Int)/2048*(p:Int)=B:=(by rw[<-u,vJ,Int.natCast_ediv];rfl);rw[this,IntWalk.u32_in _ O]
  obtain⟨b6,a3,a2⟩:=bD b5 y a1;clear h u b5 I y a1;go_in;go_wp2;go_quiet ((go_at_call 208;exact zv (c8.o _)));clear i0;go_upto_if 20 with fail;go_cut [6] (λc9 wx=>c9=.int .i64 (iP p d:Nat)/\dD wx b (ub p d)/\Fr (only b) w wx)
  case first=>
    by_cases G:d.code<B;. have l:=a3.o;have q:=a2.o;rw[Vag G] at l q;have l:=J l;have q:=J q;have c5:(d.code:Int)<B:=O;clear G;go_wp2;go_meet;rw[l.o,q.o];exact⟨rfl,((g.o).drewN nq).put2 B,XD ((Fr.refl _ _).drewN nq) 2 _⟩
    have l:=a3.o;have q:=a2.o;rw[aD G] at l q;have c5:¬(d.code:Int)<B:=O;obtain⟨C,a7⟩:=ay (d.code-B);obtain⟨S,a8⟩:=ay (d.size-B);rw[a7,a8] at l;have i1:IntKind.u32.wrap ((d.code:Int)-B)=(C:Int):=EV;have d7:IntKind.u32.wrap ((d.size:Int)-B)=(S:Int):=EV;have l:=J l;have q:=J q;clear G a7 a8;go_wp2;go_region
    all_goals
      go_wp2;go_meet;rw[l.o,q.o];exact⟨rfl,((((g.o).drewN nq).put1 C).put2 S).drew,(XD (XD ((Fr.refl _ _).drewN nq) 1 _) 2 _).drew⟩
  obtain⟨rfl,a9,z⟩:=hcut;clear c1 c2 f1 c6;go_wp2;go_loopw [] (λwr=>∃(k:Nat) (x:De),dD wr b x/\DV k x/\k<=2/\Hid (ta k x=qe p d)/\Fr (only b) w wr) (λwr=>DZ b wr);exact⟨2,_,a9,b6.o,aU,J rfl,z⟩;clear a9 z;obtain⟨k,x,D,E,d6,b0,z⟩:=hrel;have q2:=Bk.cell D 2;simp at q2;have d5:=E.1.2;by_cases ab:x.size<16777216
  . obtain ⟨j, rfl⟩ : ∃ j, k = j + 1 := by rcases rS k with t|t;subst t;have:=MD E;omega;exact⟨k-1,O⟩
    have a4:=Vb E ab;have F:ta (j+1) x=ta j (we x):=(by rw[ta,Vag ab]);have c4:(x.size:Int)<16777216:=O;have d3:0<x.size:=by have:=E.1.1;exact PQ
    obtain⟨R,M⟩:=ay (x.size*256);have d8:(x.size:Int)*256=(R:Int):=O;have Hd:=J (T7 D);have b3:we x= { Xt x with size:=R } :=(by unfold we;rw[M]);have a0:(Xt x).size=x.size:=yZ.1;obtain⟨Q,c7,d2,b7,b8⟩:=ii F a4 b3 M D;clear a4 F E D ab M b3;go_wp21;refine aP Hd.o λw1 ⟨L,b9⟩=>?_;have b4:=Bk.cell L 2;have d9:=Bk.frozen L 2;simp at b4;rw[a0] at b4;clear a0 q2;go_wp2;go_roundw;refine⟨j,we x,?_,c7.o,O,J (by rw[<-Q.o,b0.o]),XD (z.trans b9) 2 _⟩;rw[d2.o];exact L.put2 R;show DZ b _<DZ b _;rw[WY (L.put2 R),WY b8.o];have:=b7.o;exact dz
  have F : ta k x = x := by cases k with
    |zero=>rfl
    |succ k=>rw[ta,aD ab]
  have Q:=J F;have c4:¬(x.size:Int)<16777216:=O;clear ab F;go_wp2;go_ret;refine⟨rfl,?_,z⟩;rw[<-b0.o,Q.o];exact D
