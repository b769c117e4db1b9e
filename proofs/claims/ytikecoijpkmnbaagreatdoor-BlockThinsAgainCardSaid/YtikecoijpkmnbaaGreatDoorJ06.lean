import Derived.Test.YtikecoijpkmnbaaGreatDoorJ05
import Derived.Deep.DeepCutAuto
set_option linter.all false
set_option maxRecDepth 100000
set_option maxHeartbeats 0
section
variable{P Q:Prop}
theorem mi(h:P:=by assumption):P:=h
theorem eV(h:P:=by rw[kx];omega):P:=h
theorem dz(h:P:=by simp only;omega):P:=h
theorem EV(h:P:=by rw[IntKind.wrap_u32'];omega):P:=h
theorem PQ(h:P:=by rcases rS x.size with t|t;rw[t,Nat.zero_mul] at this;omega;exact t):P:=h
theorem Fx(h:P:=by go_in;go_wp2_with (first|(go_at_call 95;refine(g.o).mono ?_;rintro x w' ⟨rfl,l,k⟩));go_ret;rw[G.o];exact⟨rfl,l,k⟩):P:=h
theorem O0(h:P:=by have e2:((e:Int) !=0)=true:=(by rw[kx];omega);have G:=J B;clear B;go_in;go_wp2;go_ret;rw[G.o];exact⟨rfl,h,Fr.refl _ _⟩):P:=h
theorem OT(h:P:=by apply xc;apply pS.1;simp only[bs,aH,ByteArray.data_extract,Array.toList_extract,List.extract_eq_take_drop,Cc];rw[d' (by rw[iW];exact aU)]):P:=h
end
namespace Go.Proofs.Y
open Tryz Wv Go.RowKit
section
variable{b e:Nat}{s:aT}{w:aq}
theorem Zjl (h:RV w b s e) (k:s.size<=1099511627776):
  cK 138 #[(b,0)] w λx w'=>x=.returned (pk s)/\w=w':=by by_cases l:0<s.size;exact Zf7 h l k;have g:s.size=0:=O;refine(Zjm h g).mono ?_;rintro x w' ⟨rfl,rfl⟩;have:aH s=[]:=ia g;exact⟨DJ (Hp (by rw[this];rfl)).symm,rfl⟩
def bG (s:aT) (e:Nat) (most:Int):Nat×aT×Nat:=
 if e=0 then match gP (aH s) with
  |none=>(0,s,12)
  |some x=>if most<(x.1:Int) then(0,s,2) else(x.1,bs ((aH s).drop x.2),0)
 else(0,s,e)
theorem Z01 (s:aT) (z:Nat):s.extract z s.size=bs ((aH s).drop z):=OT
theorem Gr (s:aT) (z:Nat):s.extract 0 z=bs ((aH s).take z):=by apply xc;apply pS.1;simp[bs,aH]
theorem K3 (n:Int) (w:aq):Calls prog 94 #[n] w λx w'=>x=.returned n/\w=w':=Cl
theorem Zh3 (h:RV w b s e) (Q:s.size<=1099511627776) (most:Int):
  Calls prog 93 #[(b,0),.func (.func 94) #[] #[],(0:Int),most] w λx w'=>x=.returned (((bG s e most).1:Nat):Int)/\RV w' b (bG s e most).2.1 (bG s e most).2.2/\Fr (only b) w w':=by
 have h0:=h.c0;have h1:=h.c1;have f0:=h.f0;have f1:=h.f1;by_cases y:e=0
 .subst y;have k:=Zjl h Q
  have B:bG s 0 most=match gP (aH s) with
   |none=>(0,s,12)
   |some x=>if most<(x.1:Int) then(0,s,2) else(x.1,bs ((aH s).drop x.2),0):=rfl
  match cF:gP (aH s) with
  |none=>rw[Hp cF] at k;rw[cF] at B;obtain⟨l,G,q⟩:=bD k B (QS h 12);clear k B cF;go_in;go_wp2_with (first|(go_at_call 94;refine(K3 _ _).mono ?_;rintro x w' ⟨rfl,rfl⟩)|(go_at_call 138;refine(l.o).mono ?_;rintro x w' ⟨rfl,rfl⟩)|(go_at_call 95;refine(q.o).mono ?_;rintro x w' ⟨rfl,u,t⟩));go_ret;rw[G.o];exact⟨rfl,u,t⟩
  |some (n,z)=>
   have g:=ZqU cF;rw[n_ cF] at k;rw[cF] at B;have S:z<=s.size:=g.2.2.1;have D:=g.1;have R:=g.2.1;have l:=J k;clear k cF g;by_cases E:most<(n:Int);.simp only[Vag E] at B;have G:=J B;have q:=J (QS h 2);have F:¬(n:Int)<0:=O;clear B;go_in;go_wp2_with (first|(go_at_call 94;refine(K3 _ _).mono ?_;rintro x w' ⟨rfl,rfl⟩)|(go_at_call 138;refine(l.o).mono ?_;rintro x w' ⟨rfl,rfl⟩)|(go_at_call 95;refine(q.o).mono ?_;rintro x w' ⟨rfl,u,t⟩));go_ret;rw[G.o];exact⟨rfl,u,t⟩
   simp only[Vae E] at B;have G:=J B;have F:¬(n:Int)<0:=O;have I:=J (Bk.put h 0 (.string (bs ((aH s).drop z))));have M:=Z01 s z;clear B;go_in;go_wp2_with (first|(go_at_call 94;refine(K3 _ _).mono ?_;rintro x w' ⟨rfl,rfl⟩)|(go_at_call 138;refine(l.o).mono ?_;rintro x w' ⟨rfl,rfl⟩));go_ret;rw[G.o];exact⟨rfl,by simpa [RV] using I.o,(Fr.refl (only b) _).setCell (p:=⟨b,0,none⟩) (.inl rfl) _⟩
 have B:bG s e most=(0,s,e):=(by unfold bG;rw[Vae y]);exact O0
theorem Zk (h:RV w b s e) (k:s.size<=1099511627776) (most:Int):
  Calls prog 55 #[(b,0),most] w λx w'=>x=.returned (((bG s e most).1:Nat):Int)/\RV w' b (bG s e most).2.1 (bG s e most).2.2/\Fr (only b) w w':=by have H:=J (Zh3 h k most);generalize bG s e most=r at*;go_in;go_wp21;refine aP H.o λw1 ⟨l,g⟩=>?_;go_wp2;go_ret;exact⟨rfl,l,g⟩
def Zb (s:aT) (e:Nat) (n:Int):aT×aT×Nat:=
 if e=0 then if n<0 then(bs [],s,2) else if(s.size:Int)<n then(bs [],s,12) else(bs ((aH s).take n.toNat),bs ((aH s).drop n.toNat),0)
 else(bs [],s,e)
theorem Zr (h:RV w b s e) (F:s.size<=1099511627776) (n:Int):
  Calls prog 71 #[(b,0),n] w λx w'=>x=.returned (.string (Zb s e n).1)/\RV w' b (Zb s e n).2.1 (Zb s e n).2.2/\Fr (only b) w w':=by
 have h0:=h.c0;have h1:=h.c1;have f0:=h.f0;have f1:=h.f1;by_cases u:e=0;.subst u;have B:Zb s 0 n=if n<0 then(bs [],s,2) else if(s.size:Int)<n then(bs [],s,12) else(bs ((aH s).take n.toNat),bs ((aH s).drop n.toNat),0):=rfl;by_cases q:n<0;rw[Vag q] at B;have G:=J B;have g:=J (QS h 2);clear B;exact Fx;obtain⟨n,rfl⟩:=Int.eq_ofNat_of_zero_le (show 0<=n by omega);rw[Vae q] at B;by_cases t:(s.size:Int)<n;rw[Vag t] at B;have G:=J B;have g:=J (QS h 12);have D:s.size<n:=O;clear B q;exact Fx;rw[Vae t,ep] at B;have G:=J B;have z:=J (Bk.put h 0 (.string (bs ((aH s).drop n))));have E:=Z01 s n;have y:=Gr s n;have D:n<=s.size:=O;clear B q t;go_in;go_wp2;go_ret;rw[G.o];exact⟨rfl,by simpa [RV] using z.o,(Fr.refl (only b) _).setCell (p:=⟨b,0,none⟩) (.inl rfl) _⟩
 have B:Zb s e n=(bs [],s,e):=(by unfold Zb;rw[Vae u]);exact O0
end
variable{b p:Nat}{w w':aq}
def dD (w:aq) (b:Nat) (d:De):Prop:=Bk w b 312 #[bs d.rest,.int .u32 (d.code:Int),.int .u32 (d.size:Int),d.miss,d.full]
theorem dD.drewN {d:De} (h:dD w b d) (n:Nat):dD (w.drewN n) b d:=h
theorem dD.drew {d:De} (h:dD w b d):dD w.drew b d:=h
theorem dD.fr {S:Nat->Prop} {d:De} (h:dD w b d) (k:Fr S w w') (g:¬S b):dD w' b d:=Bk.fr h k g
theorem dD.below {d:De} (h:dD w b d) (hb:Below w w w'):dD w' b d:=Bk.below h hb (Bk.lt h)
theorem dD.put0 {d:De} (h:dD w b d) (x:ax):dD (w.setCell (b,0) (.string (bs x))) b { d with rest:=x } :=by simpa [dD] using Bk.put h 0 (.string (bs x))
theorem dD.put1 {d:De} (h:dD w b d) (x:Nat):dD (w.setCell (b,1) (.int .u32 (x:Int))) b { d with code:=x } :=by simpa [dD] using Bk.put h 1 (.int .u32 (x:Int))
theorem dD.put2 {d:De} (h:dD w b d) (x:Nat):dD (w.setCell (b,2) (.int .u32 (x:Int))) b { d with size:=x } :=by simpa [dD] using Bk.put h 2 (.int .u32 (x:Int))
theorem dD.put3 {d:De} (h:dD w b d) (x:Bool):dD (w.setCell (b,3) (.bool x)) b { d with miss:=x } :=by simpa [dD] using Bk.put h 3 (.bool x)
theorem dD.put4 {d:De} (h:dD w b d) (x:Bool):dD (w.setCell (b,4) (.bool x)) b { d with full:=x } :=by simpa [dD] using Bk.put h 4 (.bool x)
theorem XD (h:Fr (only b) w w') (o:Nat) (x:aI):Fr (only b) w (w'.setCell (b,o) x):=h.setCell (p:=⟨b,o,none⟩) (.inl rfl) x
theorem or32 (n c:Nat) (g:c<256):bits .or .u32 (((n*256 % 4294967296:Nat):Int)) (c:Int)=((n*256 % 4294967296+c:Nat):Int):=by rw[u32_or_nat _ _ O O,nat_join 8 _ _ O O]
theorem ZqN (n:Nat):bits .or .u32 (((n*256 % 4294967296:Nat):Int)) 0=((n*256 % 4294967296:Nat):Int):=by have:=or32 n 0 O;simpa using this
theorem T7 {d:De} (h:dD w b d):
  Calls prog 225 #[(b,0)] w λx w'=>x=.returned (.tuple #[])/\dD w' b (Xt d)/\Fr (only b) w w':=by
 have c0:=Bk.cell h 0;have c1:=Bk.cell h 1;have F:=Bk.cell h 3;have f0:=Bk.frozen h 0;have f1:=Bk.frozen h 1;have Q:=Bk.frozen h 3;simp at c0 c1 F;obtain⟨X,g⟩:=ay (d.code*256 % 4294967296);have i1:(d.code:Int)*256 % 4294967296=(X:Int):=O;match hr:d.rest with
 |[]=>have k:Xt d= { { d with miss:=true } with code:=X } :=(by unfold Xt;rw[hr];simp only[g]);have l:(bs d.rest).size=0:=(by rw[hr];rfl);have G:=HX l;have p:=ZqN d.code;rw[g] at p;generalize bs d.rest=s at*;have H:=J h;have q:=J k;clear h k l hr g;go_in;go_wp2;go_end0;rw[q.o];exact⟨rfl,(H.o.put3 true).put1 X,XD (XD (Fr.refl _ _) 3 _) 1 _⟩
 |c::t=>
  have k:Xt d= { { d with rest:=t } with code:=X+c.toNat } :=(by unfold Xt;rw[hr];simp only[g]);have l:0<(bs d.rest).size:=(by rw[hr,Z0];simp);have G:=HW l;have p:=or32 d.code c.toNat (iq c);rw[g] at p;have u:=Z01 (bs d.rest) 1;rw[Zm,hr,List.drop_one,List.tail_cons,<-hr] at u;have D:∀E:0<(bs d.rest).size,((bs d.rest)[0]'E).toNat=c.toNat:=by rw[hr];intro E;rfl
  generalize bs d.rest=s at*;have I:=D l;obtain⟨y,z⟩:=ay c.toNat;rw[z] at I p k;have M:y<256:=(by rw[<-z];exact iq c);have H:=J h;have q:=J k;clear h k hr g D z;go_in;go_wp2;go_region;go_wp2;go_end0;rw[q.o];exact⟨rfl,by have B:=((H.o.put0 t).put1 (X+y)).drew;rw[xb] at B;exact B,(XD (XD (Fr.refl _ _) 0 _) 1 _).drew⟩
def DV (k:Nat) (d:De):Prop:=B6 k d.size/\d.code<4294967296
theorem MD {d:De} (h:DV 0 d):16777216<=d.size/\d.size<4294967296:=by have:=h.1;unfold B6 at this;omega
theorem WX {d:De} (h:DV 0 d) (g:1<=p) (k:p<=2047):DV 2 (ub p d):=by obtain⟨h1,t⟩:=MD h;obtain⟨b1,q⟩:=CX d.size p h1 g k;have l:=h.2;unfold ub;generalize d.size/2048*p=B at*;split;exact⟨⟨by show _<=B*_;omega,by show B<_;omega⟩,l⟩;exact⟨⟨by show _<=(d.size-B)*_;omega,by show d.size-B<_;omega⟩,by show d.code-B<_;omega⟩
theorem yZ {d:De} :(Xt d).size=d.size/\(Xt d).code<4294967296:=by unfold Xt;split;exact⟨rfl,by show d.code*256 % 4294967296<_;omega⟩;rename_i c t _;refine⟨rfl,?_⟩;have:=iq c;show d.code*256 % 4294967296+c.toNat<_;omega
theorem Vb {k:Nat} {d:De} (h:DV (k+1) d) (g:d.size<16777216):DV k (Z0M d):=by refine⟨⟨?_,?_⟩,yZ.2⟩;have:=h.1.1;rw[rn,<-Cb] at this;show _<=d.size*256*256 ^ k;rw[Nat.mul_right_comm];exact this;show d.size*256<_;omega
theorem Zm3 (k:Nat):∀ {d:De},DV k d->DV 0 (ta k d):=by
 induction k with
 |zero=>intro d h;exact h
 |succ k ih=>intro d h;rw[ta];split;exact ih (Vb h mi);exact⟨⟨fj,h.1.2⟩,h.2⟩
theorem Dz {d:De} (h:DV 0 d) (g:1<=p) (k:p<=2047):DV 0 (qe p d):=Zm3 2 (WX h g k)
def DZ (b:Nat) (w:aq):Nat:=match w.cell? ⟨b,2,none⟩ with
 |some (.int _ n)=>(16777216-n).toNat
 |_=>0
theorem WY {d:De} (h:dD w b d):DZ b w=(16777216-(d.size:Int)).toNat:=by have:=Bk.cell h 2;simp at this;unfold DZ;rw[this]
theorem KE {w : aq} {b : Nat} {d : De} (h : dD w b d) (G : DV 0 d) (p : Nat) (a5 : 1 <= p) (a6 : p <= 2047) :
    Calls prog 226 #[(b,0),p] w λx w'=>x=.returned ((iP p d:Nat):Int)/\dD w' b (qe p d)/\Fr (only b) w w':=by
  obtain⟨d1,e1⟩:=MD G;obtain⟨b1,c3⟩:=CX d.size p d1 a5 a6;have d4:=G.2;have b5:=WX G a5 a6;obtain⟨B,q⟩:=ay (d.size/2048*p);have c1:=Bk.cell h 1;have c2:=Bk.cell h 2;have f1:=Bk.frozen h 1;have c6:=Bk.frozen h 2;simp at c1 c2;have c8:=J (Tm (p:Int) O O);rw[q] at b1 c3;have u:ub p d=if d.code<B then { d with size:=B } else { d with code:=d.code-B,size:=d.size-B } :=by unfold ub;rw[q]
  have a1:iP p d=if d.code<B then 0 else 1:=by unfold iP;rw[q]
  have H:=J h;have i0:IntKind.u32.wrap ((d.size:Int)/2048*(p:Int))=(B:Int):=by have:(d.size:Int)/2048*(p:Int)=B:=(by rw[<-q,vJ,Int.natCast_ediv];rfl);rw[this,IntWalk.u32_in _ O]
  obtain⟨b6,a3,a2⟩:=bD b5 u a1;clear h q b5 G u a1;go_in;go_wp2;go_quiet ((go_at_call 197;exact dq1 (c8.o _)));clear i0;go_upto_if 20 with fail;go_cut [6] (λc9 wx=>c9=.int .i64 (iP p d:Nat)/\dD wx b (ub p d)/\Fr (only b) w wx)
  case first=>
    by_cases F:d.code<B;. have g:=a3.o;have l:=a2.o;rw[Vag F] at g l;have g:=J g;have l:=J l;have c5:(d.code:Int)<B:=O;clear F;go_wp2;go_meet;rw[g.o,l.o];exact⟨rfl,((H.o).drewN nq).put2 B,XD ((Fr.refl _ _).drewN nq) 2 _⟩
    have g:=a3.o;have l:=a2.o;rw[Vae F] at g l;have c5:¬(d.code:Int)<B:=O;obtain⟨C,a7⟩:=ay (d.code-B);obtain⟨S,a8⟩:=ay (d.size-B);rw[a7,a8] at g;have i1:IntKind.u32.wrap ((d.code:Int)-B)=(C:Int):=EV;have d7:IntKind.u32.wrap ((d.size:Int)-B)=(S:Int):=EV;have g:=J g;have l:=J l;clear F a7 a8;go_wp2;go_region
    all_goals
      go_wp2;go_meet;rw[g.o,l.o];exact⟨rfl,((((H.o).drewN nq).put1 C).put2 S).drew,(XD (XD ((Fr.refl _ _).drewN nq) 1 _) 2 _).drew⟩
  obtain⟨rfl,a9,y⟩:=hcut;clear c1 c2 f1 c6;go_wp2;go_loopw [] (λwr=>∃(k:Nat) (x:De),dD wr b x/\DV k x/\k<=2/\Hid (ta k x=qe p d)/\Fr (only b) w wr) (λwr=>DZ b wr);exact⟨2,_,a9,b6.o,aU,J rfl,y⟩;clear a9 y;obtain⟨k,x,z,D,d6,b0,y⟩:=hrel;have q2:=Bk.cell z 2;simp at q2;have d5:=D.1.2;by_cases ab:x.size<16777216
  . obtain ⟨j, rfl⟩ : ∃ j, k = j + 1 := by rcases rS k with t|t;subst t;have:=MD D;omega;exact⟨k-1,O⟩
    have a4:=Vb D ab;have E:ta (j+1) x=ta j (Z0M x):=(by rw[ta,Vag ab]);have c4:(x.size:Int)<16777216:=O;have d3:0<x.size:=by have:=D.1.1;exact PQ
    obtain⟨R,M⟩:=ay (x.size*256);have d8:(x.size:Int)*256=(R:Int):=O;have Hd:=J (T7 z);have b3:Z0M x= { Xt x with size:=R } :=(by unfold Z0M;rw[M]);have a0:(Xt x).size=x.size:=yZ.1;obtain⟨Q,c7,d2,b7,b8⟩:=ii E a4 b3 M z;clear a4 E D z ab M b3;go_wp21;refine aP Hd.o λw1 ⟨I,b9⟩=>?_;have b4:=Bk.cell I 2;have d9:=Bk.frozen I 2;simp at b4;rw[a0] at b4;clear a0 q2;go_wp2;go_roundw;refine⟨j,Z0M x,?_,c7.o,O,J (by rw[<-Q.o,b0.o]),XD (y.trans b9) 2 _⟩;rw[d2.o];exact I.put2 R;show DZ b _<DZ b _;rw[WY (I.put2 R),WY b8.o];have:=b7.o;exact dz
  have E : ta k x = x := by cases k with
    |zero=>rfl
    |succ k=>rw[ta,Vae ab]
  have Q:=J E;have c4:¬(x.size:Int)<16777216:=O;clear ab E;go_wp2;go_ret;refine⟨rfl,?_,y⟩;rw[<-b0.o,Q.o];exact z
