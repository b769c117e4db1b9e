import Derived.Test.YtnjkjoklnephcaaGreatDoorJ05
import Derived.Deep.DeepCutAuto
set_option linter.all false
set_option maxRecDepth 100000
set_option maxHeartbeats 0
section
variable{P Q:Prop}
theorem mp(h:P:=by assumption):P:=h
theorem fb(h:P:=by rw[kx];omega):P:=h
theorem dw(h:P:=by simp only;omega):P:=h
theorem Fa(h:P:=by rw[IntKind.wrap_u32'];omega):P:=h
theorem P3(h:P:=by rcases qB x.size with t|t;rw[t,Nat.zero_mul] at this;omega;exact t):P:=h
theorem Pg(h:P:=by go_in;go_wp2_with (first|(go_at_call 129;refine(g.o).mono ?_;rintro x w' ⟨rfl,l,k⟩));go_ret;rw[F.o];exact⟨rfl,l,k⟩):P:=h
theorem Pb(h:P:=by have e2:((e:Int) !=0)=true:=(by rw[kx];omega);have F:=J B;clear B;go_in;go_wp2;go_ret;rw[F.o];exact⟨rfl,h,Fr.refl _ _⟩):P:=h
theorem O5(h:P:=by apply xc;apply pV.1;simp only[bs,aH,ByteArray.data_extract,Array.toList_extract,List.extract_eq_take_drop,Ci];rw[dU (by rw[jt];exact aW)]):P:=h
end
namespace Go.Proofs.Y
open Tryz Wv Go.RowKit
section
variable{b e:Nat}{s:aS}{w:au}
theorem Zjv (h:RV w b s e) (k:s.size<=1099511627776):
  dt 169 #[(b,0)] w λx w'=>x=.returned (pk s)/\w=w':=by by_cases l:0<s.size;exact Zff h l k;have g:s.size=0:=O;refine(Zjw h g).mono ?_;rintro x w' ⟨rfl,rfl⟩;have:aH s=[]:=gx g;exact⟨DT (G6 (by rw[this];rfl)).symm,rfl⟩
def bK (s:aS) (e:Nat) (most:Int):Nat×aS×Nat:=
 if e=0 then match hG (aH s) with
  |none=>(0,s,12)
  |some x=>if most<(x.1:Int) then(0,s,2) else(x.1,bs ((aH s).drop x.2),0)
 else(0,s,e)
theorem A0 (s:aS) (z:Nat):s.extract z s.size=bs ((aH s).drop z):=O5
theorem K6 (s:aS) (z:Nat):s.extract 0 z=bs ((aH s).take z):=by apply xc;apply pV.1;simp[bs,aH]
theorem KP (n:Int) (w:au):Calls prog 128 #[n] w λx w'=>x=.returned n/\w=w':=Cr
theorem Zha (h:RV w b s e) (Q:s.size<=1099511627776) (most:Int):
  Calls prog 127 #[(b,0),.func (.func 128) #[] #[],(0:Int),most] w λx w'=>x=.returned (((bK s e most).1:Nat):Int)/\RV w' b (bK s e most).2.1 (bK s e most).2.2/\Fr (only b) w w':=by
 have h0:=h.c0;have h1:=h.c1;have f0:=h.f0;have f1:=h.f1;by_cases y:e=0
 .subst y;have k:=Zjv h Q
  have B:bK s 0 most=match hG (aH s) with
   |none=>(0,s,12)
   |some x=>if most<(x.1:Int) then(0,s,2) else(x.1,bs ((aH s).drop x.2),0):=rfl
  match cD:hG (aH s) with
  |none=>rw[G6 cD] at k;rw[cD] at B;obtain⟨l,F,q⟩:=bF k B (QU h 12);clear k B cD;go_in;go_wp2_with (first|(go_at_call 128;refine(KP _ _).mono ?_;rintro x w' ⟨rfl,rfl⟩)|(go_at_call 169;refine(l.o).mono ?_;rintro x w' ⟨rfl,rfl⟩)|(go_at_call 129;refine(q.o).mono ?_;rintro x w' ⟨rfl,u,t⟩));go_ret;rw[F.o];exact⟨rfl,u,t⟩
  |some (n,z)=>
   have g:=Zr3 cD;rw[N_ cD] at k;rw[cD] at B;have S:z<=s.size:=g.2.2.1;have D:=g.1;have R:=g.2.1;have l:=J k;clear k cD g;by_cases E:most<(n:Int);.simp only[aP E] at B;have F:=J B;have q:=J (QU h 2);have G:¬(n:Int)<0:=O;clear B;go_in;go_wp2_with (first|(go_at_call 128;refine(KP _ _).mono ?_;rintro x w' ⟨rfl,rfl⟩)|(go_at_call 169;refine(l.o).mono ?_;rintro x w' ⟨rfl,rfl⟩)|(go_at_call 129;refine(q.o).mono ?_;rintro x w' ⟨rfl,u,t⟩));go_ret;rw[F.o];exact⟨rfl,u,t⟩
   simp only[az E] at B;have F:=J B;have G:¬(n:Int)<0:=O;have I:=J (Bk.put h 0 (.string (bs ((aH s).drop z))));have M:=A0 s z;clear B;go_in;go_wp2_with (first|(go_at_call 128;refine(KP _ _).mono ?_;rintro x w' ⟨rfl,rfl⟩)|(go_at_call 169;refine(l.o).mono ?_;rintro x w' ⟨rfl,rfl⟩));go_ret;rw[F.o];exact⟨rfl,by simpa [RV] using I.o,(Fr.refl (only b) _).setCell (p:=⟨b,0,none⟩) (.inl rfl) _⟩
 have B:bK s e most=(0,s,e):=(by unfold bK;rw[az y]);exact Pb
theorem Zl (h:RV w b s e) (k:s.size<=1099511627776) (most:Int):
  Calls prog 81 #[(b,0),most] w λx w'=>x=.returned (((bK s e most).1:Nat):Int)/\RV w' b (bK s e most).2.1 (bK s e most).2.2/\Fr (only b) w w':=by have H:=J (Zha h k most);generalize bK s e most=r at*;go_in;go_wp21;refine aO H.o λw1 ⟨l,g⟩=>?_;go_wp2;go_ret;exact⟨rfl,l,g⟩
def Zb (s:aS) (e:Nat) (n:Int):aS×aS×Nat:=
 if e=0 then if n<0 then(bs [],s,2) else if(s.size:Int)<n then(bs [],s,12) else(bs ((aH s).take n.toNat),bs ((aH s).drop n.toNat),0)
 else(bs [],s,e)
theorem Zr (h:RV w b s e) (G:s.size<=1099511627776) (n:Int):
  Calls prog 96 #[(b,0),n] w λx w'=>x=.returned (.string (Zb s e n).1)/\RV w' b (Zb s e n).2.1 (Zb s e n).2.2/\Fr (only b) w w':=by
 have h0:=h.c0;have h1:=h.c1;have f0:=h.f0;have f1:=h.f1;by_cases u:e=0;.subst u;have B:Zb s 0 n=if n<0 then(bs [],s,2) else if(s.size:Int)<n then(bs [],s,12) else(bs ((aH s).take n.toNat),bs ((aH s).drop n.toNat),0):=rfl;by_cases q:n<0;rw[aP q] at B;have F:=J B;have g:=J (QU h 2);clear B;exact Pg;obtain⟨n,rfl⟩:=Int.eq_ofNat_of_zero_le (show 0<=n by omega);rw[az q] at B;by_cases t:(s.size:Int)<n;rw[aP t] at B;have F:=J B;have g:=J (QU h 12);have D:s.size<n:=O;clear B q;exact Pg;rw[az t,ek] at B;have F:=J B;have z:=J (Bk.put h 0 (.string (bs ((aH s).drop n))));have E:=A0 s n;have y:=K6 s n;have D:n<=s.size:=O;clear B q t;go_in;go_wp2;go_ret;rw[F.o];exact⟨rfl,by simpa [RV] using z.o,(Fr.refl (only b) _).setCell (p:=⟨b,0,none⟩) (.inl rfl) _⟩
 have B:Zb s e n=(bs [],s,e):=(by unfold Zb;rw[az u]);exact Pb
end
variable{b p:Nat}{w w':au}
def dA (w:au) (b:Nat) (d:De):Prop:=Bk w b 325 #[bs d.rest,.int .u32 (d.code:Int),.int .u32 (d.size:Int),d.miss,d.full]
theorem dA.drewN {d:De} (h:dA w b d) (n:Nat):dA (w.drewN n) b d:=h
theorem dA.drew {d:De} (h:dA w b d):dA w.drew b d:=h
theorem dA.fr {S:Nat->Prop} {d:De} (h:dA w b d) (k:Fr S w w') (g:¬S b):dA w' b d:=Bk.fr h k g
theorem dA.below {d:De} (h:dA w b d) (hb:Below w w w'):dA w' b d:=Bk.below h hb (Bk.lt h)
theorem dA.put0 {d:De} (h:dA w b d) (x:ax):dA (w.setCell (b,0) (.string (bs x))) b { d with rest:=x } :=by simpa [dA] using Bk.put h 0 (.string (bs x))
theorem dA.put1 {d:De} (h:dA w b d) (x:Nat):dA (w.setCell (b,1) (.int .u32 (x:Int))) b { d with code:=x } :=by simpa [dA] using Bk.put h 1 (.int .u32 (x:Int))
theorem dA.put2 {d:De} (h:dA w b d) (x:Nat):dA (w.setCell (b,2) (.int .u32 (x:Int))) b { d with size:=x } :=by simpa [dA] using Bk.put h 2 (.int .u32 (x:Int))
theorem dA.put3 {d:De} (h:dA w b d) (x:Bool):dA (w.setCell (b,3) (.bool x)) b { d with miss:=x } :=by simpa [dA] using Bk.put h 3 (.bool x)
theorem dA.put4 {d:De} (h:dA w b d) (x:Bool):dA (w.setCell (b,4) (.bool x)) b { d with full:=x } :=by simpa [dA] using Bk.put h 4 (.bool x)
theorem XH (h:Fr (only b) w w') (o:Nat) (x:aJ):Fr (only b) w (w'.setCell (b,o) x):=h.setCell (p:=⟨b,o,none⟩) (.inl rfl) x
theorem or32 (n c:Nat) (g:c<256):bits .or .u32 (((n*256 % 4294967296:Nat):Int)) (c:Int)=((n*256 % 4294967296+c:Nat):Int):=by rw[u32_or_nat _ _ O O,nat_join 8 _ _ O O]
theorem ZqW (n:Nat):bits .or .u32 (((n*256 % 4294967296:Nat):Int)) 0=((n*256 % 4294967296:Nat):Int):=by have:=or32 n 0 O;simpa using this
theorem TN {d:De} (h:dA w b d):
  Calls prog 245 #[(b,0)] w λx w'=>x=.returned (.tuple #[])/\dA w' b (Xx d)/\Fr (only b) w w':=by
 have c0:=Bk.cell h 0;have c1:=Bk.cell h 1;have F:=Bk.cell h 3;have f0:=Bk.frozen h 0;have f1:=Bk.frozen h 1;have Q:=Bk.frozen h 3;simp at c0 c1 F;obtain⟨X,g⟩:=ay (d.code*256 % 4294967296);have i1:(d.code:Int)*256 % 4294967296=(X:Int):=O;match hr:d.rest with
 |[]=>have k:Xx d= { { d with miss:=true } with code:=X } :=(by unfold Xx;rw[hr];simp only[g]);have l:(bs d.rest).size=0:=(by rw[hr];rfl);have G:=H7 l;have p:=ZqW d.code;rw[g] at p;generalize bs d.rest=s at*;have H:=J h;have q:=J k;clear h k l hr g;go_in;go_wp2;go_end0;rw[q.o];exact⟨rfl,(H.o.put3 true).put1 X,XH (XH (Fr.refl _ _) 3 _) 1 _⟩
 |c::t=>
  have k:Xx d= { { d with rest:=t } with code:=X+c.toNat } :=(by unfold Xx;rw[hr];simp only[g]);have l:0<(bs d.rest).size:=(by rw[hr,Z0];simp);have G:=H6 l;have p:=or32 d.code c.toNat (iA c);rw[g] at p;have u:=A0 (bs d.rest) 1;rw[Zk,hr,List.drop_one,List.tail_cons,<-hr] at u;have D:∀E:0<(bs d.rest).size,((bs d.rest)[0]'E).toNat=c.toNat:=by rw[hr];intro E;rfl
  generalize bs d.rest=s at*;have I:=D l;obtain⟨y,z⟩:=ay c.toNat;rw[z] at I p k;have M:y<256:=(by rw[<-z];exact iA c);have H:=J h;have q:=J k;clear h k hr g D z;go_in;go_wp2;go_region;go_wp2;go_end0;rw[q.o];exact⟨rfl,by have B:=((H.o.put0 t).put1 (X+y)).drew;rw[xb] at B;exact B,(XH (XH (Fr.refl _ _) 0 _) 1 _).drew⟩
def DV (k:Nat) (d:De):Prop:=Cb k d.size/\d.code<4294967296
theorem MP {d:De} (h:DV 0 d):16777216<=d.size/\d.size<4294967296:=by have:=h.1;unfold Cb at this;omega
theorem b_ {d:De} (h:DV 0 d) (g:1<=p) (k:p<=2047):DV 2 (um p d):=by obtain⟨h1,t⟩:=MP h;obtain⟨b1,q⟩:=C5 d.size p h1 g k;have l:=h.2;unfold um;generalize d.size/2048*p=B at*;split;exact⟨⟨by show _<=B*_;omega,by show B<_;omega⟩,l⟩;exact⟨⟨by show _<=(d.size-B)*_;omega,by show d.size-B<_;omega⟩,by show d.code-B<_;omega⟩
theorem yY {d:De} :(Xx d).size=d.size/\(Xx d).code<4294967296:=by unfold Xx;split;exact⟨rfl,by show d.code*256 % 4294967296<_;omega⟩;rename_i c t _;refine⟨rfl,?_⟩;have:=iA c;show d.code*256 % 4294967296+c.toNat<_;omega
theorem Vv {k:Nat} {d:De} (h:DV (k+1) d) (g:d.size<16777216):DV k (wl d):=by refine⟨⟨?_,?_⟩,yY.2⟩;have:=h.1.1;rw[rq,<-Ch] at this;show _<=d.size*256*256 ^ k;rw[Nat.mul_right_comm];exact this;show d.size*256<_;omega
theorem Zm8 (k:Nat):∀ {d:De},DV k d->DV 0 (ta k d):=by
 induction k with
 |zero=>intro d h;exact h
 |succ k ih=>intro d h;rw[ta];split;exact ih (Vv h mp);exact⟨⟨fp,h.1.2⟩,h.2⟩
theorem DN {d:De} (h:DV 0 d) (g:1<=p) (k:p<=2047):DV 0 (qh p d):=Zm8 2 (b_ h g k)
def D8 (b:Nat) (w:au):Nat:=match w.cell? ⟨b,2,none⟩ with
 |some (.int _ n)=>(16777216-n).toNat
 |_=>0
theorem d_ {d:De} (h:dA w b d):D8 b w=(16777216-(d.size:Int)).toNat:=by have:=Bk.cell h 2;simp at this;unfold D8;rw[this]
theorem KM {w : au} {b : Nat} {d : De} (h : dA w b d) (F : DV 0 d) (p : Nat) (a4 : 1 <= p) (a5 : p <= 2047) :
    Calls prog 246 #[(b,0),p] w λx w'=>x=.returned ((iO p d:Nat):Int)/\dA w' b (qh p d)/\Fr (only b) w w':=by
  obtain⟨d1,e1⟩:=MP F;obtain⟨b1,c3⟩:=C5 d.size p d1 a4 a5;have d4:=F.2;have b5:=b_ F a4 a5;obtain⟨B,u⟩:=ay (d.size/2048*p);have c1:=Bk.cell h 1;have c2:=Bk.cell h 2;have f1:=Bk.frozen h 1;have c6:=Bk.frozen h 2;simp at c1 c2;have c8:=J (TF (p:Int) O O);rw[u] at b1 c3;have a3:um p d=if d.code<B then { d with size:=B } else { d with code:=d.code-B,size:=d.size-B } :=by unfold um;rw[u]
  have a0:iO p d=if d.code<B then 0 else 1:=by unfold iO;rw[u]
  have H:=J h;have i0:IntKind.u32.wrap ((d.size:Int)/2048*(p:Int))=(B:Int):=by have:(d.size:Int)/2048*(p:Int)=B:=(by rw[<-u,vP,Int.natCast_ediv];rfl);rw[this,IntWalk.u32_in _ O]
  obtain⟨b6,a2,a1⟩:=bF b5 a3 a0;clear h u b5 F a3 a0;go_in;go_wp2;go_quiet ((go_at_call 208;exact zw (c8.o _)));clear i0;go_upto_if 20 with fail;go_cut [6] (λc9 wx=>c9=.int .i64 (iO p d:Nat)/\dA wx b (um p d)/\Fr (only b) w wx)
  case first=>
    by_cases E:d.code<B;. have g:=a2.o;have l:=a1.o;rw[aP E] at g l;have g:=J g;have l:=J l;have c5:(d.code:Int)<B:=O;clear E;go_wp2;go_meet;rw[g.o,l.o];exact⟨rfl,((H.o).drewN nq).put2 B,XH ((Fr.refl _ _).drewN nq) 2 _⟩
    have g:=a2.o;have l:=a1.o;rw[az E] at g l;have c5:¬(d.code:Int)<B:=O;obtain⟨C,a7⟩:=ay (d.code-B);obtain⟨S,a8⟩:=ay (d.size-B);rw[a7,a8] at g;have i1:IntKind.u32.wrap ((d.code:Int)-B)=(C:Int):=Fa;have d7:IntKind.u32.wrap ((d.size:Int)-B)=(S:Int):=Fa;have g:=J g;have l:=J l;clear E a7 a8;go_wp2;go_region
    all_goals
      go_wp2;go_meet;rw[g.o,l.o];exact⟨rfl,((((H.o).drewN nq).put1 C).put2 S).drew,(XH (XH ((Fr.refl _ _).drewN nq) 1 _) 2 _).drew⟩
  obtain⟨rfl,a9,y⟩:=hcut;clear c1 c2 f1 c6;go_wp2;go_loopw [] (λwr=>∃(k:Nat) (x:De),dA wr b x/\DV k x/\k<=2/\Hid (ta k x=qh p d)/\Fr (only b) w wr) (λwr=>D8 b wr);exact⟨2,_,a9,b6.o,aW,J rfl,y⟩;clear a9 y;obtain⟨k,x,z,q,d6,b0,y⟩:=hrel;have q2:=Bk.cell z 2;simp at q2;have d5:=q.1.2;by_cases ab:x.size<16777216
  . obtain ⟨j, rfl⟩ : ∃ j, k = j + 1 := by rcases qB k with t|t;subst t;have:=MP q;omega;exact⟨k-1,O⟩
    have a6:=Vv q ab;have D:ta (j+1) x=ta j (wl x):=(by rw[ta,aP ab]);have c4:(x.size:Int)<16777216:=O;have d3:0<x.size:=by have:=q.1.1;exact P3
    obtain⟨R,I⟩:=ay (x.size*256);have d8:(x.size:Int)*256=(R:Int):=O;have Hd:=J (TN z);have b3:wl x= { Xx x with size:=R } :=(by unfold wl;rw[I]);have Q:(Xx x).size=x.size:=yY.1;obtain⟨M,c7,d2,b7,b8⟩:=ia D a6 b3 I z;clear a6 D q z ab I b3;go_wp21;refine aO Hd.o λw1 ⟨G,b9⟩=>?_;have b4:=Bk.cell G 2;have d9:=Bk.frozen G 2;simp at b4;rw[Q] at b4;clear Q q2;go_wp2;go_roundw;refine⟨j,wl x,?_,c7.o,O,J (by rw[<-M.o,b0.o]),XH (y.trans b9) 2 _⟩;rw[d2.o];exact G.put2 R;show D8 b _<D8 b _;rw[d_ (G.put2 R),d_ b8.o];have:=b7.o;exact dw
  have D : ta k x = x := by cases k with
    |zero=>rfl
    |succ k=>rw[ta,az ab]
  have M:=J D;have c4:¬(x.size:Int)<16777216:=O;clear ab D;go_wp2;go_ret;refine⟨rfl,?_,y⟩;rw[<-b0.o,M.o];exact z
