import Derived.Test.YtnjkjoklnephcaaGreatDoorChecked
import Derived.Test.YtnjkjoklnephcaaGreatDoorF02
import Derived.WalkSpells
import Derived.WalkLawsBesides
import Derived.Deep.QuietTactic
import Derived.BigQuiet
import Derived.Outline
set_option linter.all false
set_option maxRecDepth 100000
set_option maxHeartbeats 0
section
variable{P Q:Prop}
theorem ci(h:P:=by go_num):P:=h
theorem qD(h:P:=by kernel_rfl):P:=h
theorem Aq(h:P:=by decide+kernel):P:=h
theorem Cw(h:P:=by exact⟨0,by omega,rfl⟩):P:=h
theorem Cl(h:P:=by go_in;go_wp2;go_ret;exact⟨rfl,rfl⟩):P:=h
theorem P1(h:P:=by
 go_round;case rel=>exact⟨j+1,by omega,by go_num⟩
 simp[intOf];omega):P:=h
theorem PT(h:P:=by rw[ByteArray.toList_eq];have:s.data.toList.length=0:=h;rw[ia this];rfl):P:=h
theorem OV(h:P:=by
 rw[ByteArray.toList_eq];have:s.data.toList=s.size:=rfl;match t:s.data.toList with
 |[]=>rw[t] at this;simp at this;omega
 |_::_=>rfl):P:=h
end
namespace Go.Proofs.Y
open Tryz Wv Go.RowKit
theorem ZZ {k:IntKind} {a b:Int} (h:a=b):Ending.returned (.int k a)=.returned (.int k b):=rp
theorem Z4 {a b:Bool} (h:a=b):Ending.returned a=.returned b:=rp
theorem Bc {a b:aT} (h:a=b):Ending.returned a=.returned b:=rp
theorem J1 (k:Int) (h0:0<=k) (g:k<=8) (w:aq):
  Calls prog 74 #[k] w λe w'=>e=.returned ((gi k.toNat:Nat):Int)/\w=w':=by
 obtain⟨k,rfl⟩:=Int.eq_ofNat_of_zero_le h0;rw[ep];have p:=J QV;go_in;go_wp2;go_loop [3,4] (λb i=>∃j:Nat,j<=k/\i=((j:Int)+1:Int)/\b=.int .i64 (gi j:Nat)) (λ_ i=>k+1-(intOf i).toNat);exact⟨0,cf _,rfl,rfl⟩;obtain⟨j,l,rfl,rfl⟩:=hrel;by_cases ab:j<k
 .have hb:=TA j O;have d:j=0\/j=1\/j=2\/j=3\/j=4\/j=5\/j=6\/j=7:=O;rcases d with rfl|rfl|rfl|rfl|rfl|rfl|rfl|rfl
  all_goals
   go_wp2;go_round;exact⟨_,ab,by rfl,by rfl⟩;simp[intOf];omega
 go_wp2;go_ret;exact⟨ZZ (by rw[show k=j from by exact O]),rfl⟩
theorem ZjU (n:Int) (h0:0<=n) (u:n<=9223372036854775807) (w:aq):
  Calls prog 73 #[n] w λe w'=>e=.returned ((ee n.toNat:Int)+1:Int)/\w=w':=by
 obtain⟨n,rfl⟩:=Int.eq_ofNat_of_zero_le h0;rw[ep];have y:=Yf n;have d:=J J1;go_in;go_wp2;go_loop [3] (λk=>∃j:Nat,j<=ee n/\k=j) (λk=>9-(intOf k).toNat);exact⟨0,cf _,rfl⟩;obtain⟨j,t,rfl⟩:=hrel;by_cases q:j<8
 .have g:=ZiS n j q t;have hb:=d.o ((j:Int)+1) O O w;rw[show(((j:Int)+1).toNat)=j+1 from by exact O] at hb;have p:=J hb;by_cases ab:j<ee n;.have l:gi (j+1)<=n:=g.2 ab;clear g hb;go_wp2_with (go_at_call 74;refine(p.o).mono ?_;rintro e w' ⟨rfl,rfl⟩);exact P1
  have l:¬gi (j+1)<=n:=λh=>ab (g.1 h);clear g hb;go_wp2_with (go_at_call 74;refine(p.o).mono ?_;rintro e w' ⟨rfl,rfl⟩);go_ret;exact⟨ZZ O,rfl⟩
 go_wp2;go_ret;exact⟨ZZ O,rfl⟩
theorem Zqf:(prog.info? 5).map (λi=>(i.zero,i.size,i.bytes))=some (some (.int .u8 0),1,1):=qD
theorem ZdX:∀k:Nat,k<9->∀r:Nat,r<128->(k<=7->r<2 ^ (7-k))->(k=8->r=0)->bits .or .u8 (((65280/2 ^ k % 256:Nat):Int)) (r:Int)=((256-2 ^ (8-k)+r:Nat):Int):=Aq
theorem Zny (k:Nat):(65280:Int)/2 ^ k % 256=((65280/2 ^ k % 256:Nat):Int):=by rw[Int.natCast_emod,Int.natCast_ediv,Int.natCast_pow];rfl
theorem Zor (k j r:Nat) (l:0<j) (p:j<=k):(List.replicate (j+1) (0:cj)++be (k-j) r).set j (UInt8.ofNat (r/256 ^ (k-j) % 256))=List.replicate (j-1+1) 0++be (k-(j-1)) r:=by
 have h1:k-(j-1)=k-j+1:=O;have d:UInt8.ofNat (r/256 ^ (k-j) % 256)=UInt8.ofNat (r/256 ^ (k-j)):=by apply UInt8.toNat_inj.1;simp
 rw[h1,d];have g:List.replicate (j+1) (0:cj)++be (k-j) r=List.replicate j 0++(0::be (k-j) r):=(by rw[List.replicate_succ'];simp);rw[g,nj _ _ (by simp),show j-1+1=j from by exact O];simp[be]
theorem Zik (r m:Nat):r/256 ^ m/256=r/256 ^ (m+1):=by rw[Nat.div_div_eq_div_mul,rn]
theorem Zj (n:Int) (h0:0<=n) (a3:n<=9223372036854775807) (w:aq):
  Calls prog 41 #[n] w (bM w (bs (bi n.toNat))):=by
 obtain⟨n,rfl⟩:=Int.eq_ofNat_of_zero_le h0;rw[ep];obtain⟨k,B⟩:=ay (ee n);have a9:=Yf n;have L:=Wx n;have d:=j_ n O;have E:=J (ZjU (n:Int) O a3);have u:=J (J1 (k:Int) O O);rw[ep,B] at E;rw[ep] at u;rw[B] at a9 L d;obtain⟨b,hb⟩:=ay (gi k);rw[hb] at u L d;obtain⟨r,Q⟩:=ay (n-b);rw[Q] at d;have t:Hid (bi n=UInt8.ofNat (256-2 ^ (8-k)+r/256 ^ k)::be k r):=J (by unfold bi;rw[B,hb,Q]);have i1:(n:Int)-b=(r:Int):=O;have b2:=J d;have R:r<=9223372036854775807:=O;have G:=Y5 (P:=prog) 88 5 _ _ underlying88 Zqf rfl ((k:Int)+1) (k+1) rfl O O;rw[Z64] at G;go_in;go_wp21;refine cp (E.o _) ?_;go_wp21;refine cp (u.o _) ?_;go_wp2;go_loopw [4,6] (λx i wr=>∃j:Nat,j<=k/\i=j/\x=.int .i64 ((r/256 ^ (k-j):Nat):Int)/\Bk wr w 5 (bc (List.replicate (j+1) 0++be (k-j) r))/\Below w w wr) (λ_ i _=>(intOf i).toNat);exact⟨k,aU,rfl,by simp,by rw[fh];simpa [be] using Bk.new w 5 (bc (List.replicate (k+1) 0)),(bf _ _).alloc aU _⟩;obtain⟨j,a8,rfl,rfl,g,M⟩:=hrel;have l:(List.replicate (j+1) (0:cj)++be (k-j) r).length=k+1:=(by rw[bV,iE,Ye];omega);have a2:r/256 ^ (k-j)<=r:=IE _ _;by_cases ab:0<j
 .obtain⟨x,q⟩:=ay (r/256 ^ (k-j));have F:=J (Zor k j r ab a8);have D:=J (Zik r (k-j));obtain⟨b3,a4⟩:∃y:Int,wr.cell? (w,j)=some (.int .u8 y):=⟨_,by rw[g.cell,LX _ _ O]⟩;have b1:=g.frozen j;have b0:(j:Int)<k+1:=O;have S:x<=9223372036854775807:=O;rw[q] at F D⊢;have a6:=J g;go_wp2;go_roundw;.refine⟨j-1,O,by congr 1;omega,?_,?_,M.setCell (p:=⟨w,j,none⟩) aU _⟩;rw[show k-(j-1)=k-j+1 from by exact O,<-D.o];congr 1;have:=a6.o.put j (.int .u8 ((x:Int) % 256));rw[P7 _ _ _ O O] at this;rw[<-F.o];have e:((x:Int) % 256).toNat=x % 256:=O;rw[e] at this;exact this
  simp[intOf];omega
 have a7:j=0:=O;subst a7;rw[Nat.sub_zero] at g⊢l;obtain⟨x,q⟩:=ay (r/256 ^ k);have d:=b2.o;rw[q] at d;have a1:x<128:=eg d.1 (pQ O (show 7-k<=7 by omega));have GA:=ZdX k O x a1 (λ_=>d.1) d.2;have I:=Zny k;have b4:(x:Int) % 256=(x:Int):=O;rw[<-I] at GA;have a5:256-2 ^ (8-k)+x<256:=(Ti k x O d.1 d.2).1;rw[q] at t⊢;obtain⟨y,a0⟩:=ay (256-2 ^ (8-k)+x);rw[a0] at t GA a5;obtain⟨b3,a4⟩:∃y:Int,wr.cell? ⟨w,0,none⟩=some (.int .u8 y):=⟨_,by rw[g.cell,LX _ _ O]⟩;have b1:=g.frozen 0;have z:=g.put 0 (.int .u8 (y:Int));rw[P7 _ _ _ O O,ep] at z;have b5:=Zi3 (P:=prog) 88 9 5 underlying88 underlying5 underlying9 _ w (k+1) (k+1) (bi n) [] (by rw[fg,t.o];exact z) (by rw[t.o];simp[Ye]);have b0:(0:Int)<k+1:=O;clear q g a2 l G z a0 d I;go_wp2;go_ret;exact⟨rfl,M.setCell (p:=⟨w,0,none⟩) aU _⟩
variable{b e:Nat}{s:aT}{w:aq}
theorem rK (n:Nat):(bi n).length<=9:=by rw[lS];have:=Yf n;omega
theorem X1 (s:aT) (k:s.size<=1099511627776) (w:aq):
  Calls prog 78 #[s] w (bM w (bs (text s))):=by have d:=Zj (s.size:Int) O O w;rw[ep] at d;have g:=rK s.size;have j:=J (show bs (bi s.size)++s=bs (text s) from by rw[<-Zc s,Z9];rfl);rw[<-Z0] at g;generalize bs (bi s.size)=t at*;have d:=J d;go_in;go_wp21;refine aP d.o λw1 hb=>?_;go_wp2;go_ret;exact⟨Bc j.o,hb⟩
def RV (w:aq) (b:Nat) (s:aT) (e:Nat):Prop:=Bk w b 207 #[s,e]
theorem RV.c0 (h:RV w b s e):w.cell? (b,0)=s:=Bk.cell h 0
theorem RV.c1 (h:RV w b s e):w.cell? (b,1)=e:=Bk.cell h 1
theorem RV.f0 (h:RV w b s e):w.frozen? (b,0)=false:=Bk.frozen h 0
theorem RV.f1 (h:RV w b s e):w.frozen? (b,1)=false:=Bk.frozen h 1
theorem ZT (s:aT) (w:aq):
  Calls prog 80 #[s] w λe w'=>e=.returned (w,0)/\RV w' w s 0/\Below w w w':=by go_in;go_wp2;go_ret;exact⟨rfl,Bk.new _ _ _,(bf _ _).alloc aU _⟩
theorem QS (h:RV w b s e) (n:Nat):
  Calls prog 129 #[(b,0),n] w λe w'=>e=.returned (.tuple #[])/\RV w' b s n/\Fr (only b) w w':=by have h1:=h.c1;have f1:=h.f1;go_in;go_wp2;go_end0;exact⟨rfl,by simpa [RV] using Bk.put h 1 n,(Fr.refl (only b) _).setCell (p:=⟨b,1,none⟩) (.inl rfl) _⟩
theorem Ze (h:RV w b s e):
  Calls prog 82 #[(b,0)] w λx w'=>x=.returned e/\w=w':=by have h1:=h.c1;exact Cl
theorem ZA (h:RV w b s e) (d:s.size<=9223372036854775807):
  Calls prog 124 #[(b,0)] w λx w'=>x=.returned s.size/\w=w':=by have h1:=h.c0;exact Cl
theorem ZiU:∀c:Nat,c<256->∀j:Nat,j<8->j<=eD c->(bits .and .u8 (c:Int) (((128/2 ^ j:Nat):Int)) !=0)=decide (j<eD c):=Aq
theorem Zet:∀c:Nat,c<256->bits .and .u8 (c:Int) (((127/2 ^ eD c:Nat):Int))=((c-(256-2 ^ (8-eD c)):Nat):Int):=Aq
theorem ZpY (k:Nat):(128:Int)/2 ^ k=((128/2 ^ k:Nat):Int):=by rw[Int.natCast_ediv,Int.natCast_pow];rfl
theorem ZqY (k:Nat):(127:Int)/2 ^ k=((127/2 ^ k:Nat):Int):=by rw[Int.natCast_ediv,Int.natCast_pow];rfl
theorem ZmY (n b:Nat) (d:n<72057594037927936) (hb:b<256):bits .or .u64 ((n:Int)*256) (b:Int)=((256*n+b:Nat):Int):=by rw[show(n:Int)*256=((256*n:Nat):Int) from by rw[vJ,Int.mul_comm];rfl,u64_or_nat _ _ O O,nat_join 8 _ _ O O]
theorem Zr7 (l:ax):∀a,vl a l<(a+1)*256 ^ l.length:=by
 induction l with
 |nil=>intro a;simp[vl]
 |cons b t ih=>intro a;have h:=ih (256*a+b.toNat);have hb:=iq b;rw[gd,rn];refine eg h ?_;have h1:256*a+b.toNat+1<=(a+1)*256:=O;have:=Ad (256 ^ t.length) h1;rw[tP (256 ^ t.length) 256,<-Cb];exact this
theorem Zix (c:Nat) (g:c<256):(c-(256-2 ^ (8-eD c))+1)*256 ^ eD c<=18446744073709551616/\(c-(256-2 ^ (8-eD c))+1)*256 ^ (eD c-1)<=72057594037927936:=by have h:=FX c;have d:=Hg c;rcases nine (eD c) d with e|e|e|e|e|e|e|e|e<;>rw[e] at h⊢<;>simp only[Nat.reducePow,Nat.reduceSub]<;>omega
theorem HX (h:s.size=0):s.toList.isEmpty=true:=PT
theorem HW (h:0<s.size):s.toList.isEmpty=false:=OV
theorem Zjm (h:RV w b s e) (d:s.size=0):
  Calls prog 169 #[(b,0)] w λx w'=>x=.returned (.tuple #[(0:Int),(0:Int),false])/\w=w':=by have h1:=h.c0;have g:=HX d;go_in;go_wp2;go_ret3;exact⟨rfl,rfl⟩
structure Fst (s:ByteArray) (c k:Nat):Prop where
 pos:0<s.size
 get:∀h:0<s.size,(s[0]'h).toNat=c
 lt:c<256
 eD:eD c=k
theorem Zp5 (h:0<s.size):∃c,Fst s c (eD c)/\c=(s[0]).toNat/\aH s=UInt8.ofNat c::(aH s).drop 1:=by refine⟨(s[0]).toNat,⟨h,λ_=>rfl,iq _,rfl⟩,rfl,?_⟩;have h1:0<(aH s).length:=h;have d:aH s=(aH s)[0]::(aH s).drop 1:=(by rw[<-kw h1,Ch]);have g:(aH s)[0]=s[0]:=(by simp[aH];rfl);rw[g] at d;rw[UInt8.ofNat_toNat];exact d
theorem Z7J (a m:Nat) (s:aT) (h1:1<=m) (h:m<s.size):vl a (((aH s).drop 1).take m)=256*vl a (((aH s).drop 1).take (m-1))+(s[m]).toNat:=by
 have k:m<(aH s):=h;obtain⟨j,rfl⟩:∃j,m=j+1:=⟨m-1,O⟩;have d:j<((aH s).drop 1).length:=(by rw[iW];omega);rw[dK d,vI];have g:((aH s).drop 1)[j]=s[j+1]:=by rw[Iz];simp only[aH,IH 1 j];rw[Array.getElem_toList];rfl
 rw[g];simp only[vl,rk,List.foldl_cons,List.foldl_nil];rfl
def pk (s:aT):aI:=match gP (aH s) with
 |none=>.tuple #[(0:Int),(0:Int),false]
 |some x=>.tuple #[x.1,x.2,true]
theorem Hp (h:gP (aH s)=none):pk s=.tuple #[(0:Int),(0:Int),false]:=by unfold pk;rw[h]
theorem n_ {n z:Nat} (h:gP (aH s)=some (n,z)):pk s=.tuple #[n,z,true]:=by unfold pk;rw[h]
theorem DJ {a b:aI} (h:a=b):Ending.returned a=.returned b:=rp
theorem Zf7 (h:RV w b s e) (M:0<s.size) (c9:s.size<=1099511627776):
  Calls prog 169 #[(b,0)] w λx w'=>x=.returned (pk s)/\w=w':=by
 obtain⟨c,L,b5,a3⟩:=Zp5 M;have h1:=h.c0;have c4:=HW M;have c8:=L.get M;have I:=L.lt;have a7:=Hg c;have Q:=Zet c I;have E:=Zix c I;have p:=GQ (UInt8.ofNat c) ((aH s).drop 1);rw[<-a3,show(UInt8.ofNat c).toNat=c from by exact fj,show((aH s).drop 1).length=s.size-1 from by rw[iW];rfl] at p;have F:=J (ZiU c I);have u:=J (J1 (eD c:Int) O O);rw[ep] at u;have a5:=TA (eD c) a7;obtain⟨k,a2⟩:=ay (eD c);rw[a2] at F Q E p u a7 a5;obtain⟨a,a1⟩:=ay (c-(256-2 ^ (8-k)));rw[a1] at Q E p;obtain⟨B,a0⟩:=ay (gi k);rw[a0] at u p a5;rw[<-ZqY] at Q;have a6:=J p;have R:=J E;have c5:a<256:=O;clear a3 b5 L a2 a1 a0 p E;go_in;go_wp2;go_loop [6] (λi=>∃j:Nat,j<=k/\i=j) (λi=>(9-intOf i).toNat);exact Cw;obtain⟨j,b7,rfl⟩:=hrel;by_cases a8:j<k;.have hb:=F.o j O b7;rw[<-ZpY,dd a8] at hb;go_wp2;exact P1
 have b2:j=k:=O;subst b2;have b4:(j<8/\(bits .and .u8 (c:Int) (128/2 ^ j) !=0)=false)\/8<=j:=by by_cases D:j<8;have:=F.o j D aU;rw[<-ZpY,cI a8] at this;exact .inl ⟨D,this⟩;exact .inr O
 rcases b4 with ⟨D,hb⟩|D
 all_goals
  by_cases c6:s.size<j+1;.have t:=J (Hp (by rw[a6.o,Vag O]));go_wp2;go_ret3;exact⟨DJ t.o.symm,rfl⟩
  go_wp2;go_loop [7,8] (λn i=>∃m:Nat,1<=m/\m<=j+1/\i=m/\n=.int .u64 ((vl a (((aH s).drop 1).take (m-1)):Nat):Int)) (λ_ i=>(j+2-intOf i).toNat);exact⟨1,O,O,rfl,by simp[vl]⟩;obtain⟨m,b6,b8,rfl,rfl⟩:=hrel;have g:=Zr7 (((aH s).drop 1).take (m-1)) a;by_cases c7:m<=j
  .have c3:m<s.size:=O;have G:=J (Z7J a m s b6 c3);have d:(((aH s).drop 1).take (m-1)).length=m-1:=by rw[ek,iW,Z2];omega
   rw[d] at g;have S:vl a (((aH s).drop 1).take (m-1))<72057594037927936:=by refine eg g (co ?_ R.o.2);exact Ev _ (pQ O O)
   obtain⟨y,a4⟩:=ay ((s[m]).toNat);have a9:y<256:=(by rw[<-a4];exact iq _);rw[a4] at G;obtain⟨v,q⟩:=ay (vl a (((aH s).drop 1).take (m-1)));rw[q] at G S⊢;have b0:=J (ZmY v y S a9);clear g d q;go_wp2;go_round;exact⟨m+1,O,O,ci,by rw[b0.o,vI,G.o]⟩;simp[intOf];omega
  have b1:m=j+1:=O;subst b1;rw[vI] at g⊢;have d:(((aH s).drop 1).take j).length=j:=by rw[ek,iW,Z2];omega
  rw[d] at g;have b3:=eg g R.o.1;obtain⟨v,q⟩:=ay (vl a (((aH s).drop 1).take j));rw[q] at b3⊢;have l:=a6.o;rw[q,aD O] at l;clear g d q;by_cases z:9223372036854775807<v+B;.rw[Vag z] at l;have t:=J (Hp l);have b9:(9223372036854775807:Int)-B<(v:Int):=O;clear l z;go_wp2_with (go_at_call 74;refine(u.o _).mono ?_;rintro e w' ⟨rfl,rfl⟩);go_ret3;exact⟨DJ t.o.symm,rfl⟩
  rw[aD z] at l;have t:=J (n_ l);have b9:¬(9223372036854775807:Int)-B<(v:Int):=O;clear l z;go_wp2_with (go_at_call 74;refine(u.o _).mono ?_;rintro e w' ⟨rfl,rfl⟩);go_ret3;exact⟨DJ (by rw[t.o];push_cast;rfl),rfl⟩
