import Derived.Test.YtnjkjoklnephcaaGreatDoorChecked
import Derived.Test.YtnjkjoklnephcaaGreatDoorJ02
import Derived.WalkSpells
import Derived.WalkLawsBesides
import Derived.Deep.QuietTactic
import Derived.BigQuiet
import Derived.Outline
set_option linter.all false
set_option maxRecDepth 100000
set_option maxHeartbeats 0
section
variable{P Q:Prop}
theorem ck(h:P:=by go_num):P:=h
theorem qH(h:P:=by kernel_rfl):P:=h
theorem Au(h:P:=by decide+kernel):P:=h
theorem Fu(h:P:=by rw[jt];omega):P:=h
theorem CA(h:P:=by exact⟨0,by omega,rfl⟩):P:=h
theorem Cr(h:P:=by go_in;go_wp2;go_ret;exact⟨rfl,rfl⟩):P:=h
theorem Rb(h:P:=by
 go_round;case rel=>exact⟨j+1,by omega,by go_num⟩
 simp[intOf];omega):P:=h
theorem P7(h:P:=by rw[ByteArray.toList_eq];have:s.data.toList.length=0:=h;rw[gx this];rfl):P:=h
theorem O6(h:P:=by
 rw[ByteArray.toList_eq];have:s.data.toList=s.size:=rfl;match t:s.data.toList with
 |[]=>rw[t] at this;simp at this;omega
 |_::_=>rfl):P:=h
end
namespace Go.Proofs.Y
open Tryz Wv Go.RowKit
theorem ZY {k:IntKind} {a b:Int} (h:a=b):Ending.returned (.int k a)=.returned (.int k b):=rr
theorem Z4 {a b:Bool} (h:a=b):Ending.returned a=.returned b:=rr
theorem Bj {a b:aS} (h:a=b):Ending.returned a=.returned b:=rr
theorem J7 (k:Int) (h0:0<=k) (l:k<=8) (w:au):
  Calls prog 74 #[k] w λe w'=>e=.returned ((gq k.toNat:Nat):Int)/\w=w':=by
 obtain⟨k,rfl⟩:=Int.eq_ofNat_of_zero_le h0;rw[ek];have q:=J QW;go_in;go_wp2;go_loop [3,4] (λb i=>∃j:Nat,j<=k/\i=((j:Int)+1:Int)/\b=.int .i64 (gq j:Nat)) (λ_ i=>k+1-(intOf i).toNat);exact⟨0,cf _,rfl,rfl⟩;obtain⟨j,p,rfl,rfl⟩:=hrel;by_cases ab:j<k
 .have hb:=ZkF j O;have g:j=0\/j=1\/j=2\/j=3\/j=4\/j=5\/j=6\/j=7:=O;rcases g with rfl|rfl|rfl|rfl|rfl|rfl|rfl|rfl
  all_goals
   go_wp2;go_round;exact⟨_,ab,by rfl,by rfl⟩;simp[intOf];omega
 go_wp2;go_ret;exact⟨ZY (by rw[show k=j from by exact O]),rfl⟩
theorem Zk3 (n:Int) (h0:0<=n) (u:n<=9223372036854775807) (w:au):
  Calls prog 73 #[n] w λe w'=>e=.returned ((ed n.toNat:Int)+1:Int)/\w=w':=by
 obtain⟨n,rfl⟩:=Int.eq_ofNat_of_zero_le h0;rw[ek];have y:=Ye n;have H:=J J7;go_in;go_wp2;go_loop [3] (λk=>∃j:Nat,j<=ed n/\k=j) (λk=>9-(intOf k).toNat);exact⟨0,cf _,rfl⟩;obtain⟨j,t,rfl⟩:=hrel;by_cases q:j<8
 .have g:=Zj4 n j q t;have hb:=H.o ((j:Int)+1) O O w;rw[show(((j:Int)+1).toNat)=j+1 from by exact O] at hb;have p:=J hb;by_cases ab:j<ed n;.have l:gq (j+1)<=n:=g.2 ab;clear g hb;go_wp2_with (go_at_call 74;refine(p.o).mono ?_;rintro e w' ⟨rfl,rfl⟩);exact Rb
  have l:¬gq (j+1)<=n:=λh=>ab (g.1 h);clear g hb;go_wp2_with (go_at_call 74;refine(p.o).mono ?_;rintro e w' ⟨rfl,rfl⟩);go_ret;exact⟨ZY O,rfl⟩
 go_wp2;go_ret;exact⟨ZY O,rfl⟩
theorem Zql:(prog.info? 5).map (λi=>(i.zero,i.size,i.bytes))=some (some (.int .u8 0),1,1):=qH
theorem Ze6:∀k:Nat,k<9->∀r:Nat,r<128->(k<=7->r<2 ^ (7-k))->(k=8->r=0)->bits .or .u8 (((65280/2 ^ k % 256:Nat):Int)) (r:Int)=((256-2 ^ (8-k)+r:Nat):Int):=Au
theorem ZnE (k:Nat):(65280:Int)/2 ^ k % 256=((65280/2 ^ k % 256:Nat):Int):=by rw[Int.natCast_emod,Int.natCast_ediv,Int.natCast_pow];rfl
theorem Zox (k j r:Nat) (p:0<j) (q:j<=k):(List.replicate (j+1) (0:ci)++be (k-j) r).set j (UInt8.ofNat (r/256 ^ (k-j) % 256))=List.replicate (j-1+1) 0++be (k-(j-1)) r:=by
 have h1:k-(j-1)=k-j+1:=O;have g:UInt8.ofNat (r/256 ^ (k-j) % 256)=UInt8.ofNat (r/256 ^ (k-j)):=by apply UInt8.toNat_inj.1;simp
 rw[h1,g];have l:List.replicate (j+1) (0:ci)++be (k-j) r=List.replicate j 0++(0::be (k-j) r):=(by rw[List.replicate_succ'];simp);rw[l,nz _ _ (by simp),show j-1+1=j from by exact O];simp[be]
theorem Zit (r m:Nat):r/256 ^ m/256=r/256 ^ (m+1):=by rw[Nat.div_div_eq_div_mul,rq]
theorem Zj (n:Int) (h0:0<=n) (a6:n<=9223372036854775807) (w:au):
  Calls prog 41 #[n] w (bN w (bs (bj n.toNat))):=by
 obtain⟨n,rfl⟩:=Int.eq_ofNat_of_zero_le h0;rw[ek];obtain⟨k,D⟩:=ay (ed n);have b2:=Ye n;have R:=W7 n;have g:=I_ n O;have G:=J (Zk3 (n:Int) O a6);have z:=J (J7 (k:Int) O O);rw[ek,D] at G;rw[ek] at z;rw[D] at b2 R g;obtain⟨b,hb⟩:=ay (gq k);rw[hb] at z R g;obtain⟨r,a0⟩:=ay (n-b);rw[a0] at g;have u:Hid (bj n=UInt8.ofNat (256-2 ^ (8-k)+r/256 ^ k)::be k r):=J (by unfold bj;rw[D,hb,a0]);have i1:(n:Int)-b=(r:Int):=O;have b5:=J g;have a1:r<=9223372036854775807:=O;have M:=Y4 (P:=prog) 88 5 _ _ underlying88 Zql rfl ((k:Int)+1) (k+1) rfl O O;rw[Z6d] at M;go_in;go_wp21;refine cq (G.o _) ?_;go_wp21;refine cq (z.o _) ?_;go_wp2;go_loopw [4,6] (λx i wr=>∃j:Nat,j<=k/\i=j/\x=.int .i64 ((r/256 ^ (k-j):Nat):Int)/\Bk wr w 5 (bc (List.replicate (j+1) 0++be (k-j) r))/\Below w w wr) (λ_ i _=>(intOf i).toNat);exact⟨k,aW,rfl,by simp,by rw[fv];simpa [be] using Bk.new w 5 (bc (List.replicate (k+1) 0)),(bi _ _).alloc aW _⟩;obtain⟨j,b0,rfl,rfl,l,S⟩:=hrel;have q:(List.replicate (j+1) (0:ci)++be (k-j) r).length=k+1:=(by rw[bT,iK,Yd];omega);have a5:r/256 ^ (k-j)<=r:=IG _ _;by_cases ab:0<j
 .obtain⟨x,t⟩:=ay (r/256 ^ (k-j));have I:=J (Zox k j r ab b0);have E:=J (Zit r (k-j));obtain⟨b6,a7⟩:∃y:Int,wr.cell? (w,j)=some (.int .u8 y):=⟨_,by rw[l.cell,L' _ _ O]⟩;have b3:=l.frozen j;have b4:(j:Int)<k+1:=O;have a2:x<=9223372036854775807:=O;rw[t] at I E⊢;have a9:=J l;go_wp2;go_roundw;.refine⟨j-1,O,by congr 1;omega,?_,?_,S.setCell (p:=⟨w,j,none⟩) aW _⟩;rw[show k-(j-1)=k-j+1 from by exact O,<-E.o];congr 1;have:=a9.o.put j (.int .u8 ((x:Int) % 256));rw[ZkE _ _ _ O O] at this;rw[<-I.o];have e:((x:Int) % 256).toNat=x % 256:=O;rw[e] at this;exact this
  simp[intOf];omega
 have b1:j=0:=O;subst b1;rw[Nat.sub_zero] at l⊢q;obtain⟨x,t⟩:=ay (r/256 ^ k);have g:=b5.o;rw[t] at g;have a4:x<128:=eD g.1 (pT O (show 7-k<=7 by omega));have F:=Ze6 k O x a4 (λ_=>g.1) g.2;have Q:=ZnE k;have b7:(x:Int) % 256=(x:Int):=O;rw[<-Q] at F;have a8:256-2 ^ (8-k)+x<256:=(TC k x O g.1 g.2).1;rw[t] at u⊢;obtain⟨y,a3⟩:=ay (256-2 ^ (8-k)+x);rw[a3] at u F a8;obtain⟨b6,a7⟩:∃y:Int,wr.cell? ⟨w,0,none⟩=some (.int .u8 y):=⟨_,by rw[l.cell,L' _ _ O]⟩;have b3:=l.frozen 0;have B:=l.put 0 (.int .u8 (y:Int));rw[ZkE _ _ _ O O,ek] at B;have b8:=Zib (P:=prog) 88 9 5 underlying88 underlying5 underlying9 _ w (k+1) (k+1) (bj n) [] (by rw[fu,u.o];exact B) (by rw[u.o];simp[Yd]);have b4:(0:Int)<k+1:=O;clear t l a5 q M B a3 g Q;go_wp2;go_ret;exact⟨rfl,S.setCell (p:=⟨w,0,none⟩) aW _⟩
variable{b e:Nat}{s:aS}{w:au}
theorem rH (n:Nat):(bj n).length<=9:=by rw[lT];have:=Ye n;omega
theorem X6 (s:aS) (l:s.size<=1099511627776) (w:au):
  Calls prog 78 #[s] w (bN w (bs (text s))):=by have H:=Zj (s.size:Int) O O w;rw[ek] at H;have g:=rH s.size;have k:=J (show bs (bj s.size)++s=bs (text s) from by rw[<-Zd s,Z8];rfl);rw[<-Z0] at g;generalize bs (bj s.size)=t at*;have H:=J H;go_in;go_wp21;refine aO H.o λw1 hb=>?_;go_wp2;go_ret;exact⟨Bj k.o,hb⟩
def RV (w:au) (b:Nat) (s:aS) (e:Nat):Prop:=Bk w b 207 #[s,e]
theorem RV.c0 (h:RV w b s e):w.cell? (b,0)=s:=Bk.cell h 0
theorem RV.c1 (h:RV w b s e):w.cell? (b,1)=e:=Bk.cell h 1
theorem RV.f0 (h:RV w b s e):w.frozen? (b,0)=false:=Bk.frozen h 0
theorem RV.f1 (h:RV w b s e):w.frozen? (b,1)=false:=Bk.frozen h 1
theorem ZT (s:aS) (w:au):
  Calls prog 80 #[s] w λe w'=>e=.returned (w,0)/\RV w' w s 0/\Below w w w':=by go_in;go_wp2;go_ret;exact⟨rfl,Bk.new _ _ _,(bi _ _).alloc aW _⟩
theorem QU (h:RV w b s e) (n:Nat):
  Calls prog 129 #[(b,0),n] w λe w'=>e=.returned (.tuple #[])/\RV w' b s n/\Fr (only b) w w':=by have h1:=h.c1;have f1:=h.f1;go_in;go_wp2;go_end0;exact⟨rfl,by simpa [RV] using Bk.put h 1 n,(Fr.refl (only b) _).setCell (p:=⟨b,1,none⟩) (.inl rfl) _⟩
theorem Zf (h:RV w b s e):
  Calls prog 82 #[(b,0)] w λx w'=>x=.returned e/\w=w':=by have h1:=h.c1;exact Cr
theorem ZB (h:RV w b s e) (g:s.size<=9223372036854775807):
  Calls prog 124 #[(b,0)] w λx w'=>x=.returned s.size/\w=w':=by have h1:=h.c0;exact Cr
theorem Zj6:∀c:Nat,c<256->∀j:Nat,j<8->j<=eJ c->(bits .and .u8 (c:Int) (((128/2 ^ j:Nat):Int)) !=0)=decide (j<eJ c):=Au
theorem ZeB:∀c:Nat,c<256->bits .and .u8 (c:Int) (((127/2 ^ eJ c:Nat):Int))=((c-(256-2 ^ (8-eJ c)):Nat):Int):=Au
theorem Zq5 (k:Nat):(128:Int)/2 ^ k=((128/2 ^ k:Nat):Int):=by rw[Int.natCast_ediv,Int.natCast_pow];rfl
theorem Zr6 (k:Nat):(127:Int)/2 ^ k=((127/2 ^ k:Nat):Int):=by rw[Int.natCast_ediv,Int.natCast_pow];rfl
theorem Zn4 (n b:Nat) (g:n<72057594037927936) (hb:b<256):bits .or .u64 ((n:Int)*256) (b:Int)=((256*n+b:Nat):Int):=by rw[show(n:Int)*256=((256*n:Nat):Int) from by rw[vP,Int.mul_comm];rfl,u64_or_nat _ _ O O,nat_join 8 _ _ O O]
theorem Zrf (l:ax):∀a,vl a l<(a+1)*256 ^ l.length:=by
 induction l with
 |nil=>intro a;simp[vl]
 |cons b t ih=>intro a;have h:=ih (256*a+b.toNat);have hb:=iA b;rw[f',rq];refine eD h ?_;have h1:256*a+b.toNat+1<=(a+1)*256:=O;have:=Ah (256 ^ t.length) h1;rw[tQ (256 ^ t.length) 256,<-Ch];exact this
theorem ZiG (c:Nat) (k:c<256):(c-(256-2 ^ (8-eJ c))+1)*256 ^ eJ c<=18446744073709551616/\(c-(256-2 ^ (8-eJ c))+1)*256 ^ (eJ c-1)<=72057594037927936:=by have h:=Ge c;have g:=Ht c;rcases nine (eJ c) g with e|e|e|e|e|e|e|e|e<;>rw[e] at h⊢<;>simp only[Nat.reducePow,Nat.reduceSub]<;>omega
theorem H7 (h:s.size=0):s.toList.isEmpty=true:=P7
theorem H6 (h:0<s.size):s.toList.isEmpty=false:=O6
theorem Zjw (h:RV w b s e) (g:s.size=0):
  Calls prog 169 #[(b,0)] w λx w'=>x=.returned (.tuple #[(0:Int),(0:Int),false])/\w=w':=by have h1:=h.c0;have k:=H7 g;go_in;go_wp2;go_ret3;exact⟨rfl,rfl⟩
structure Fst (s:ByteArray) (c k:Nat):Prop where
 pos:0<s.size
 get:∀h:0<s.size,(s[0]'h).toNat=c
 lt:c<256
 eJ:eJ c=k
theorem Zpe (h:0<s.size):∃c,Fst s c (eJ c)/\c=(s[0]).toNat/\aH s=UInt8.ofNat c::(aH s).drop 1:=by refine⟨(s[0]).toNat,⟨h,λ_=>rfl,iA _,rfl⟩,rfl,?_⟩;have h1:0<(aH s).length:=h;have g:aH s=(aH s)[0]::(aH s).drop 1:=(by rw[<-kw h1,Al]);have k:(aH s)[0]=s[0]:=(by simp[aH];rfl);rw[k] at g;rw[UInt8.ofNat_toNat];exact g
theorem Z7Q (a m:Nat) (s:aS) (h1:1<=m) (h:m<s.size):vl a (((aH s).drop 1).take m)=256*vl a (((aH s).drop 1).take (m-1))+(s[m]).toNat:=by
 have l:m<(aH s):=h;obtain⟨j,rfl⟩:∃j,m=j+1:=⟨m-1,O⟩;have g:j<((aH s).drop 1).length:=Fu;rw[dD g,vO];have k:((aH s).drop 1)[j]=s[j+1]:=by rw[IC];simp only[aH,II 1 j];rw[Array.getElem_toList];rfl
 rw[k];simp only[vl,rn,List.foldl_cons,List.foldl_nil];rfl
def pk (s:aS):aJ:=match hG (aH s) with
 |none=>.tuple #[(0:Int),(0:Int),false]
 |some x=>.tuple #[x.1,x.2,true]
theorem G6 (h:hG (aH s)=none):pk s=.tuple #[(0:Int),(0:Int),false]:=by unfold pk;rw[h]
theorem N_ {n z:Nat} (h:hG (aH s)=some (n,z)):pk s=.tuple #[n,z,true]:=by unfold pk;rw[h]
theorem DT {a b:aJ} (h:a=b):Ending.returned a=.returned b:=rr
theorem Zff (h:RV w b s e) (R:0<s.size) (d2:s.size<=1099511627776):
  Calls prog 169 #[(b,0)] w λx w'=>x=.returned (pk s)/\w=w':=by
 obtain⟨c,Q,b7,a5⟩:=Zpe R;have h1:=h.c0;have c6:=H6 R;have d1:=Q.get R;have M:=Q.lt;have a9:=Ht c;have S:=ZeB c M;have F:=ZiG c M;have q:=G9 (UInt8.ofNat c) ((aH s).drop 1);rw[<-a5,show(UInt8.ofNat c).toNat=c from by exact fp,show((aH s).drop 1).length=s.size-1 from by rw[jt];rfl] at q;have G:=J (Zj6 c M);have z:=J (J7 (eJ c:Int) O O);rw[ek] at z;have a7:=ZkF (eJ c) a9;obtain⟨k,a4⟩:=ay (eJ c);rw[a4] at G S F q z a9 a7;obtain⟨a,a3⟩:=ay (c-(256-2 ^ (8-k)));rw[a3] at S F q;obtain⟨B,a2⟩:=ay (gq k);rw[a2] at z q a7;rw[<-Zr6] at S;have a8:=J q;have a0:=J F;have c7:a<256:=O;clear a5 b7 Q a4 a3 a2 q F;go_in;go_wp2;go_loop [6] (λi=>∃j:Nat,j<=k/\i=j) (λi=>(9-intOf i).toNat);exact CA;obtain⟨j,c3,rfl⟩:=hrel;by_cases b0:j<k;.have hb:=G.o j O c3;rw[<-Zq5,cT b0] at hb;go_wp2;exact Rb
 have b3:j=k:=O;subst b3;have b6:(j<8/\(bits .and .u8 (c:Int) (128/2 ^ j) !=0)=false)\/8<=j:=by by_cases E:j<8;have:=G.o j E aW;rw[<-Zq5,cG b0] at this;exact .inl ⟨E,this⟩;exact .inr O
 rcases b6 with ⟨E,hb⟩|E
 all_goals
  by_cases c8:s.size<j+1;.have u:=J (G6 (by rw[a8.o,aP O]));go_wp2;go_ret3;exact⟨DT u.o.symm,rfl⟩
  go_wp2;go_loop [7,8] (λn i=>∃m:Nat,1<=m/\m<=j+1/\i=m/\n=.int .u64 ((vl a (((aH s).drop 1).take (m-1)):Nat):Int)) (λ_ i=>(j+2-intOf i).toNat);exact⟨1,O,O,rfl,by simp[vl]⟩;obtain⟨m,b8,c4,rfl,rfl⟩:=hrel;have l:=Zrf (((aH s).drop 1).take (m-1)) a;by_cases c9:m<=j
  .have b9:m<s.size:=O;have I:=J (Z7Q a m s b8 b9);have g:(((aH s).drop 1).take (m-1)).length=m-1:=by rw[eC,jt,Z2];omega
   rw[g] at l;have a1:vl a (((aH s).drop 1).take (m-1))<72057594037927936:=by refine eD l (cp ?_ a0.o.2);exact EC _ (pT O O)
   obtain⟨y,a6⟩:=ay ((s[m]).toNat);have b1:y<256:=(by rw[<-a6];exact iA _);rw[a6] at I;obtain⟨v,t⟩:=ay (vl a (((aH s).drop 1).take (m-1)));rw[t] at I a1⊢;have b2:=J (Zn4 v y a1 b1);clear l g t;go_wp2;go_round;exact⟨m+1,O,O,ck,by rw[b2.o,vO,I.o]⟩;simp[intOf];omega
  have b4:m=j+1:=O;subst b4;rw[vO] at l⊢;have g:(((aH s).drop 1).take j).length=j:=by rw[eC,jt,Z2];omega
  rw[g] at l;have b5:=eD l a0.o.1;obtain⟨v,t⟩:=ay (vl a (((aH s).drop 1).take j));rw[t] at b5⊢;have p:=a8.o;rw[t,az O] at p;clear l g t;by_cases D:9223372036854775807<v+B;.rw[aP D] at p;have u:=J (G6 p);have c5:(9223372036854775807:Int)-B<(v:Int):=O;clear p D;go_wp2_with (go_at_call 74;refine(z.o _).mono ?_;rintro e w' ⟨rfl,rfl⟩);go_ret3;exact⟨DT u.o.symm,rfl⟩
  rw[az D] at p;have u:=J (N_ p);have c5:¬(9223372036854775807:Int)-B<(v:Int):=O;clear p D;go_wp2_with (go_at_call 74;refine(z.o _).mono ?_;rintro e w' ⟨rfl,rfl⟩);go_ret3;exact⟨DT (by rw[u.o];push_cast;rfl),rfl⟩
