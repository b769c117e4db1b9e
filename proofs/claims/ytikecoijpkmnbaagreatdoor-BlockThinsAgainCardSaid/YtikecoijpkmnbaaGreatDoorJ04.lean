import Derived.Test.YtikecoijpkmnbaaGreatDoorChecked
import Derived.Test.YtikecoijpkmnbaaGreatDoorJ02
import Derived.WalkSpells
import Derived.WalkLawsBesides
import Derived.Deep.QuietTactic
import Derived.BigQuiet
import Derived.Outline
set_option linter.all false
set_option maxRecDepth 100000
set_option maxHeartbeats 0
section
variable{P Q:Prop}
theorem ci(h:P:=by go_num):P:=h
theorem qD(h:P:=by kernel_rfl):P:=h
theorem Aq(h:P:=by decide+kernel):P:=h
theorem Cw(h:P:=by exact⟨0,by omega,rfl⟩):P:=h
theorem Cl(h:P:=by go_in;go_wp2;go_ret;exact⟨rfl,rfl⟩):P:=h
theorem P1(h:P:=by
 go_round;case rel=>exact⟨j+1,by omega,by go_num⟩
 simp[intOf];omega):P:=h
theorem PT(h:P:=by rw[ByteArray.toList_eq];have:s.data.toList.length=0:=h;rw[ia this];rfl):P:=h
theorem OV(h:P:=by
 rw[ByteArray.toList_eq];have:s.data.toList=s.size:=rfl;match t:s.data.toList with
 |[]=>rw[t] at this;simp at this;omega
 |_::_=>rfl):P:=h
end
namespace Go.Proofs.Y
open Tryz Wv Go.RowKit
theorem ZZ {k:IntKind} {a b:Int} (h:a=b):Ending.returned (.int k a)=.returned (.int k b):=rp
theorem Z4 {a b:Bool} (h:a=b):Ending.returned a=.returned b:=rp
theorem Bc {a b:aT} (h:a=b):Ending.returned a=.returned b:=rp
theorem J1 (k:Int) (h0:0<=k) (l:k<=8) (w:aq):
  Calls prog 86 #[k] w λe w'=>e=.returned ((gi k.toNat:Nat):Int)/\w=w':=by
 obtain⟨k,rfl⟩:=Int.eq_ofNat_of_zero_le h0;rw[ep];have q:=J QV;go_in;go_wp2;go_loop [3,4] (λb i=>∃j:Nat,j<=k/\i=((j:Int)+1:Int)/\b=.int .i64 (gi j:Nat)) (λ_ i=>k+1-(intOf i).toNat);exact⟨0,cf _,rfl,rfl⟩;obtain⟨j,p,rfl,rfl⟩:=hrel;by_cases ab:j<k
 .have hb:=Zky j O;have g:j=0\/j=1\/j=2\/j=3\/j=4\/j=5\/j=6\/j=7:=O;rcases g with rfl|rfl|rfl|rfl|rfl|rfl|rfl|rfl
  all_goals
   go_wp2;go_round;exact⟨_,ab,by rfl,by rfl⟩;simp[intOf];omega
 go_wp2;go_ret;exact⟨ZZ (by rw[show k=j from by exact O]),rfl⟩
theorem ZjU (n:Int) (h0:0<=n) (u:n<=9223372036854775807) (w:aq):
  Calls prog 85 #[n] w λe w'=>e=.returned ((ee n.toNat:Int)+1:Int)/\w=w':=by
 obtain⟨n,rfl⟩:=Int.eq_ofNat_of_zero_le h0;rw[ep];have y:=Yf n;have H:=J J1;go_in;go_wp2;go_loop [3] (λk=>∃j:Nat,j<=ee n/\k=j) (λk=>9-(intOf k).toNat);exact⟨0,cf _,rfl⟩;obtain⟨j,t,rfl⟩:=hrel;by_cases q:j<8
 .have g:=ZiS n j q t;have hb:=H.o ((j:Int)+1) O O w;rw[show(((j:Int)+1).toNat)=j+1 from by exact O] at hb;have p:=J hb;by_cases ab:j<ee n;.have l:gi (j+1)<=n:=g.2 ab;clear g hb;go_wp2_with (go_at_call 86;refine(p.o).mono ?_;rintro e w' ⟨rfl,rfl⟩);exact P1
  have l:¬gi (j+1)<=n:=λh=>ab (g.1 h);clear g hb;go_wp2_with (go_at_call 86;refine(p.o).mono ?_;rintro e w' ⟨rfl,rfl⟩);go_ret;exact⟨ZZ O,rfl⟩
 go_wp2;go_ret;exact⟨ZZ O,rfl⟩
theorem Zqf:(prog.info? 5).map (λi=>(i.zero,i.size,i.bytes))=some (some (.int .u8 0),1,1):=qD
theorem ZdX:∀k:Nat,k<9->∀r:Nat,r<128->(k<=7->r<2 ^ (7-k))->(k=8->r=0)->bits .or .u8 (((65280/2 ^ k % 256:Nat):Int)) (r:Int)=((256-2 ^ (8-k)+r:Nat):Int):=Aq
theorem Zny (k:Nat):(65280:Int)/2 ^ k % 256=((65280/2 ^ k % 256:Nat):Int):=by rw[Int.natCast_emod,Int.natCast_ediv,Int.natCast_pow];rfl
theorem Zor (k j r:Nat) (p:0<j) (q:j<=k):(List.replicate (j+1) (0:cj)++be (k-j) r).set j (UInt8.ofNat (r/256 ^ (k-j) % 256))=List.replicate (j-1+1) 0++be (k-(j-1)) r:=by
 have h1:k-(j-1)=k-j+1:=O;have g:UInt8.ofNat (r/256 ^ (k-j) % 256)=UInt8.ofNat (r/256 ^ (k-j)):=by apply UInt8.toNat_inj.1;simp
 rw[h1,g];have l:List.replicate (j+1) (0:cj)++be (k-j) r=List.replicate j 0++(0::be (k-j) r):=(by rw[List.replicate_succ'];simp);rw[l,nj _ _ (by simp),show j-1+1=j from by exact O];simp[be]
theorem Zik (r m:Nat):r/256 ^ m/256=r/256 ^ (m+1):=by rw[Nat.div_div_eq_div_mul,rn]
theorem Zj (n:Int) (h0:0<=n) (a5:n<=9223372036854775807) (w:aq):
  Calls prog 47 #[n] w (bM w (bs (bi n.toNat))):=by
 obtain⟨n,rfl⟩:=Int.eq_ofNat_of_zero_le h0;rw[ep];obtain⟨k,D⟩:=ay (ee n);have b1:=Yf n;have Q:=Wx n;have g:=j_ n O;have F:=J (ZjU (n:Int) O a5);have z:=J (J1 (k:Int) O O);rw[ep,D] at F;rw[ep] at z;rw[D] at b1 Q g;obtain⟨b,hb⟩:=ay (gi k);rw[hb] at z Q g;obtain⟨r,S⟩:=ay (n-b);rw[S] at g;have u:Hid (bi n=UInt8.ofNat (256-2 ^ (8-k)+r/256 ^ k)::be k r):=J (by unfold bi;rw[D,hb,S]);have i1:(n:Int)-b=(r:Int):=O;have b4:=J g;have a0:r<=9223372036854775807:=O;have I:=Y5 (P:=prog) 110 5 _ _ underlying110 Zqf rfl ((k:Int)+1) (k+1) rfl O O;rw[Z64] at I;go_in;go_wp21;refine cp (F.o _) ?_;go_wp21;refine cp (z.o _) ?_;go_wp2;go_loopw [4,6] (λx i wr=>∃j:Nat,j<=k/\i=j/\x=.int .i64 ((r/256 ^ (k-j):Nat):Int)/\Bk wr w 5 (bc (List.replicate (j+1) 0++be (k-j) r))/\Below w w wr) (λ_ i _=>(intOf i).toNat);exact⟨k,aU,rfl,by simp,by rw[fh];simpa [be] using Bk.new w 5 (bc (List.replicate (k+1) 0)),(bf _ _).alloc aU _⟩;obtain⟨j,b0,rfl,rfl,l,R⟩:=hrel;have q:(List.replicate (j+1) (0:cj)++be (k-j) r).length=k+1:=(by rw[Vab,iE,Ye];omega);have a4:r/256 ^ (k-j)<=r:=IE _ _;by_cases ab:0<j
 .obtain⟨x,t⟩:=ay (r/256 ^ (k-j));have G:=J (Zor k j r ab b0);have E:=J (Zik r (k-j));obtain⟨b5,a6⟩:∃y:Int,wr.cell? (w,j)=some (.int .u8 y):=⟨_,by rw[l.cell,LX _ _ O]⟩;have b3:=l.frozen j;have b2:(j:Int)<k+1:=O;have a1:x<=9223372036854775807:=O;rw[t] at G E⊢;have a8:=J l;go_wp2;go_roundw;.refine⟨j-1,O,by congr 1;omega,?_,?_,R.setCell (p:=⟨w,j,none⟩) aU _⟩;rw[show k-(j-1)=k-j+1 from by exact O,<-E.o];congr 1;have:=a8.o.put j (.int .u8 ((x:Int) % 256));rw[P7 _ _ _ O O] at this;rw[<-G.o];have e:((x:Int) % 256).toNat=x % 256:=O;rw[e] at this;exact this
  simp[intOf];omega
 have a9:j=0:=O;subst a9;rw[Nat.sub_zero] at l⊢q;obtain⟨x,t⟩:=ay (r/256 ^ k);have g:=b4.o;rw[t] at g;have a3:x<128:=Vas g.1 (pQ O (show 7-k<=7 by omega));have GA:=ZdX k O x a3 (λ_=>g.1) g.2;have M:=Zny k;have b6:(x:Int) % 256=(x:Int):=O;rw[<-M] at GA;have a7:256-2 ^ (8-k)+x<256:=(Ti k x O g.1 g.2).1;rw[t] at u⊢;obtain⟨y,a2⟩:=ay (256-2 ^ (8-k)+x);rw[a2] at u GA a7;obtain⟨b5,a6⟩:∃y:Int,wr.cell? ⟨w,0,none⟩=some (.int .u8 y):=⟨_,by rw[l.cell,LX _ _ O]⟩;have b3:=l.frozen 0;have B:=l.put 0 (.int .u8 (y:Int));rw[P7 _ _ _ O O,ep] at B;have b7:=Zi3 (P:=prog) 110 9 5 underlying110 underlying5 underlying9 _ w (k+1) (k+1) (bi n) [] (by rw[fg,u.o];exact B) (by rw[u.o];simp[Ye]);have b2:(0:Int)<k+1:=O;clear t l a4 q I B a2 g M;go_wp2;go_ret;exact⟨rfl,R.setCell (p:=⟨w,0,none⟩) aU _⟩
variable{b e:Nat}{s:aT}{w:aq}
theorem rK (n:Nat):(bi n).length<=9:=by rw[Yq6];have:=Yf n;omega
theorem X1 (s:aT) (l:s.size<=1099511627776) (w:aq):
  Calls prog 75 #[s] w (bM w (bs (text s))):=by have H:=Zj (s.size:Int) O O w;rw[ep] at H;have g:=rK s.size;have k:=J (show bs (bi s.size)++s=bs (text s) from by rw[<-Zc s,Z9];rfl);rw[<-Z0] at g;generalize bs (bi s.size)=t at*;have H:=J H;go_in;go_wp21;refine aP H.o λw1 hb=>?_;go_wp2;go_ret;exact⟨Bc k.o,hb⟩
def RV (w:aq) (b:Nat) (s:aT) (e:Nat):Prop:=Bk w b 164 #[s,e]
theorem RV.c0 (h:RV w b s e):w.cell? (b,0)=s:=Bk.cell h 0
theorem RV.c1 (h:RV w b s e):w.cell? (b,1)=e:=Bk.cell h 1
theorem RV.f0 (h:RV w b s e):w.frozen? (b,0)=false:=Bk.frozen h 0
theorem RV.f1 (h:RV w b s e):w.frozen? (b,1)=false:=Bk.frozen h 1
theorem ZT (s:aT) (w:aq):
  Calls prog 54 #[s] w λe w'=>e=.returned (w,0)/\RV w' w s 0/\Below w w w':=by go_in;go_wp2;go_ret;exact⟨rfl,Bk.new _ _ _,(bf _ _).alloc aU _⟩
theorem QS (h:RV w b s e) (n:Nat):
  Calls prog 95 #[(b,0),n] w λe w'=>e=.returned (.tuple #[])/\RV w' b s n/\Fr (only b) w w':=by have h1:=h.c1;have f1:=h.f1;go_in;go_wp2;go_end0;exact⟨rfl,by simpa [RV] using Bk.put h 1 n,(Fr.refl (only b) _).setCell (p:=⟨b,1,none⟩) (.inl rfl) _⟩
theorem Ze (h:RV w b s e):
  Calls prog 56 #[(b,0)] w λx w'=>x=.returned e/\w=w':=by have h1:=h.c1;exact Cl
theorem ZA (h:RV w b s e) (g:s.size<=9223372036854775807):
  Calls prog 90 #[(b,0)] w λx w'=>x=.returned s.size/\w=w':=by have h1:=h.c0;exact Cl
theorem ZiU:∀c:Nat,c<256->∀j:Nat,j<8->j<=eD c->(bits .and .u8 (c:Int) (((128/2 ^ j:Nat):Int)) !=0)=decide (j<eD c):=Aq
theorem Zet:∀c:Nat,c<256->bits .and .u8 (c:Int) (((127/2 ^ eD c:Nat):Int))=((c-(256-2 ^ (8-eD c)):Nat):Int):=Aq
theorem ZpY (k:Nat):(128:Int)/2 ^ k=((128/2 ^ k:Nat):Int):=by rw[Int.natCast_ediv,Int.natCast_pow];rfl
theorem ZqY (k:Nat):(127:Int)/2 ^ k=((127/2 ^ k:Nat):Int):=by rw[Int.natCast_ediv,Int.natCast_pow];rfl
theorem ZmY (n b:Nat) (g:n<72057594037927936) (hb:b<256):bits .or .u64 ((n:Int)*256) (b:Int)=((256*n+b:Nat):Int):=by rw[show(n:Int)*256=((256*n:Nat):Int) from by rw[vJ,Int.mul_comm];rfl,u64_or_nat _ _ O O,nat_join 8 _ _ O O]
theorem Zr7 (l:ax):∀a,vl a l<(a+1)*256 ^ l.length:=by
 induction l with
 |nil=>intro a;simp[vl]
 |cons b t ih=>intro a;have h:=ih (256*a+b.toNat);have hb:=iq b;rw[gd,rn];refine Vas h ?_;have h1:256*a+b.toNat+1<=(a+1)*256:=O;have:=Ad (256 ^ t.length) h1;rw[tP (256 ^ t.length) 256,<-Cb];exact this
theorem Zix (c:Nat) (k:c<256):(c-(256-2 ^ (8-eD c))+1)*256 ^ eD c<=18446744073709551616/\(c-(256-2 ^ (8-eD c))+1)*256 ^ (eD c-1)<=72057594037927936:=by have h:=FX c;have g:=Hg c;rcases nine (eD c) g with e|e|e|e|e|e|e|e|e<;>rw[e] at h⊢<;>simp only[Nat.reducePow,Nat.reduceSub]<;>omega
theorem HX (h:s.size=0):s.toList.isEmpty=true:=PT
theorem HW (h:0<s.size):s.toList.isEmpty=false:=OV
theorem Zjm (h:RV w b s e) (g:s.size=0):
  Calls prog 138 #[(b,0)] w λx w'=>x=.returned (.tuple #[(0:Int),(0:Int),false])/\w=w':=by have h1:=h.c0;have k:=HX g;go_in;go_wp2;go_ret3;exact⟨rfl,rfl⟩
structure Fst (s:ByteArray) (c k:Nat):Prop where
 pos:0<s.size
 get:∀h:0<s.size,(s[0]'h).toNat=c
 lt:c<256
 eD:eD c=k
theorem Zp5 (h:0<s.size):∃c,Fst s c (eD c)/\c=(s[0]).toNat/\aH s=UInt8.ofNat c::(aH s).drop 1:=by refine⟨(s[0]).toNat,⟨h,λ_=>rfl,iq _,rfl⟩,rfl,?_⟩;have h1:0<(aH s).length:=h;have g:aH s=(aH s)[0]::(aH s).drop 1:=(by rw[<-kw h1,Ch]);have k:(aH s)[0]=s[0]:=(by simp[aH];rfl);rw[k] at g;rw[UInt8.ofNat_toNat];exact g
theorem Z7J (a m:Nat) (s:aT) (h1:1<=m) (h:m<s.size):vl a (((aH s).drop 1).take m)=256*vl a (((aH s).drop 1).take (m-1))+(s[m]).toNat:=by
 have l:m<(aH s):=h;obtain⟨j,rfl⟩:∃j,m=j+1:=⟨m-1,O⟩;have g:j<((aH s).drop 1).length:=(by rw[iW];omega);rw[dK g,vI];have k:((aH s).drop 1)[j]=s[j+1]:=by rw[Iz];simp only[aH,IH 1 j];rw[Array.getElem_toList];rfl
 rw[k];simp only[vl,rk,List.foldl_cons,List.foldl_nil];rfl
def pk (s:aT):aI:=match gP (aH s) with
 |none=>.tuple #[(0:Int),(0:Int),false]
 |some x=>.tuple #[x.1,x.2,true]
theorem Hp (h:gP (aH s)=none):pk s=.tuple #[(0:Int),(0:Int),false]:=by unfold pk;rw[h]
theorem n_ {n z:Nat} (h:gP (aH s)=some (n,z)):pk s=.tuple #[n,z,true]:=by unfold pk;rw[h]
theorem DJ {a b:aI} (h:a=b):Ending.returned a=.returned b:=rp
theorem Zf7 (h:RV w b s e) (R:0<s.size) (d2:s.size<=1099511627776):
  Calls prog 138 #[(b,0)] w λx w'=>x=.returned (pk s)/\w=w':=by
 obtain⟨c,Q,b7,a5⟩:=Zp5 R;have h1:=h.c0;have c6:=HW R;have d1:=Q.get R;have M:=Q.lt;have a9:=Hg c;have S:=Zet c M;have F:=Zix c M;have q:=GQ (UInt8.ofNat c) ((aH s).drop 1);rw[<-a5,show(UInt8.ofNat c).toNat=c from by exact fj,show((aH s).drop 1).length=s.size-1 from by rw[iW];rfl] at q;have G:=J (ZiU c M);have z:=J (J1 (eD c:Int) O O);rw[ep] at z;have a7:=Zky (eD c) a9;obtain⟨k,a4⟩:=ay (eD c);rw[a4] at G S F q z a9 a7;obtain⟨a,a3⟩:=ay (c-(256-2 ^ (8-k)));rw[a3] at S F q;obtain⟨B,a2⟩:=ay (gi k);rw[a2] at z q a7;rw[<-ZqY] at S;have a8:=J q;have a0:=J F;have c7:a<256:=O;clear a5 b7 Q a4 a3 a2 q F;go_in;go_wp2;go_loop [6] (λi=>∃j:Nat,j<=k/\i=j) (λi=>(9-intOf i).toNat);exact Cw;obtain⟨j,b9,rfl⟩:=hrel;by_cases b0:j<k;.have hb:=G.o j O b9;rw[<-ZpY,dd b0] at hb;go_wp2;exact P1
 have b4:j=k:=O;subst b4;have b6:(j<8/\(bits .and .u8 (c:Int) (128/2 ^ j) !=0)=false)\/8<=j:=by by_cases E:j<8;have:=G.o j E aU;rw[<-ZpY,Vai b0] at this;exact .inl ⟨E,this⟩;exact .inr O
 rcases b6 with ⟨E,hb⟩|E
 all_goals
  by_cases c8:s.size<j+1;.have u:=J (Hp (by rw[a8.o,Vag O]));go_wp2;go_ret3;exact⟨DJ u.o.symm,rfl⟩
  go_wp2;go_loop [7,8] (λn i=>∃m:Nat,1<=m/\m<=j+1/\i=m/\n=.int .u64 ((vl a (((aH s).drop 1).take (m-1)):Nat):Int)) (λ_ i=>(j+2-intOf i).toNat);exact⟨1,O,O,rfl,by simp[vl]⟩;obtain⟨m,b8,c3,rfl,rfl⟩:=hrel;have l:=Zr7 (((aH s).drop 1).take (m-1)) a;by_cases c9:m<=j
  .have c5:m<s.size:=O;have I:=J (Z7J a m s b8 c5);have g:(((aH s).drop 1).take (m-1)).length=m-1:=by rw[ek,iW,Z2];omega
   rw[g] at l;have a1:vl a (((aH s).drop 1).take (m-1))<72057594037927936:=by refine Vas l (co ?_ a0.o.2);exact Ev _ (pQ O O)
   obtain⟨y,a6⟩:=ay ((s[m]).toNat);have b1:y<256:=(by rw[<-a6];exact iq _);rw[a6] at I;obtain⟨v,t⟩:=ay (vl a (((aH s).drop 1).take (m-1)));rw[t] at I a1⊢;have b2:=J (ZmY v y a1 b1);clear l g t;go_wp2;go_round;exact⟨m+1,O,O,ci,by rw[b2.o,vI,I.o]⟩;simp[intOf];omega
  have b3:m=j+1:=O;subst b3;rw[vI] at l⊢;have g:(((aH s).drop 1).take j).length=j:=by rw[ek,iW,Z2];omega
  rw[g] at l;have b5:=Vas l a0.o.1;obtain⟨v,t⟩:=ay (vl a (((aH s).drop 1).take j));rw[t] at b5⊢;have p:=a8.o;rw[t,Vae O] at p;clear l g t;by_cases D:9223372036854775807<v+B;.rw[Vag D] at p;have u:=J (Hp p);have c4:(9223372036854775807:Int)-B<(v:Int):=O;clear p D;go_wp2_with (go_at_call 86;refine(z.o _).mono ?_;rintro e w' ⟨rfl,rfl⟩);go_ret3;exact⟨DJ u.o.symm,rfl⟩
  rw[Vae D] at p;have u:=J (n_ p);have c4:¬(9223372036854775807:Int)-B<(v:Int):=O;clear p D;go_wp2_with (go_at_call 86;refine(z.o _).mono ?_;rintro e w' ⟨rfl,rfl⟩);go_ret3;exact⟨DJ (by rw[u.o];push_cast;rfl),rfl⟩
