import Derived.Test.YtnjkjoklnephcaaGreatDoorJ09
import Derived.Test.YtnjkjoklnephcaaGreatDoorJ10
import Derived.Test.YtnjkjoklnephcaaGreatDoorJ11
import Derived.Test.YtnjkjoklnephcaaGreatDoorRows
import Derived.Lay
import Derived.LaidMore
import Derived.Lib.LaidTab
set_option linter.all false
set_option maxRecDepth 100000
set_option maxHeartbeats 0
open Go.Proofs.Tryz (prog results88)
section
variable{P Q:Prop}
theorem CG(h:P:=by rw[Z0];omega):P:=h
theorem Fo(h:P:=by unfold ZN;grind):P:=h
theorem Fw(h:P:=by unfold dF;simp;omega):P:=h
theorem E5(h:P:=by rw[UInt8.toNat_ofNat'];omega):P:=h
theorem Jf(h:P:=by have:(fx dv s (aH v)&&kC dv st vs)=true:=h;grind):P:=h
theorem PR(h:P:=by unfold Zb;rw[aP rfl,az (by omega),aP (by rw[Z0];omega)]):P:=h
theorem Cn(h:P:=by simp[results,results88,go_sem,u,z1,z2,z3,F,M,a0];try rfl):P:=h
theorem PA(h:P:=by unfold Zb;rw[aP rfl,az (by omega),az (by rw[Z0];omega),ek,Zk]):P:=h
theorem N6(h:P:=by
 have l:Hid (dF (0,wd)=false):=J (by unfold dF;simp;omega);go_wp2;go_region
 all_goals
  go_wp2_with ((with_reducible show bodyPost _ _ _ _ _ _);refine bodyPost_ret (v:=.tuple #[.agg #[(1:Int),(128:Int),(.func (.func 173) #[] #[]),(.func (.func 174) #[] #[]),(.func (.func 175) #[] #[]),(.func (.func 176) #[] #[]),(.string ⟨#[98]⟩)],false]) (by simp[results,results88,go_sem,u,z1,z2,z3,F,M,a0];try rfl) rfl ?_;exact⟨_,E.o _ l.o _ g.o a2.o⟩)):P:=h
theorem N2(h:P:=by
 have l:Hid (dF (3,wd)=false):=J (by unfold dF;simp;omega);go_wp2;go_region
 all_goals
  go_wp2_with ((with_reducible show bodyPost _ _ _ _ _ _);refine bodyPost_ret (v:=.tuple #[.agg #[(0:Int),(0:Int),(.func (.func 187) #[] #[]),(.func (.func 223) #[] #[.pointer (some ⟨b3,0,none⟩)]),(.func (.func 188) #[] #[]),(.func (.func 189) #[] #[]),(.string ⟨#[]⟩)],false]) (by simp[results,results88,go_sem,u,z1,z2,z3,F,M,a0];try rfl) rfl ?_;exact⟨_,E.o _ l.o _ g.o a2.o⟩)):P:=h
theorem N0(h:P:=by
 have l:Hid (dF (1,wd)=false):=J (by unfold dF;simp;omega);go_wp2;go_region
 all_goals
  go_wp2_with ((with_reducible show bodyPost _ _ _ _ _ _);refine bodyPost_ret (v:=.tuple #[.agg #[(0:Int),(0:Int),(.func (.func 177) #[] #[]),(.func (.func 223) #[] #[.pointer (some ⟨b1,0,none⟩)]),(.func (.func 180) #[] #[]),(.func (.func 182) #[] #[]),(.string ⟨#[114]⟩)],false]) (by simp[results,results88,go_sem,u,z1,z2,z3,F,M,a0];try rfl) rfl ?_;exact⟨_,E.o _ l.o _ g.o a2.o⟩)):P:=h
theorem N1(h:P:=by
 have l:Hid (dF (2,wd)=false):=J (by unfold dF;simp;omega);go_wp2;go_region
 all_goals
  go_wp2_with ((with_reducible show bodyPost _ _ _ _ _ _);refine bodyPost_ret (v:=.tuple #[.agg #[(0:Int),(0:Int),(.func (.func 183) #[] #[]),(.func (.func 223) #[] #[.pointer (some ⟨k,0,none⟩)]),(.func (.func 184) #[] #[]),(.func (.func 186) #[] #[]),(.string ⟨#[115]⟩)],false]) (by simp[results,results88,go_sem,u,z1,z2,z3,F,M,a0];try rfl) rfl ?_;exact⟨_,E.o _ l.o _ g.o a2.o⟩)):P:=h
end
namespace Wv
section
variable{c:ax}{k n r:Nat}
def xR (r:Nat):Nat:=(r/2) ^^^ (if r % 2=1 then 3988292384 else 0)
def wF:Nat->Nat->Nat
 |0,r=>r
 |k+1,r=>xR (wF k r)
def BC (r:Nat):ax->Nat
 |[]=>r
 |b::l=>BC (wF 8 (r ^^^ b.toNat)) l
def qW (l:ax):Nat:=4294967295-BC 4294967295 l
theorem ZkN (h:r<2 ^ 32):xR r<2 ^ 32:=by refine Nat.xor_lt_two_pow O ?_;grind
theorem Zm0 (h:r<2 ^ 32) (k:Nat):wF k r<2 ^ 32:=by
 induction k with
 |zero=>exact h
 |succ k ih=>exact ZkN ih
theorem Zie (l:ax) (b:ci):∀r,BC r (l++[b])=wF 8 (BC r l ^^^ b.toNat):=by
 induction l with
 |nil=>intro r;rfl
 |cons a l ih=>intro r;exact ih _
theorem LF (l:ax):qW l<4294967296:=by unfold qW;omega
def zI (n:Nat):ax:=[UInt8.ofNat n,UInt8.ofNat (n/256),UInt8.ofNat (n/65536),UInt8.ofNat (n/16777216)]
def qa (s:ax):ax:=s++zI (qW s)
def wA (s:ax):Nat:=(s.getD (s.length-4) 0).toNat+256*(s.getD (s.length-3) 0).toNat+65536*(s.getD (s.length-2) 0).toNat+16777216*(s.getD (s.length-1) 0).toNat
def qO (s:ax):Bool:=decide (4<=s.length)&&decide (qW (s.take (s.length-4))=wA s)
theorem ZmN (h:n<4294967296):(UInt8.ofNat n).toNat+256*(UInt8.ofNat (n/256)).toNat+65536*(UInt8.ofNat (n/65536)).toNat+16777216*(UInt8.ofNat (n/16777216)).toNat=n:=by simp only[UInt8.toNat_ofNat'];omega
theorem Z8R (s:ax):qO (qa s)=true:=by
 have k:(qa s)=s.length+4:=(by simp[qa,zI]);unfold qO;rw[gm,fE,fE,k];refine⟨O,?_⟩;have h1:(qa s).take (s.length+4-4)=s:=by exact List.take_left
 rw[h1];unfold wA;rw[k];have g:∀i,i<4->(qa s).getD (s.length+i) 0=(zI (qW s)).getD i 0:=λi hi=>by unfold qa;grind
 rw[show s.length+4-4=s.length+0 by omega,show s.length+4-3=s.length+1 by omega,show s.length+4-2=s.length+2 by omega,show s.length+4-1=s.length+3 by omega,g 0 O,g 1 O,g 2 O,g 3 O];exact(ZmN (LF s)).symm
theorem Zg9 (s:ax):(qa s)=s.length+4:=by simp[qa,zI]
def Qy (k:Nat) (c t:ax):Nat:=if t.length<c then k+16 else k
def ZN (c t:ax):ax:=if t.length<c then t else c
def vv (k:Nat) (c t:ax):ax:=qa (165::UInt8.ofNat (Qy k c t)::(bj (ZN c t).length++ZN c t))
def Zp (k:Nat) (c:ax):Option ax:=(lx c).map (vv k c)
def uu (b:Nat) (g:ax):Option ax:=if 16<=b then(if(qm g 4096).2=0 then some (qm g 4096).1 else none) else some g
def ZJ (data:ax):Option (Nat×ax×Nat):=match data with
 |a::b::r=>if a≠165\/32<=b.toNat then none else match fs r 4096 with
  |none=>none
  |some (g,r2)=>if r2.length<4 then none else if qO (data.take (data.length-(r2.length-4)))=false then none else
   match uu b.toNat g with
   |none=>none
   |some c=>if Zp (b.toNat % 16) c=some (data.take (data.length-(r2.length-4))) then some (b.toNat % 16,c,data.length-(r2.length-4)) else none
 |_=>none
theorem QV (k:Nat) (c t:ax):(vv k c t)=(bj (ZN c t)).length+(ZN c t).length+6:=by unfold vv;rw[Zg9];grind
theorem JE (E:k<16) {w:ax} (h:Zp k c=some w) (rest:ax):ZJ (w++rest)=some (k,c,w.length):=by
 have h0:=h;unfold Zp at h;rcases l:lx c with _|t;exact aI;rw[l] at h;injection h with h;have D:=Db l;have hb:(ZN c t).length<=4096:=Fo;have p:w=165::UInt8.ofNat (Qy k c t)::(bj (ZN c t).length++ZN c t++zI (qW (165::UInt8.ofNat (Qy k c t)::(bj (ZN c t).length++ZN c t)))):=by rw[<-h];unfold vv qa;simp
 obtain⟨q,z⟩:=ay (zI (qW (165::UInt8.ofNat (Qy k c t)::(bj (ZN c t).length++ZN c t))));have u:q.length=4:=(by rw[<-z];rfl);rw[z] at p;have B:(UInt8.ofNat (Qy k c t)).toNat=Qy k c t:=by rw[UInt8.toNat_ofNat'];unfold Qy;split<;>omega
 have hd:w++rest=165::UInt8.ofNat (Qy k c t)::(bj (ZN c t).length++(ZN c t++(q++rest))):=(by rw[p];simp);have IN:w.length=2+(bj (ZN c t)).length+(ZN c t).length+4:=(by rw[p];simp[u];omega);have F:qO w=true:=(by rw[<-h];exact Z8R _);have G:uu (Qy k c t) (ZN c t)=some c:=by unfold uu Qy ZN;by_cases g:t<c.length;rw[aP g,aP g,aP O,ZqR l 4096 O,aP rfl];rw[az g,az g,az O]
 have y:Qy k c t % 16=k:=(by unfold Qy;split<;>omega);have hsize:(w++rest).length-((q++rest).length-4)=w:=(by rw[bT,bT,u];omega);rw[hd];unfold ZJ;simp only;rw[az (by rw[B];unfold Qy;rintro(h1|h1);exact h1 rfl;split at h1<;>omega),Yo _ _ hb O];grind
theorem XZ {data:ax} (h:ZJ data=some (k,c,n)):Zp k c=some (data.take n)/\k<16/\n<=data:=by unfold ZJ at h;grind
theorem YF :(Zp k c).isSome=decide (c.length<=4096):=by unfold Zp lx;grind
end
theorem Le (l:ax):∀a,vl a l=a*256 ^ l.length+vl 0 l:=by
 induction l with
 |nil=>simp[vl]
 |cons b r ih=>have e:∀x,vl x (b::r)=vl (256*x+b.toNat) r:=λx=>rfl;grind
theorem Zll (l:ax):vl 0 l<256 ^ l.length:=by
 induction l with
 |nil=>simp[vl]
 |cons b r ih=>have e:vl 0 (b::r)=vl (256*0+b.toNat) r:=rfl;rw[e,Le,f',rq,Nat.mul_zero,jW];have hb:=b.toNat_lt;have:b.toNat*256 ^ r.length<=255*256 ^ r.length:=Ah _ O;omega
theorem ZqC (l:ax):∀a,be l (vl a l)=l:=by
 induction l with
 |nil=>intro a;rfl
 |cons b r ih=>intro a;show UInt8.ofNat (vl (256*a+b.toNat) r/256 ^ r.length)::be r (vl (256*a+b.toNat) r)=_;rw[ih];congr 1;rw[Le,tQ,Nat.mul_add_div (Nat.pow_pos O),Nat.div_eq_of_lt (Zll r)];apply UInt8.toNat_inj.1;have hb:=b.toNat_lt;exact E5
theorem Zj7 (c:Nat) (k:c<256):256-2 ^ (8-eJ c)<=c/\c-(256-2 ^ (8-eJ c))<2 ^ (7-eJ c)/\(eJ c=8->c=255):=by have h:=Ge c;rcases h with ⟨h,h1,g⟩|⟨h,h1,g⟩|⟨h,h1,g⟩|⟨h,h1,g⟩|⟨h,h1,g⟩|⟨h,h1,g⟩|⟨h,h1,g⟩|⟨h,h1,g⟩|⟨h,h1⟩<;>rw[h]<;>simp only[Nat.reducePow,Nat.reduceSub]<;>omega
theorem Zpt {n k:Nat} (l:k<=8) (h1:gq k<=n) (g:k<8->n<gq (k+1)):ed n=k:=by have h:=Da n;have hb:=QW;rcases nine k l with rfl|rfl|rfl|rfl|rfl|rfl|rfl|rfl|rfl<;>simp only[Nat.reduceAdd,Nat.reduceLT,forall_const] at g<;>omega
theorem WK {s:ax} {n z:Nat} (h:hG s=some (n,z)):s=bj n++s.drop z:=by
 rcases s with _|⟨c,t⟩;cases h;rw[G9] at h;split at h;exact aI;rename_i hl;split at h;exact aI;injection h with h;injection h with h1 h2;have hc:=c.toNat_lt;obtain⟨a1,a2,a3⟩:=Zj7 c.toNat O;have hk:=Ht c.toNat;obtain⟨k,qq⟩:=ay (eJ c.toNat);rw[qq] at hl h1 h2 a1 a2 a3 hk;obtain⟨l,fI⟩:=ay (t.take k);have hlen:l=k:=aI;rw[fI] at h1;obtain⟨a,ha⟩:=ay (c.toNat-(256-2 ^ (8-k)));rw[ha] at h1 a2;have hv:=Le l a;have ab:=Zll l;rw[hlen] at hv ab
 have Rf:ed n=k:=by
  refine Zpt hk O (λh8=> ?_);have e:gq (k+1)=gq k+2 ^ (7*(k+1)):=rfl;rw[e];have hp:2 ^ (7*(k+1))=2 ^ (7-k)*256 ^ k:=by rw[show(256:Nat)=2 ^ 8 from rfl,<-Nat.pow_mul,<-Nat.pow_add];grind
  have hm:(a+1)*256 ^ k<=2 ^ (7-k)*256 ^ k:=Ah _ a2;grind
 have oO:n-gq k=vl a l:=O;have hdiv:vl a l/256 ^ k=a:=by rw[hv,tQ,Nat.mul_add_div (Nat.pow_pos O),Nat.div_eq_of_lt ab];omega
 unfold bj;rw[Rf,oO,hdiv,<-hlen,ZqC,hlen];have iH:UInt8.ofNat (256-2 ^ (8-k)+a)=c:=by rw[show 256-2 ^ (8-k)+a=c.toNat by omega];exact UInt8.ofNat_toNat
 rw[iH,<-h2,ju,List.drop_succ_cons,<-fI,sT]
section
variable{most:Nat}{r s:ax}
theorem Zcd {n:Nat} (h:dI s most=some (n,r)):s=bj n++r/\n<=most:=by unfold dI at h;split at h;exact aI;rename_i hr;split at h;exact aI;injection h with h;injection h with h1 h2;subst h1;rw[<-h2];exact⟨WK hr,O⟩
theorem Z93 {a:ax} (h:fs s most=some (a,r)):s=bj a.length++(a++r)/\a<=most:=by unfold fs at h;split at h;exact aI;rename_i n t hr;split at h;exact aI;injection h with h;injection h with h1 h2;obtain⟨c1,c2⟩:=Zcd hr;have hlen:a=n:=aI;rw[hlen,<-h1,<-h2,sT];grind
end
section
variable{d data r v:ax}{n:Nat}{s:Int×Int}{st:List (Int×Int)}{vs:bd}
theorem MF (x y:ci) (h:∀i,i<8->x.toNat.testBit i=y.toNat.testBit i):x=y:=by apply UInt8.toNat_inj.1;apply Nat.eq_of_testBit_eq;intro i;rcases Nat.lt_or_ge i 8 with h1|h1;exact aI;have g:=iA x;have k:=iA y;have l:256<=2 ^ i:=cp aZ (pT (show 0<2 by omega) h1);rw[Nat.testBit_lt_two_pow O,Nat.testBit_lt_two_pow O]
theorem ZoN (s t:aS) (g:s.size=t.size) (h:∀i,i<8*s.size->jD s i=jD t i):s=t:=by apply xc;apply Array.ext g;intro j h1 k;apply MF;intro i hi;have:=h (8*j+(7-i)) (by have:j<s.size:=h1;omega);unfold jD at this;rw[show(8*j+(7-i))/8=j from by exact O,show 7-(8*j+(7-i)) % 8=i from by exact O] at this;grind
def ki (v:ax):List Bool:=v.map (λc=>decide (cd c % 2=1))
def kh (v:ax):List Bool:=v.map (λc=>decide (2<=cd c))
def lJ (a b:List Bool):ax:=List.zipWith (λx y=>ch (x.toNat+2*y.toNat)) a b
def uo (d:ax) (n:Nat):Bool:=(List.range (8*d.length)).all (λi=>decide (i<n)|| !jD (bs d) i)
theorem Kq :uo d n=true↔∀i,n<=i->i<8*d.length->jD (bs d) i=false:=by unfold uo;grind
def re (d:ax) (n:Nat):Option (List Bool):=if n<=8*d.length/\uo d n=true then some (dY (bs d) n) else none
theorem XJ (l:List Bool) (i:Nat) (h:i<8*(cy l).length):jD (bs (cy l)) i=l.getD i false:=rbit_pack l i h
theorem Wh (l:List Bool):re (cy l) l.length=some l:=by have k:=lz l;unfold re;rw[aP ⟨O,Kq.2 (λi h1 g=>by rw[XJ l i g];grind)⟩];congr 1;apply xa;rw[rM];intro i h1 g;have e:(dY (bs (cy l)) l)[i]=jD (bs (cy l)) i:=(by simp[dY]);rw[e,XJ l i O];grind
theorem Wy (hd:d=(n+7)/8) {l:List Bool} (h:re d n=some l):cy l=d/\l=n:=by
 unfold re at h;split at h
 .rename_i hc;obtain⟨c1,c3⟩:=hc;have c2:=Kq.1 c3;injection h with h;have dX:l=n:=(by rw[<-h,rM]);refine⟨?_,dX⟩;have hp:=lz l;have:bs (cy l)=bs d:=by apply ZoN;rw[Z0,Z0];omega;intro i hi;rw[Z0] at hi;rw[XJ l i hi];rcases Nat.lt_or_ge i n with h1|h1;rw[<-h,M6 _ _ _ h1];grind
  exact congrArg aH this
 grind
theorem Z9m (h:∀c∈v,cd c<4):lJ (ki v) (kh v)=v:=by
 unfold lJ ki kh;induction v with
 |nil=>rfl
 |cons c r ih=>
  rw[tV,tV,List.zipWith_cons_cons,ih (λx k=>h x (gN _ k))];congr 1;have g:=h c fm;have:(decide (cd c % 2=1)).toNat+2*(decide (2<=cd c)).toNat=cd c:=by rcases(show cd c=0\/cd c=1\/cd c=2\/cd c=3 by omega) with e|e|e|e<;>rw[e]<;>rfl
  rw[this];exact MG c g
theorem ZcY:∀x y:Bool,x.toNat+2*y.toNat<4/\decide ((x.toNat+2*y.toNat) % 2=1)=x/\decide (2<=x.toNat+2*y.toNat)=y:=aZ
theorem Sn:∀ {a b:List Bool},a=b.length->ki (lJ a b)=a/\kh (lJ a b)=b
 |[],[],_=>⟨rfl,rfl⟩
 |[],_::_,h=>aI
 |_::_,[],h=>aI
 |x::a,y::b,h=>by obtain⟨i1,g⟩:=Sn (a:=a) (b:=b) aI;obtain⟨k1,k2,k3⟩:=ZcY x y;have e:lJ (x::a) (y::b)=ch (x.toNat+2*y.toNat)::lJ a b:=rfl;rw[e];unfold ki kh at*;rw[tV,tV,i1,g,HP _ k1,k2,k3];grind
/-! ## Kinds, parts of values -/
def dF (s:Int×Int):Bool:=(decide (s.1=0)&&decide (1<=s.2)&&decide (s.2<=128))||((decide (s.1=1)||decide (s.1=2)||decide (s.1=3))&&decide (s.2=0))
section
variable (dv:ax->Bool)
def rJ (k w:Int) (v:ax):Bool:=if k=0 then gW w v else if k=1 then dv v else if k=2 then decide (v.length<=64) else decide (v=[])
def fx (s:Int×Int) (v:ax):Bool:=dF s&&rJ dv s.1 s.2 v
def kC:List (Int×Int)->bd->Bool
 |[],[]=>true
 |s::st,v::vs=>fx dv s (aH v)&&kC st vs
 |_,_=>false
def ee (st:List (Int×Int)):Bool:=st.all dF&&decide (st.length<=64)
def gr (st:List (Int×Int)) (vs:bd):Bool:=ee st&&kC dv st vs
end
def iR (s:Int×Int) (v:ax):ax:=if s.1=0 then cy (ki v)++cy (kh v) else if s.1=3 then[] else bj v.length++v
def pQ (s:Int×Int):Nat:=(s.2.toNat+7)/8
def D5 (s:Int×Int) (r:ax):ax:=match re (r.take (pQ s)) s.2.toNat,re ((r.drop (pQ s)).take (pQ s)) s.2.toNat with
 |some a,some b=>lJ a b
 |_,_=>[]
def jK (s:Int×Int) (r:ax):Option (ax×ax):=
 if s.1=0 then(if r.length<2*pQ s then none else some (D5 s r,r.drop (2*pQ s)))
 else if s.1=3 then some ([],r) else fs r 4096
def rb:List (Int×Int)->ax->Option (bd×ax)
 |[],r=>some ([],r)
 |s::st,r=>match jK s r with
  |none=>none
  |some (v,r')=>match rb st r' with
   |none=>none
   |some (vs,r'')=>some (bs v::vs,r'')
def ZD:List (Int×Int)->bd->ax
 |s::st,v::vs=>iR s (aH v)++ZD st vs
 |_,_=>[]
theorem YI (h:dF s=true) (h0:s.1=0):1<=s.2/\s.2<=128:=by unfold dF at h;grind
theorem YJ (h:dF s=true):s.1=0\/((s.1=1\/s.1=2\/s.1=3)/\s.2=0):=by unfold dF at h;grind
theorem GI {a:ax} (h:a=n):(a++r).take n=a/\(a++r).drop n=r:=aI
section
variable {dv:ax->Bool}
theorem ZpX (h:fx dv s v=true) (l:(iR s v).length<=4096) (r:ax):jK s (iR s v++r)=some (v,r):=by unfold fx at h;rw[gm] at h;obtain⟨p,g⟩:=h;rcases YJ p with h0|⟨h1,E⟩;obtain⟨w1,I⟩:=YI p h0;unfold rJ at g;rw[aP h0] at g;obtain⟨D,G⟩:=ZK.1 g;have z:=(Zo.1 D).1;have F:v=s.2.toNat:=O;have q:(ki v)=s.2.toNat:=(by unfold ki;grind);have l2:(kh v)=s.2.toNat:=(by unfold kh;grind);have t:(cy (ki v))=pQ s:=(by rw[lz,q];rfl);have B:(cy (kh v))=pQ s:=(by rw[lz,l2];rfl);have e:iR s v=cy (ki v)++cy (kh v):=(by unfold iR;grind);unfold jK;rw[aP h0,e,az aI];congr 2;unfold D5;rw[ey,(GI t).1,(GI t).2,(GI B).1];have u:=Wh (ki v);have y:=Wh (kh v);rw[q] at u;rw[l2] at y;rw[u,y];exact Z9m z;exact(GI (a:=cy (ki v)++cy (kh v)) (by rw[bT];omega)).2;have h0:¬s.1=0:=O;unfold jK iR at*;rw[az h0] at l⊢;rw[az h0];by_cases k:s.1=3;rw[aP k,aP k];unfold rJ at g;rw[az h0,az O,az O,fE] at g;rw[g];rfl;rw[az k] at l⊢;rw[az k,ey];rw[bT] at l;exact Yo v 4096 O O r
theorem Zoa (w:Int):gW w []=false:=by cases h:gW w [];rfl;exact absurd rfl (Zo.1 (ZK.1 h).1).2.1
theorem ZfC {r':ax} (h:jK s r=some (v,r')) (hv:fx dv s v=true):r=iR s v++r':=by
 unfold fx at hv;rw[gm] at hv;obtain⟨ht,hk⟩:=hv;unfold jK at h;rcases YJ ht with h0|⟨h1,h2⟩
 .obtain⟨w1,w2⟩:=YI ht h0;unfold rJ at hk;rw[aP h0] at hk;rw[aP h0] at h;split at h;exact aI;rename_i hl;injection h with h;injection h with hb hr;have l1:(r.take (pQ s))=pQ s:=aI;have l2:((r.drop (pQ s)).take (pQ s)).length=pQ s:=aI;unfold D5 at hb;split at hb;.rename_i a b ha aa;obtain⟨a1,a2⟩:=Wy l1 ha;obtain⟨b1,b2⟩:=Wy l2 aa;obtain⟨q1,q2⟩:=Sn (a:=a) (b:=b) O;rw[hb] at q1 q2;have e:iR s v=cy (ki v)++cy (kh v):=(by unfold iR;grind);rw[e,q1,q2,a1,b1,<-hr];have:r.drop (2*pQ s)=(r.drop (pQ s)).drop (pQ s):=(by rw[rX];grind);rw[this,ey,sT,sT]
  rw[<-hb,Zoa] at hk;cases hk
 have h0:¬s.1=0:=O;rw[az h0] at h;unfold iR;rw[az h0];by_cases h3:s.1=3;exact aI;rw[az h3] at h⊢;rw[ey];exact(Z93 h).1
theorem F_:∀ {st:List (Int×Int)} {vs:bd},kC dv st vs=true->(ZD st vs).length<=4096->∀r,rb st (ZD st vs++r)=some (vs,r)
 |[],[],_,_,r=>rfl
 |[],_::_,h,_,_=>by cases h
 |_::_,[],h,_,_=>by cases h
 |s::st,v::vs,h,hl,r=>by have g:fx dv s (aH v)=true/\kC dv st vs=true:=Jf;have e:ZD (s::st) (v::vs)=iR s (aH v)++ZD st vs:=rfl;rw[e,bT] at hl;rw[e,ey];unfold rb;rw[ZpX g.1 O];simp only;rw[F_ g.2 O r];rfl
theorem TG:∀ {st:List (Int×Int)} {vs:bd} {r r':ax},rb st r=some (vs,r')->kC dv st vs=true->r=ZD st vs++r'
 |[],vs,r,r',h,hv=>by injection h with h;injection h with h1 h2
 |s::st,vs,r,r',h,hv=>by
  unfold rb at h;split at h;exact aI;rename_i v r1 hr;split at h;exact aI;rename_i J6 r2 bM;injection h with h;injection h with h1 h2;subst h1;subst h2;have h3:fx dv s (aH (bs v))=true/\kC dv st J6=true:=by have:(fx dv s (aH (bs v))&&kC dv st J6)=true:=hv;grind
  have e:ZD (s::st) (bs v::J6)=iR s v++ZD st J6:=rfl;rw[e,ey,<-TG bM h3.2];exact ZfC hr h3.1
end
theorem Bf {dv:ax->Bool} :∀ {st:List (Int×Int)} {vs:bd},kC dv st vs=true->vs.length=st
 |[],[],_=>rfl
 |[],_::_,h=>by cases h
 |_::_,[],h=>by cases h
 |s::st,v::vs,h=>by have g:fx dv s (aH v)=true/\kC dv st vs=true:=Jf;simp[Bf g.2]
/-! ## The bytes of values -/
def ej (dv:ax->Bool) (st:List (Int×Int)) (vs:bd):ax×Nat:=if gr dv st vs=false then([],1) else if ZD st vs=[] then([],0) else match Zp 4 (ZD st vs) with
 |none=>([],9)
 |some w=>(w,0)
def sE (data:ax):Option ax:=if data=[] then some [] else match ZJ data with
 |none=>none
 |some (k,c,n)=>if n=data/\k=4/\c≠[] then some c else none
def km (dv:ax->Bool) (st:List (Int×Int)) (data:ax):bd×Nat:=if ee st=false then([],1) else match sE data with
 |none=>([],12)
 |some t=>match rb st t with
  |none=>([],12)
  |some (vs,r)=>if r=[]/\gr dv st vs=true then(vs,0) else([],12)
theorem Gx {k:Nat} {c w:ax} (h:Zp k c=some w):w≠[]:=by unfold Zp at h;rcases g:lx c with _|t;exact aI;rw[g] at h;injection h with h;rw[<-h];unfold vv qa;simp
theorem Hb {dv:ax->Bool} (h:ej dv st vs=(data,0)):gr dv st vs=true/\((ZD st vs=[]/\data=[])\/(ZD st vs≠[]/\Zp 4 (ZD st vs)=some data)):=by unfold ej at h;grind
theorem Zr7 {dv:ax->Bool} (h:ej dv st vs=(data,0)):km dv st data=(vs,0):=by
 obtain⟨u,q⟩:=Hb h;have l:=u;unfold gr at l;rw[gm] at l;have g:(ZD st vs).length<=4096:=by rcases q with ⟨h1,_⟩|⟨_,h1⟩;exact aI;have:=YF (k:=4) (c:=ZD st vs);grind
 have z:sE data=some (ZD st vs):=by unfold sE;rcases q with ⟨h1,p⟩|⟨h1,p⟩;exact aI;have t:=JE O p [];rw[fu] at t;rw[az (Gx p),t];grind
 have y:=F_ l.2 g [];unfold km;grind
theorem HN {dv:ax->Bool} (h:km dv st data=(vs,0)):ej dv st vs=(data,0)/\gr dv st vs=true:=by
 unfold km at h;split at h;exact aI;split at h;exact aI;rename_i t ht;split at h;exact aI;rename_i J6 r hr;split at h;.rename_i hc;injection h with h _;subst h;obtain⟨gP,hv⟩:=hc;refine⟨?_,hv⟩;have bx:=hv;unfold gr at bx;rw[gm] at bx;have Pk:=TG hr bx.2;rw[gP,fu] at Pk;unfold ej;rw[az aI];unfold sE at ht;split at ht;exact aI;split at ht;exact aI;rename_i k c n hf;split at ht;obtain⟨w1,_⟩:=XZ hf;grind;grind
 grind
theorem snD_len {dv:ax->Bool} (h:km dv st data=(vs,0)):vs=st.length:=by have:=(HN h).2;unfold gr at this;rw[gm] at this;exact Bf this.2
end
section
variable{M d f hi i j k lo n:Nat}{l:List (Nat×Nat)}{s:ax}
def rC (s:ax) (i most p b:Nat) (o:List (Nat×Nat)):Option (Nat×List (Nat×Nat)):=if 4096<i-p\/most<=b then none
 else if s.getD (p+b) 0≠s.getD (i+b) 0 then some (b,o) else if b<oM s p i most then some (oM s p i most,o++[(oM s p i most,i-p)]) else some (b,o)
theorem ZhM (s:ax) (i most p b:Nat) (o:List (Nat×Nat)):pG s i most (p+1) b o=match rC s i most p b o with
  |none=>o
  |some x=>pG s i most p x.1 x.2:=by unfold rC;rw[pG];grind
theorem Zdl :ss s i j n (k+1)=if s.getD (i+n) 0=s.getD (j+n) 0 then ss s i j (n+1) k else n:=rfl
theorem Zdm :ss s i j n 0=n:=rfl
theorem ZdE (h:lo<hi):su hi lo d=⟨hi,d,0⟩::su (hi-1) lo d:=by unfold su;obtain⟨k,g⟩:∃k,hi-lo=k+1:=⟨hi-lo-1,O⟩;rw[g,List.range_succ_eq_map,tV,qy,show hi-1-lo=k by omega];congr 1;apply List.map_congr_left;grind
theorem Ziu (h:hi<=lo):su hi lo d=[]:=by unfold su;grind
def Bt (l:List (Nat×Nat)) (k:Nat):Nat:=if 0<k then(l.getD (k-1) (0,0)).1 else 1
theorem V1 (g:k<l):(l.take (k+1)).reverse=l.getD k (0,0)::(l.take k).reverse:=mM
theorem Zcr (g:k<l):un ((l.take (k+1)).reverse)=su (l.getD k (0,0)).1 (Bt l k) (l.getD k (0,0)).2++un ((l.take k).reverse):=by
 rw[V1 g];cases k with
 |zero=>show su _ 1 _=su _ 1 _++[];grind
 |succ k=>rw[V1 (show k<l by omega)];congr 1
theorem Z8x (h:i<s):sx s (f+1) i=((qQ s).getD i dP).first::sx s f (i+((qQ s).getD i dP).first.len):=by show(if i<s then _ else _)=_;grind
theorem Zbt (h:s<=i):sx s f i=[]:=by
 cases f with
 |zero=>rfl
 |succ f=>show(if i<s then _ else _)=_;grind
theorem Bp (h:n<=4096):fc n<=13:=by unfold fc;split;exact O;rename_i h0;have:=(Nat.log2_lt h0).2 (show n<2 ^ 13 by omega);omega
theorem Gs {p:Pc} (h1:p.dist<=4096) (g:p.len<=4096):price p<=38:=by unfold price;have:=Bp h1;have:=Bp g;grind
theorem rU.price {p:Pc} (h:rU s i p):price p<=38:=by rcases h with ⟨h1,k,_⟩|⟨_,_,g,_,l,_⟩;exact Gs O O;exact Gs g O
theorem X_ {tb:List St} {c:Option St} {p:Pc} (k:∀x∈tb,x.cost<=M/\x.pcs<=M) (l:∀x,c=some x->x.cost<=M+38/\x.pcs<=M+38) (t:price p<=38):∀x,kV tb c p=some x->x.cost<=M+38/\x.pcs<=M+38:=by
 have q:(tb.getD (p.len-1) dP).cost<=M/\(tb.getD (p.len-1) dP).pcs<=M:=by rw[qA];rcases h:tb[p.len-1]? with _|y;exact⟨cf _,cf _⟩;grind
 have u:(zL tb p).cost<=M+38/\(zL tb p).pcs<=M+38:=⟨by show _+_<=_;omega,by show _+1<=_;omega⟩;intro x g;unfold kV at g;grind
theorem Zmq {tb:List St} (k:∀x∈tb,x.cost<=M/\x.pcs<=M):∀(l:List Pc) (c:Option St),(∀x,c=some x->x.cost<=M+38/\x.pcs<=M+38)->(∀p∈l,price p<=38)->∀x,l.foldl (kV tb) c=some x->x.cost<=M+38/\x.pcs<=M+38:=by
 intro l;induction l with
 |nil=>exact aI
 |cons p r ih=>intro c t g x y;exact ih _ (X_ k t (g p fm)) (λq u=>g q (gN _ u)) x y
theorem ZgB (s:ax):∀k,k<=s.length->∀x∈pP s k,x.cost<=38*k/\x.pcs<=38*k:=by
 intro k;induction k with
 |zero=>intro _ x g;rw[js.1 g];exact⟨aW,aW⟩
 |succ k ih=>
  intro u x g;have ih:=ih O;rcases jx.1 g with g|g
  .have hi:s.length-1-k<s.length:=O;have q:∃y,(vt s (s.length-1-k)).foldl (kV (pP s k)) none=some y:=by unfold vt;rw[rn];exact Gm _ _ _
   obtain⟨y,l⟩:=q;have:=Zmq ih (vt s (s.length-1-k)) none (λx h=>aI) (λp t=>(Wz hi p t).price) y l;have e:x=y:=by rw[g];unfold xA;rw[l];rfl
   grind
  grind
end
section
variable{dv:ax->Bool}{s:Int×Int}{st:List (Int×Int)}
def YW (s:Int×Int):ax:=if s.1=0 then List.replicate s.2.toNat 120 else if s.1=1 then[48] else[]
def XR (st:List (Int×Int)):bd:=if ee st=false then[] else st.map (λs=>bs (YW s))
theorem ZmD (l:dv [48]=true) (h:dF s=true):fx dv s (YW s)=true:=by unfold fx;rw[h,Bool.true_and];unfold rJ YW;rcases YJ h with h0|⟨h1,k⟩;obtain⟨w1,p⟩:=YI h h0;rw[aP h0,aP h0];refine ZK.2 ⟨Zo.2 ⟨λc g=> ?_,λe=> ?_,aI⟩,aI⟩;rw[List.eq_of_mem_replicate g];decide;have:=congrArg List.length e;grind;grind
theorem Zj1 (h:dF s=true):(iR s (YW s)).length<=32:=by rcases YJ h with h0|⟨h1,g⟩;obtain⟨w1,k⟩:=YI h h0;unfold iR YW;rw[aP h0,aP h0,bT,lz,lz];unfold ki kh;grind;have h0:¬s.1=0:=O;unfold iR YW;rw[az h0,az h0];rcases h1 with h1|h1|h1;rw[az O,aP h1];decide;rw[az O,az O];decide;grind
theorem VP {dv:ax->Bool} (k:dv [48]=true):∀ {st:List (Int×Int)},(∀s∈st,dF s=true)->kC dv st (st.map (λs=>bs (YW s)))=true/\(ZD st (st.map (λs=>bs (YW s)))).length<=32*st.length
 |[],_=>⟨rfl,aW⟩
 |s::st,h=>by obtain⟨i1,p⟩:=VP (dv:=dv) k (st:=st) (λx l=>h x (gN _ l));have g:=h s fm;constructor;show(fx dv s (aH (bs (YW s)))&&kC dv st _)=true;rw[Zk,ZmD k g,i1];rfl;show(iR s (aH (bs (YW s)))++ZD st _).length<=_;rw[Zk,bT,f'];have:=Zj1 g;omega
theorem Be :ee st=true↔(∀s∈st,dF s=true)/\st.length<=64:=by unfold ee;grind
theorem Zj0 (l:dv [48]=true) (h:ee st=true):gr dv st (XR st)=true/\(ej dv st (XR st)).2=0:=by obtain⟨h1,p⟩:=Be.1 h;have e:XR st=st.map (λs=>bs (YW s)):=(by unfold XR;grind);obtain⟨i1,q⟩:=VP (dv:=dv) l h1;have g:gr dv st (XR st)=true:=(by unfold gr;grind);refine⟨g,?_⟩;unfold ej;rw[az aI];split;rfl;have:=YF (k:=4) (c:=ZD st (XR st));grind
end
def Z3 (s:ax):Bool:=(th s).isSome
end Wv
namespace Wv
open Go Go.RowKit
theorem Zik {z:Int} (h: -400<=z) (g:z<=400):(kd z).length<=4:=by unfold kd;split;have:=AZ (n:=(-z).toNat) (k:=3) O O;grind;have:=AZ (n:=z.toNat) (k:=3) O O;omega
theorem Zds (n:gY):(Xw n).1.length<=30:=by unfold Xw;split;exact aZ;split;exact aZ;have g:n.dg.length<=17/\-400<=Qx n/\Qx n<=400:=O;have k:=Zik g.2.1 g.2.2;grind
theorem Zcx {s:ax} (h:Z3 s=true):s.length<=30:=by unfold Z3 at h;rcases g:th s with _|n;exact aI;rw[(ZhS.1 g).2];exact Zds n
theorem Hz {s:Int×Int} {v:ax} (h:fx Z3 s v=true):(iR s v).length<=100/\v.length<=128:=by unfold fx at h;rw[gm] at h;obtain⟨l,g⟩:=h;unfold rJ at g;unfold iR;have k:∀n,(bj n).length<=9:=λn=>(by rw[lT];have:=Ye n;omega);rcases YJ l with h0|⟨h1,q⟩;rw[aP h0] at g⊢;have p:fH v=true:=(by unfold gW at g;grind);have t:=(Zo.1 p).2.2;rw[bT,lz,lz];unfold ki kh;grind;have h0:¬s.1=0:=O;rw[az h0] at g⊢;have:=k v;by_cases k1:s.1=1;rw[aP k1] at g;rw[az O,bT];have:=Zcx g;omega;grind
theorem JW:∀(st:List (Int×Int)) (vs:bd) (k:Nat) (h:k<st) (p:k<vs),ZD (st.take (k+1)) (vs.take (k+1))=ZD (st.take k) (vs.take k)++iR st[k] (aH vs[k])
 |s::st,v::vs,0,_,_=>by show _++[]=[]++_;simp
 |s::st,v::vs,k+1,h,p=>by have l:k<st:=aI;have g:k<vs:=aI;show iR s (aH v)++ZD (st.take (k+1)) (vs.take (k+1))=(iR s (aH v)++ZD (st.take k) (vs.take k))++iR (st[k]'l) (aH (vs[k]'g));rw[JW st vs k l g,ey]
theorem C9 (dv:ax->Bool):∀ {st:List (Int×Int)} {vs:bd},kC dv st vs=true->∀k (h:k<st.length) (l:k<vs.length),fx dv st[k] (aH vs[k])=true
 |[],_,_,k,h,_=>absurd h (tU _)
 |_::_,[],_,k,_,h=>absurd h (tU _)
 |s::st,v::vs,h,k,hk,bW=>by
  have g:fx dv s (aH v)=true/\kC dv st vs=true:=Jf
  cases k with
  |zero=>exact aI
  |succ k=>exact C9 dv g.2 k aI aI
theorem KD:∀ {st:List (Int×Int)} {vs:bd},kC Z3 st vs=true->∀k,(ZD (st.take k) (vs.take k)).length<=100*k/\(ZD st vs).length<=100*st.length:=by
 intro st vs h k;have p:=Bf h
 have main:∀k,k<=st.length->(ZD (st.take k) (vs.take k)).length<=100*k:=by
  intro k;induction k with
  |zero=>intro _;exact cf _
  |succ k ih=>intro l;rw[JW st vs k O O,bT];have:=(Hz (C9 Z3 h k O O)).1;omega
 have g:=main st aW;grind
end Wv
namespace Go.Proofs.Y
open Wv Go.RowKit
section
variable{e most n z:Nat}{s t:ax}
theorem WQ {most:Int} (h:hG s=some (n,z)) (g:¬most<(n:Int)):bK (bs s) 0 most=(n,bs (s.drop z),0):=by unfold bK;rw[aP rfl,Zk,h];grind
theorem Zhh {most:Int} (h:hG s=some (n,z)) (g:most<(n:Int)):bK (bs s) 0 most=(0,bs s,2):=by unfold bK;rw[aP rfl,Zk,h];grind
theorem ZcD {most:Int} (h:hG s=none):bK (bs s) 0 most=(0,bs s,12):=by unfold bK;rw[aP rfl,Zk,h]
theorem UH {s:aS} (g:e≠0) (most:Int):bK s e most=(0,s,e):=by unfold bK;grind
theorem Xc {s:aS} (g:e≠0) (n:Int):Zb s e n=(bs [],s,e):=by unfold Zb;grind
theorem J5 (h:dI s most=some (n,t)):bK (bs s) 0 (most:Int)=(n,bs t,0)/\n<=most/\t<=s.length:=by
 unfold dI at h;match g:hG s with
 |none=>rw[g] at h;cases h
 |some (m,z)=>rw[g] at h;simp only at h;by_cases l:most<m;exact aI;rw[az l] at h;injection h with h;injection h with h1 k;subst h1;subst k;exact⟨WQ g O,O,aI⟩
theorem UI (h:dI s most=none):∃e,e≠0/\bK (bs s) 0 (most:Int)=(0,bs s,e):=by
 unfold dI at h;match g:hG s with
 |none=>exact⟨12,aZ,ZcD g⟩
 |some (m,z)=>by_cases k:most<m;exact⟨2,aZ,Zhh g O⟩;grind
theorem ZcF {s:aS} (g:e≠0) (most:Int):ZC s e most=(bs [],s,e):=by unfold ZC;rw[UH g];rw[Xc g];grind
theorem Sk {a:ax} (h:fs s most=some (a,t)):ZC (bs s) 0 (most:Int)=(bs a,bs t,0)/\a<=s.length/\t<=s.length/\a<=most:=by
 unfold fs at h;match hr:dI s most with
 |none=>rw[hr] at h;cases h
 |some (n,u)=>obtain⟨h1,g,k⟩:=J5 hr;by_cases l:u<n;exact aI;have p:Zb (bs u) 0 (n:Int)=(bs (u.take n),bs (u.drop n),0):=PA;unfold ZC;grind
theorem Ti (h:fs s most=none):∃e,e≠0/\ZC (bs s) 0 (most:Int)=(bs [],bs s,e):=by
 unfold fs at h;match hr:dI s most with
 |none=>obtain⟨e,h1,g⟩:=UI hr;refine⟨e,h1,?_⟩;unfold ZC;rw[g];rw[Xc h1];rw[az h1]
 |some (n,u)=>obtain⟨h1,g,k⟩:=J5 hr;by_cases l:u<n;have p:Zb (bs u) 0 (n:Int)=(bs [],bs u,12):=PR;refine⟨12,aZ,?_⟩;unfold ZC;grind;grind
theorem Xv (h:n<=s):Zb (bs s) 0 (n:Int)=(bs (s.take n),bs (s.drop n),0):=PA
theorem Kp (h:s<n):Zb (bs s) 0 (n:Int)=(bs [],bs s,12):=PR
theorem ZQ {w w1 g:au} {b:Nat} (h:Below w w w1) (hb:w<=b) (k:Fr (only b) w1 g):Below w w g:=
 h.trans (k.toBelow' h.size (λj l e=>CD))
end
section
variable{W w:au}
def zF (b1 g b3:Nat):Array aJ:= #[.int .i64 1,.int .i64 128,.func (.func 173) #[] #[],.func (.func 174) #[] #[],.func (.func 175) #[] #[],.func (.func 176) #[] #[],.string ⟨#[98]⟩,
 .int .i64 0,.int .i64 0,.func (.func 177) #[] #[],.func (.func 223) #[] #[.pointer (some ⟨b1,0,none⟩)],.func (.func 180) #[] #[],.func (.func 182) #[] #[],.string ⟨#[114]⟩,
 .int .i64 0,.int .i64 0,.func (.func 183) #[] #[],.func (.func 223) #[] #[.pointer (some ⟨g,0,none⟩)],.func (.func 184) #[] #[],.func (.func 186) #[] #[],.string ⟨#[115]⟩,
 .int .i64 0,.int .i64 0,.func (.func 187) #[] #[],.func (.func 223) #[] #[.pointer (some ⟨b3,0,none⟩)],.func (.func 188) #[] #[],.func (.func 189) #[] #[],.string ⟨#[]⟩]
theorem ZjY (s:aS) (w:au):
  Calls prog 179 #[s] w λx w'=>x=.returned (.func (.func 223) #[] #[(w,0)])/\Bk w' w 9 #[s]/\Below w w w':=by go_in;go_wp2;go_returns;exact⟨rfl,Bk.new _ _ _,(bi _ _).alloc aW _⟩
theorem Z36 (w:au):
  Calls prog 131 #[] w λx w'=>∃R b1 B b3,x=.returned (.slice (some ⟨R,0,none⟩) 4 4)/\Bk w' R 151 (zF b1 B b3)/\Bk w' b1 9 #[.string ⟨#[48]⟩]/\Bk w' B 9 #[.string ⟨#[]⟩]/\Bk w' b3 9 #[.string ⟨#[]⟩]/\Below w w w':=by have p:=J (λs W=>ZjY s W);go_in;go_wp21;refine aO (p.o _ _) λw1 ⟨k1,y⟩=>?_;have g:=J k1;clear k1;go_wp21;refine aO (p.o _ _) λl ⟨k2,aa⟩=>?_;have u:=J (g.o.below aa g.o.lt);have z:=y.trans (aa.mono y.size);have q:=J k2;clear k2 aa g y;go_wp21;refine aO (p.o _ _) λF ⟨k3,k⟩=>?_;obtain⟨g,t,E⟩:=bF ((u.o.below k u.o.lt).alloc (.cells (zF w w1 l) 151)) ((q.o.below k q.o.lt).alloc (.cells (zF w w1 l) 151)) (k3.alloc (.cells (zF w w1 l) 151));have hb:=z.trans (k.mono z.size);have D:=J (hb.alloc hb.size (.cells (zF w w1 l) 151));clear hb z k k3 q u;go_wp2;go_returns;exact⟨_,_,_,_,rfl,Bk.new _ _ _,g.o,t.o,E.o,D.o⟩
def kcOf (n b:Nat):Array aJ:=match n with
 |0=> #[(1:Int),(128:Int),.func (.func 173) #[] #[],.func (.func 174) #[] #[],.func (.func 175) #[] #[],.func (.func 176) #[] #[],.string ⟨#[98]⟩]
 |1=> #[(0:Int),(0:Int),.func (.func 177) #[] #[],.func (.func 223) #[] #[.pointer (some ⟨b,0,none⟩)],.func (.func 180) #[] #[],.func (.func 182) #[] #[],.string ⟨#[114]⟩]
 |2=> #[(0:Int),(0:Int),.func (.func 183) #[] #[],.func (.func 223) #[] #[.pointer (some ⟨b,0,none⟩)],.func (.func 184) #[] #[],.func (.func 186) #[] #[],.string ⟨#[115]⟩]
 |_=> #[(0:Int),(0:Int),.func (.func 187) #[] #[],.func (.func 223) #[] #[.pointer (some ⟨b,0,none⟩)],.func (.func 188) #[] #[],.func (.func 189) #[] #[],.string ⟨#[]⟩]
def Ed (n:Nat):aS:=if n=1 then⟨#[48]⟩ else⟨#[]⟩
def nr:Array aJ:= #[.int .i64 0,.int .i64 0,.nilFunc,.nilFunc,.nilFunc,.nilFunc,.string ⟨#[]⟩]
def tL (w':au) (n:Int) (kc:Array aJ):Prop:=((n<0\/4<=n)/\kc=nr)\/(0<=n/\n<4/\∃b,kc=kcOf n.toNat b/\Bk w' b 9 #[Ed n.toNat])
theorem My {n wd:Int} (h:n<0\/4<=n):dF (n,wd)=false:=by unfold dF;simp only;rw[cG (show ¬n=0 by omega),cG (show ¬n=1 by omega),cG (show ¬n=2 by omega),cG (show ¬n=3 by omega)];rfl
theorem ZpY (hb:Below (w.alloc (.cells nr 151)) (w.alloc (.cells nr 151)) W):
  (W.cell? (w,0)=(0:Int)/\W.cell? (w,1)=(0:Int)/\W.cell? (w,2)=some .nilFunc/\W.cell? (w,3)=some .nilFunc/\W.cell? (w,4)=some .nilFunc/\W.cell? (w,5)=some .nilFunc/\W.cell? (w,6)=some (.string ⟨#[]⟩))/\
  (W.frozen? (w,0)=false/\W.frozen? (w,1)=false/\W.frozen? (w,2)=false/\W.frozen? (w,3)=false/\W.frozen? (w,4)=false/\W.frozen? (w,5)=false/\W.frozen? (w,6)=false)/\Bk W w 151 nr/\Below w w W:=by have h0:=(Bk.new w 151 nr).below hb (by simp);have g:=((bi w w).alloc aW (.cells nr 151)).trans (hb.mono (by simp));exact⟨⟨h0.cell 0,h0.cell 1,h0.cell 2,h0.cell 3,h0.cell 4,h0.cell 5,h0.cell 6⟩,⟨h0.frozen 0,h0.frozen 1,h0.frozen 2,h0.frozen 3,h0.frozen 4,h0.frozen 5,h0.frozen 6⟩,h0,g⟩
theorem Bk.apart2 {R:Nat} {a b c:Nat} (h:Bk W R 151 (zF a b c)) (g:Bk W w 151 nr):R≠w:=by rintro rfl;unfold Bk at h g;rw[h] at g;injection g with g;injection g with k l;have:=congrArg Array.size k;simp[zF,nr] at this
theorem Bk.seven {g N:Nat} {t:TypeId} {l:Array aJ} (h:Bk w g t l) (k:g≠N) (q a1 a2 a3 a4 a5 a6:aJ):Bk (((((((w.setCell ⟨N,0,none⟩ q).setCell ⟨N,1,none⟩ a1).setCell ⟨N,2,none⟩ a2).setCell ⟨N,3,none⟩ a3).setCell ⟨N,4,none⟩ a4).setCell ⟨N,5,none⟩ a5).setCell ⟨N,6,none⟩ a6) g t l:=
 ((((((h.off (p:=⟨N,0,none⟩) k _).off (p:=⟨N,1,none⟩) k _).off (p:=⟨N,2,none⟩) k _).off (p:=⟨N,3,none⟩) k _).off (p:=⟨N,4,none⟩) k _).off (p:=⟨N,5,none⟩) k _).off (p:=⟨N,6,none⟩) k _
theorem Mn (n wd:Int) (w:au):
  Calls prog 88 #[n,wd] w λx w'=>∃kc,x=.returned (.tuple #[.agg kc,dF (n,wd)])/\tL w' n kc/\Below w w w':=by
 have S:=J (λW=>Z36 W);have B:=J (λW hb=>ZpY (w:=w) (W:=W) hb);unfold nr at B;by_cases a1:n<0\/4<=n
 .have c8:=My (wd:=wd) a1;have c9:Hid (∀w',Below w w w'->tL w' n nr):=J (λw' _=>Or.inl ⟨a1,rfl⟩);rw[c8];unfold nr at c9;have b8:n<0\/(¬n<0/\4<=n):=O;rcases b8 with b8|⟨b8,d4⟩
  all_goals
   clear a1 c8;go_in;go_wp21;refine(S.o _).mono ?_;rintro x w1 ⟨R,b1,k,b3,rfl,q,D,z,I,y⟩;obtain⟨⟨c0,c1,c2,a5,a6,a7,a8⟩,⟨f0,f1,b0,b2,b4,b5,b6⟩,hz,hB⟩:=B.o _ y;have hF:=((((((hz.put 0 (0:Int)).put 1 (0:Int)).put 2 .nilFunc).put 3 .nilFunc).put 4 .nilFunc).put 5 .nilFunc).put 6 (.string ⟨#[]⟩);have u:=hF.cell 0;have z1:=hF.cell 1;have z2:=hF.cell 2;have z3:=hF.cell 3;have F:=hF.cell 4;have M:=hF.cell 5;have a0:=hF.cell 6;unfold nr at u z1 z2 z3 F M a0;simp at u z1 z2 z3 F M a0;have g:=J ((((((((hB.setCell (p:=⟨w,0,none⟩) aW (0:Int)).setCell (p:=⟨w,1,none⟩) aW (0:Int)).setCell (p:=⟨w,2,none⟩) aW .nilFunc).setCell (p:=⟨w,3,none⟩) aW .nilFunc).setCell (p:=⟨w,4,none⟩) aW .nilFunc).setCell (p:=⟨w,5,none⟩) aW .nilFunc).setCell (p:=⟨w,6,none⟩) aW (.string ⟨#[]⟩)));clear hF hz hB y q D z I B S;go_wp2_with ((with_reducible show bodyPost _ _ _ _ _ _);refine bodyPost_ret (v:=.tuple #[.agg #[(0:Int),(0:Int),.nilFunc,.nilFunc,.nilFunc,.nilFunc,.string ⟨#[]⟩],false]) Cn rfl ?_;exact⟨_,rfl,c9.o _ g.o,g.o⟩)
 have d3:n=0\/n=1\/n=2\/n=3:=O;rcases d3 with rfl|rfl|rfl|rfl
 .clear a1;go_in;go_wp21;refine(S.o _).mono ?_;rintro x w1 ⟨R,b1,k,b3,rfl,q,D,z,I,y⟩;obtain⟨⟨c0,c1,c2,a5,a6,a7,a8⟩,⟨f0,f1,b0,b2,b4,b5,b6⟩,hz,hB⟩:=B.o _ y;have b7:R≠w:=Bk.apart2 q hz;have b9:w1.cell? (R,0)=(1:Int):=q.cell 0;have q1:w1.cell? (R,1)=(128:Int):=q.cell 1;have q2:w1.cell? (R,2)=some (.func (.func 173) #[] #[]):=q.cell 2;have q3:w1.cell? (R,3)=some (.func (.func 174) #[] #[]):=q.cell 3;have q4:w1.cell? (R,4)=some (.func (.func 175) #[] #[]):=q.cell 4;have q5:w1.cell? (R,5)=some (.func (.func 176) #[] #[]):=q.cell 5;have c7:w1.cell? (R,6)=some (.string ⟨#[98]⟩):=q.cell 6;have hF:=Bk.drew (((((((hz.put 0 (1:Int)).put 1 (128:Int)).put 2 (.func (.func 173) #[] #[])).put 3 (.func (.func 174) #[] #[])).put 4 (.func (.func 175) #[] #[])).put 5 (.func (.func 176) #[] #[])).put 6 (.string ⟨#[98]⟩));have u:=hF.cell 0;have z1:=hF.cell 1;have z2:=hF.cell 2;have z3:=hF.cell 3;have F:=hF.cell 4;have M:=hF.cell 5;have a0:=hF.cell 6;unfold nr at u z1 z2 z3 F M a0;simp at u z1 z2 z3 F M a0;have g:=J ((((((((hB.setCell (p:=⟨w,0,none⟩) aW (1:Int)).setCell (p:=⟨w,1,none⟩) aW (128:Int)).setCell (p:=⟨w,2,none⟩) aW (.func (.func 173) #[] #[])).setCell (p:=⟨w,3,none⟩) aW (.func (.func 174) #[] #[])).setCell (p:=⟨w,4,none⟩) aW (.func (.func 175) #[] #[])).setCell (p:=⟨w,5,none⟩) aW (.func (.func 176) #[] #[])).setCell (p:=⟨w,6,none⟩) aW (.string ⟨#[98]⟩)).drew);have a2:=J (Bk.drew (Bk.seven z (Bk.apart z hz aZ) (1:Int) (128:Int) (.func (.func 173) #[] #[]) (.func (.func 174) #[] #[]) (.func (.func 175) #[] #[]) (.func (.func 176) #[] #[]) (.string ⟨#[98]⟩)));have E:Hid (∀(b:Bool),(dF (0,wd)=b)->∀w',Below w w w'->Bk w' k 9 #[Ed 0]->Ending.returned (.tuple #[.agg #[(1:Int),(128:Int),(.func (.func 173) #[] #[]),(.func (.func 174) #[] #[]),(.func (.func 175) #[] #[]),(.func (.func 176) #[] #[]),(.string ⟨#[98]⟩)],b])=Ending.returned (.tuple #[.agg #[(1:Int),(128:Int),(.func (.func 173) #[] #[]),(.func (.func 174) #[] #[]),(.func (.func 175) #[] #[]),(.func (.func 176) #[] #[]),(.string ⟨#[98]⟩)],dF (0,wd)])/\tL w' 0 #[(1:Int),(128:Int),(.func (.func 173) #[] #[]),(.func (.func 174) #[] #[]),(.func (.func 175) #[] #[]),(.func (.func 176) #[] #[]),(.string ⟨#[98]⟩)]/\Below w w w'):=J (λb hb w' h1 a4=>⟨by rw[hb],Or.inr ⟨aZ,aZ,k,rfl,a4⟩,h1⟩);clear hF hz hB y q D z I B S;by_cases t:(1:Int)<=wd
  .by_cases Q:wd<=128
   .have G:decide ((1:Int)<=wd)=true:=cT t;have a3:decide (wd<=128)=true:=cT Q;have l:Hid (dF (0,wd)=true):=J Fw;go_wp2;go_region
    all_goals
     go_wp2_with ((with_reducible show bodyPost _ _ _ _ _ _);refine bodyPost_ret (v:=.tuple #[.agg #[(1:Int),(128:Int),(.func (.func 173) #[] #[]),(.func (.func 174) #[] #[]),(.func (.func 175) #[] #[]),(.func (.func 176) #[] #[]),(.string ⟨#[98]⟩)],true]) Cn rfl ?_;exact⟨_,E.o _ l.o _ g.o a2.o⟩)
   have G:decide ((1:Int)<=wd)=true:=cT t;have a3:decide (wd<=128)=false:=cG Q;exact N6
  have G:decide ((1:Int)<=wd)=false:=cG t;exact N6
 .clear a1;go_in;go_wp21;refine(S.o _).mono ?_;rintro x w1 ⟨R,b1,k,b3,rfl,q,D,z,I,y⟩;obtain⟨⟨c0,c1,c2,a5,a6,a7,a8⟩,⟨f0,f1,b0,b2,b4,b5,b6⟩,hz,hB⟩:=B.o _ y;have b7:R≠w:=Bk.apart2 q hz;have b9:w1.cell? (R,7)=(0:Int):=q.cell 7;have q1:w1.cell? (R,8)=(0:Int):=q.cell 8;have q2:w1.cell? (R,9)=some (.func (.func 177) #[] #[]):=q.cell 9;have q3:w1.cell? (R,10)=some (.func (.func 223) #[] #[(b1,0)]):=q.cell 10;have q4:w1.cell? (R,11)=some (.func (.func 180) #[] #[]):=q.cell 11;have q5:w1.cell? (R,12)=some (.func (.func 182) #[] #[]):=q.cell 12;have c7:w1.cell? (R,13)=some (.string ⟨#[114]⟩):=q.cell 13;have hF:=Bk.drew (((((((hz.put 0 (0:Int)).put 1 (0:Int)).put 2 (.func (.func 177) #[] #[])).put 3 (.func (.func 223) #[] #[.pointer (some ⟨b1,0,none⟩)])).put 4 (.func (.func 180) #[] #[])).put 5 (.func (.func 182) #[] #[])).put 6 (.string ⟨#[114]⟩));have u:=hF.cell 0;have z1:=hF.cell 1;have z2:=hF.cell 2;have z3:=hF.cell 3;have F:=hF.cell 4;have M:=hF.cell 5;have a0:=hF.cell 6;unfold nr at u z1 z2 z3 F M a0;simp at u z1 z2 z3 F M a0;have g:=J ((((((((hB.setCell (p:=⟨w,0,none⟩) aW (0:Int)).setCell (p:=⟨w,1,none⟩) aW (0:Int)).setCell (p:=⟨w,2,none⟩) aW (.func (.func 177) #[] #[])).setCell (p:=⟨w,3,none⟩) aW (.func (.func 223) #[] #[.pointer (some ⟨b1,0,none⟩)])).setCell (p:=⟨w,4,none⟩) aW (.func (.func 180) #[] #[])).setCell (p:=⟨w,5,none⟩) aW (.func (.func 182) #[] #[])).setCell (p:=⟨w,6,none⟩) aW (.string ⟨#[114]⟩)).drew);have a2:=J (Bk.drew (Bk.seven D (Bk.apart D hz aZ) (0:Int) (0:Int) (.func (.func 177) #[] #[]) (.func (.func 223) #[] #[.pointer (some ⟨b1,0,none⟩)]) (.func (.func 180) #[] #[]) (.func (.func 182) #[] #[]) (.string ⟨#[114]⟩)));have E:Hid (∀(b:Bool),(dF (1,wd)=b)->∀w',Below w w w'->Bk w' b1 9 #[Ed 1]->Ending.returned (.tuple #[.agg #[(0:Int),(0:Int),(.func (.func 177) #[] #[]),(.func (.func 223) #[] #[(b1,0)]),(.func (.func 180) #[] #[]),(.func (.func 182) #[] #[]),(.string ⟨#[114]⟩)],b])=Ending.returned (.tuple #[.agg #[(0:Int),(0:Int),(.func (.func 177) #[] #[]),(.func (.func 223) #[] #[(b1,0)]),(.func (.func 180) #[] #[]),(.func (.func 182) #[] #[]),(.string ⟨#[114]⟩)],dF (1,wd)])/\tL w' 1 #[(0:Int),(0:Int),(.func (.func 177) #[] #[]),(.func (.func 223) #[] #[(b1,0)]),(.func (.func 180) #[] #[]),(.func (.func 182) #[] #[]),(.string ⟨#[114]⟩)]/\Below w w w'):=J (λb hb w' h1 a4=>⟨by rw[hb],Or.inr ⟨aZ,aZ,b1,rfl,a4⟩,h1⟩);clear hF hz hB y q D z I B S;by_cases t:(0:Int)<=wd
  .by_cases Q:wd<=0
   .have G:decide ((0:Int)<=wd)=true:=cT t;have a3:decide (wd<=0)=true:=cT Q;have l:Hid (dF (1,wd)=true):=J Fw;go_wp2;go_region
    all_goals
     go_wp2_with ((with_reducible show bodyPost _ _ _ _ _ _);refine bodyPost_ret (v:=.tuple #[.agg #[(0:Int),(0:Int),(.func (.func 177) #[] #[]),(.func (.func 223) #[] #[.pointer (some ⟨b1,0,none⟩)]),(.func (.func 180) #[] #[]),(.func (.func 182) #[] #[]),(.string ⟨#[114]⟩)],true]) Cn rfl ?_;exact⟨_,E.o _ l.o _ g.o a2.o⟩)
   have G:decide ((0:Int)<=wd)=true:=cT t;have a3:decide (wd<=0)=false:=cG Q;exact N0
  have G:decide ((0:Int)<=wd)=false:=cG t;exact N0
 .clear a1;go_in;go_wp21;refine(S.o _).mono ?_;rintro x w1 ⟨R,b1,k,b3,rfl,q,D,z,I,y⟩;obtain⟨⟨c0,c1,c2,a5,a6,a7,a8⟩,⟨f0,f1,b0,b2,b4,b5,b6⟩,hz,hB⟩:=B.o _ y;have b7:R≠w:=Bk.apart2 q hz;have b9:w1.cell? (R,14)=(0:Int):=q.cell 14;have q1:w1.cell? (R,15)=(0:Int):=q.cell 15;have q2:w1.cell? (R,16)=some (.func (.func 183) #[] #[]):=q.cell 16;have q3:w1.cell? (R,17)=some (.func (.func 223) #[] #[(k,0)]):=q.cell 17;have q4:w1.cell? (R,18)=some (.func (.func 184) #[] #[]):=q.cell 18;have q5:w1.cell? (R,19)=some (.func (.func 186) #[] #[]):=q.cell 19;have c7:w1.cell? (R,20)=some (.string ⟨#[115]⟩):=q.cell 20;have hF:=Bk.drew (((((((hz.put 0 (0:Int)).put 1 (0:Int)).put 2 (.func (.func 183) #[] #[])).put 3 (.func (.func 223) #[] #[.pointer (some ⟨k,0,none⟩)])).put 4 (.func (.func 184) #[] #[])).put 5 (.func (.func 186) #[] #[])).put 6 (.string ⟨#[115]⟩));have u:=hF.cell 0;have z1:=hF.cell 1;have z2:=hF.cell 2;have z3:=hF.cell 3;have F:=hF.cell 4;have M:=hF.cell 5;have a0:=hF.cell 6;unfold nr at u z1 z2 z3 F M a0;simp at u z1 z2 z3 F M a0;have g:=J ((((((((hB.setCell (p:=⟨w,0,none⟩) aW (0:Int)).setCell (p:=⟨w,1,none⟩) aW (0:Int)).setCell (p:=⟨w,2,none⟩) aW (.func (.func 183) #[] #[])).setCell (p:=⟨w,3,none⟩) aW (.func (.func 223) #[] #[.pointer (some ⟨k,0,none⟩)])).setCell (p:=⟨w,4,none⟩) aW (.func (.func 184) #[] #[])).setCell (p:=⟨w,5,none⟩) aW (.func (.func 186) #[] #[])).setCell (p:=⟨w,6,none⟩) aW (.string ⟨#[115]⟩)).drew);have a2:=J (Bk.drew (Bk.seven z (Bk.apart z hz aZ) (0:Int) (0:Int) (.func (.func 183) #[] #[]) (.func (.func 223) #[] #[.pointer (some ⟨k,0,none⟩)]) (.func (.func 184) #[] #[]) (.func (.func 186) #[] #[]) (.string ⟨#[115]⟩)));have E:Hid (∀(b:Bool),(dF (2,wd)=b)->∀w',Below w w w'->Bk w' k 9 #[Ed 2]->Ending.returned (.tuple #[.agg #[(0:Int),(0:Int),(.func (.func 183) #[] #[]),(.func (.func 223) #[] #[(k,0)]),(.func (.func 184) #[] #[]),(.func (.func 186) #[] #[]),(.string ⟨#[115]⟩)],b])=Ending.returned (.tuple #[.agg #[(0:Int),(0:Int),(.func (.func 183) #[] #[]),(.func (.func 223) #[] #[(k,0)]),(.func (.func 184) #[] #[]),(.func (.func 186) #[] #[]),(.string ⟨#[115]⟩)],dF (2,wd)])/\tL w' 2 #[(0:Int),(0:Int),(.func (.func 183) #[] #[]),(.func (.func 223) #[] #[(k,0)]),(.func (.func 184) #[] #[]),(.func (.func 186) #[] #[]),(.string ⟨#[115]⟩)]/\Below w w w'):=J (λb hb w' h1 a4=>⟨by rw[hb],Or.inr ⟨aZ,aZ,k,rfl,a4⟩,h1⟩);clear hF hz hB y q D z I B S;by_cases t:(0:Int)<=wd
  .by_cases Q:wd<=0
   .have G:decide ((0:Int)<=wd)=true:=cT t;have a3:decide (wd<=0)=true:=cT Q;have l:Hid (dF (2,wd)=true):=J Fw;go_wp2;go_region
    all_goals
     go_wp2_with ((with_reducible show bodyPost _ _ _ _ _ _);refine bodyPost_ret (v:=.tuple #[.agg #[(0:Int),(0:Int),(.func (.func 183) #[] #[]),(.func (.func 223) #[] #[.pointer (some ⟨k,0,none⟩)]),(.func (.func 184) #[] #[]),(.func (.func 186) #[] #[]),(.string ⟨#[115]⟩)],true]) Cn rfl ?_;exact⟨_,E.o _ l.o _ g.o a2.o⟩)
   have G:decide ((0:Int)<=wd)=true:=cT t;have a3:decide (wd<=0)=false:=cG Q;exact N1
  have G:decide ((0:Int)<=wd)=false:=cG t;exact N1
 clear a1;go_in;go_wp21;refine(S.o _).mono ?_;rintro x w1 ⟨R,b1,k,b3,rfl,q,D,z,I,y⟩;obtain⟨⟨c0,c1,c2,a5,a6,a7,a8⟩,⟨f0,f1,b0,b2,b4,b5,b6⟩,hz,hB⟩:=B.o _ y;have b7:R≠w:=Bk.apart2 q hz;have b9:w1.cell? (R,21)=(0:Int):=q.cell 21;have q1:w1.cell? (R,22)=(0:Int):=q.cell 22;have q2:w1.cell? (R,23)=some (.func (.func 187) #[] #[]):=q.cell 23;have q3:w1.cell? (R,24)=some (.func (.func 223) #[] #[(b3,0)]):=q.cell 24;have q4:w1.cell? (R,25)=some (.func (.func 188) #[] #[]):=q.cell 25;have q5:w1.cell? (R,26)=some (.func (.func 189) #[] #[]):=q.cell 26;have c7:w1.cell? (R,27)=some (.string ⟨#[]⟩):=q.cell 27;have hF:=Bk.drew (((((((hz.put 0 (0:Int)).put 1 (0:Int)).put 2 (.func (.func 187) #[] #[])).put 3 (.func (.func 223) #[] #[.pointer (some ⟨b3,0,none⟩)])).put 4 (.func (.func 188) #[] #[])).put 5 (.func (.func 189) #[] #[])).put 6 (.string ⟨#[]⟩));have u:=hF.cell 0;have z1:=hF.cell 1;have z2:=hF.cell 2;have z3:=hF.cell 3;have F:=hF.cell 4;have M:=hF.cell 5;have a0:=hF.cell 6;unfold nr at u z1 z2 z3 F M a0;simp at u z1 z2 z3 F M a0;have g:=J ((((((((hB.setCell (p:=⟨w,0,none⟩) aW (0:Int)).setCell (p:=⟨w,1,none⟩) aW (0:Int)).setCell (p:=⟨w,2,none⟩) aW (.func (.func 187) #[] #[])).setCell (p:=⟨w,3,none⟩) aW (.func (.func 223) #[] #[.pointer (some ⟨b3,0,none⟩)])).setCell (p:=⟨w,4,none⟩) aW (.func (.func 188) #[] #[])).setCell (p:=⟨w,5,none⟩) aW (.func (.func 189) #[] #[])).setCell (p:=⟨w,6,none⟩) aW (.string ⟨#[]⟩)).drew);have a2:=J (Bk.drew (Bk.seven I (Bk.apart I hz aZ) (0:Int) (0:Int) (.func (.func 187) #[] #[]) (.func (.func 223) #[] #[.pointer (some ⟨b3,0,none⟩)]) (.func (.func 188) #[] #[]) (.func (.func 189) #[] #[]) (.string ⟨#[]⟩)));have E:Hid (∀(b:Bool),(dF (3,wd)=b)->∀w',Below w w w'->Bk w' b3 9 #[Ed 3]->Ending.returned (.tuple #[.agg #[(0:Int),(0:Int),(.func (.func 187) #[] #[]),(.func (.func 223) #[] #[(b3,0)]),(.func (.func 188) #[] #[]),(.func (.func 189) #[] #[]),(.string ⟨#[]⟩)],b])=Ending.returned (.tuple #[.agg #[(0:Int),(0:Int),(.func (.func 187) #[] #[]),(.func (.func 223) #[] #[(b3,0)]),(.func (.func 188) #[] #[]),(.func (.func 189) #[] #[]),(.string ⟨#[]⟩)],dF (3,wd)])/\tL w' 3 #[(0:Int),(0:Int),(.func (.func 187) #[] #[]),(.func (.func 223) #[] #[(b3,0)]),(.func (.func 188) #[] #[]),(.func (.func 189) #[] #[]),(.string ⟨#[]⟩)]/\Below w w w'):=J (λb hb w' h1 a4=>⟨by rw[hb],Or.inr ⟨aZ,aZ,b3,rfl,a4⟩,h1⟩);clear hF hz hB y q D z I B S;by_cases t:(0:Int)<=wd
 .by_cases Q:wd<=0
  .have G:decide ((0:Int)<=wd)=true:=cT t;have a3:decide (wd<=0)=true:=cT Q;have l:Hid (dF (3,wd)=true):=J Fw;go_wp2;go_region
   all_goals
    go_wp2_with ((with_reducible show bodyPost _ _ _ _ _ _);refine bodyPost_ret (v:=.tuple #[.agg #[(0:Int),(0:Int),(.func (.func 187) #[] #[]),(.func (.func 223) #[] #[.pointer (some ⟨b3,0,none⟩)]),(.func (.func 188) #[] #[]),(.func (.func 189) #[] #[]),(.string ⟨#[]⟩)],true]) Cn rfl ?_;exact⟨_,E.o _ l.o _ g.o a2.o⟩)
  have G:decide ((0:Int)<=wd)=true:=cT t;have a3:decide (wd<=0)=false:=cG Q;exact N2
 have G:decide ((0:Int)<=wd)=false:=cG t;exact N2
end
open Go.Proofs.YtnjkjoklnephcaaGreatDoor.Rows in
def vr:List (String×DataW Unit):=[("math/bits.deBruijn32tab",laid_math_bits_deBruijn32tab),("math/bits.deBruijn64tab",laid_math_bits_deBruijn64tab),("internal/strconv.uint64pow10",laid_internal_strconv_uint64pow10),("unicode/utf8.acceptRanges",laid_unicode_utf8_acceptRanges),("unicode/utf8.first",laid_unicode_utf8_first)]
theorem Ub {P:Program} {x:String×DataW Unit} {l:List (String×DataW Unit)} {W:au} (h:laidMet P (x::l) W):laidMet P l W:=by obtain⟨n,d⟩:=x;obtain⟨G,⟨g,t,B,fuel,p,q,h1,D,E,F,k,rfl⟩,u,z⟩:=h;refine⟨q,k,(List.nodup_append.1 u).2.1,λb off y=>z b off (List.mem_append_right _ y)⟩
theorem Zkf {W:au} (h:laidMetH prog vr W):Lib.TabIs prog W "internal/strconv.uint64pow10" .u64 Lib.pow10Tab:=by rw[MakeChecks.laidMetH_plain _ _ _ dE] at h;have k:=Ub (Ub h);exact Lib.tabIs_of_head (g:=1) dE (t:=409) (e:=230) (n:=20) dE dE dE dE dE k
theorem Zh5 {W W':au} (hb:Below W W W') {g:Array aJ} (h:W.var? prog "internal/strconv.uint64pow10" =some g):W'.var? prog "internal/strconv.uint64pow10" =W.var? prog "internal/strconv.uint64pow10" :=by
 have k:prog.globalNamed "internal/strconv.uint64pow10" =some 1:=dE;unfold World.var? at h⊢;rw[k] at h⊢;simp only[Option.bind_some] at h⊢;have ab:1<W.heap.size:=by rcases Nat.lt_or_ge 1 W.heap.size with h1|h1;exact h1;rw[Array.getElem?_eq_none h1] at h;cases h
 rw[hb.block _ ab]
theorem Vb {W:au} (h:laidMetH prog vr W):gL W:=λW' hb=>by have h1:=Zkf h;unfold Lib.TabIs at h1⊢;rw[<-h1];exact Zh5 hb h1
end Go.Proofs.Y
namespace Wv
open Go Go.RowKit Go.Deep Go.ChangeShapes Go.WideShapes
variable{A:bS}{cap fuel n:Nat}
def cv (l:List (Int×aS)):List aJ:=l.flatMap λx=>[iv x.1,sv x.2]
theorem Uo (l:List (Int×aS)):(cv l)=l.length*2:=by
 induction l with
 |nil=>rfl
 |cons c D ih=>rw[show cv (c::D)=[iv c.1,sv c.2]++cv D from rfl,bT,ih,f'];exact fp
theorem ZkO (D:List (Int×aS)):∀(i:Nat) (h:i<D),(cv D)[i*2]? =some (iv D[i].1)/\(cv D)[i*2+1]? =some (sv D[i].2):=by
 induction D with
 |nil=>exact aI
 |cons c D ih=>
  intro i h;have e:cv (c::D)=[iv c.1,sv c.2]++cv D:=rfl;match i,h with
  |0,_=>exact⟨rfl,rfl⟩
  |i+1,h=>have g:i<D:=aI;rw[e,pR aI,pR aI];have:=ih i g;rw[show(i+1)*2-[iv c.1,sv c.2].length=i*2 from by exact fp,show(i+1)*2+1-[iv c.1,sv c.2].length=i*2+1 from by exact fp];exact this
def yi (w:au) (A:bS) (L:List (List (Int×aS))):Prop:=
 ∀i (h:i<L.length),∃b o B cap,A=some ⟨b,o,none⟩/\b<w.heap.size/\w.cell? ⟨b,o+i,none⟩=some (.slice B L[i].length cap)/\At w B (cv L[i])/\L[i].length<=cap
theorem yi.below {w w':au} {L:List (List (Int×aS))} (h:yi w A L) (hb:Below w w w'):yi w' A L:=by intro i hi;obtain⟨b,o,B,cap,l,ab,h1,g,k⟩:=h i hi;exact⟨b,o,B,cap,l,eD ab hb.size,(hb.cell (p:=⟨b,_,none⟩) ab).trans h1,g.below hb,k⟩
section
variable {H:Type} {enc:TypeId×aJ->H} {P:Program} {w:au} {base:Nat} {spare:Nat->Bool} {held:Bool}
theorem Zi4 {t e i0 i1:TypeId} {f0 f1:Field} {x:DataW H×List MemPlace} (a8:P.underlying t=some (.slice e)) (a6:P.underlying e=some (.struct #[f0,f1]))
  (a4:P.cellsOf e=2) (o:f0.offset=0/\f1.offset=1) (tt:f0.type=i0/\f1.type=i1) (c0:P.cellsOf i0=1) (b5:P.underlying i0=some (.int .i64)) (c1:P.cellsOf i1=1) (b6:P.underlying i1=some .string)
  (h:DataW.trod enc P w base spare held fuel t [.slice A n cap]=some x):
  ∃l:List (Int×aS),At w A (cv l)/\(∀c∈l,kD c.1/\c.2.size<=9223372036854775807)/\n=l/\n<=9223372036854775807:=by
 obtain⟨b2,b3⟩:=o;obtain⟨t0,t1⟩:=tt;rcases open_slice a8 h with ⟨h0,_⟩|⟨a,len,c,m,k,D,Pl,F,hb,c6,hm,c7,rfl,a9⟩;exact I4;simp at F;obtain⟨rfl,rfl,rfl⟩:=F;have c3:n<=m:=aI
 have each:∀i,i<n->∃q:Int×aS,(kD q.1/\q.2.size<=9223372036854775807)/\w.cell? (a.add (i*2))=q.1/\w.cell? (a.add (i*2+1))=q.2:=by
  intro i hi;obtain⟨a2,h1,h2⟩:=a9 i O;rw[a4] at h1;obtain⟨_,y,B⟩:=World.cells?_some h1;obtain⟨b8,k',c5,b9,_,a5,Q⟩:=DataW.trod_struct a6 h2;match b8,a5,a2,y with
  |[c8,y1],_,[v0,v1],_=>have I:=Q 0 f0 rfl;have M:=Q 1 f1 rfl;simp[b2,t0,c0] at I;simp[b3,t1,c1] at M;obtain⟨a3,r0,_,b7⟩:=DataW.trod_int b5 I;obtain⟨a1,R,_,w1⟩:=DataW.trod_string b6 M;simp at r0 R;subst r0 R;have e0:=B 0 O;have E:=B 1 O;rw[add_add] at e0 E;exact⟨(a3,a1),⟨DF b7,by unfold maxLen at w1;omega⟩,aI,by simpa using E⟩
 have b0:Inhabited (Int×aS):=⟨(0,⟨#[]⟩)⟩;obtain⟨q,g⟩:=choose_lt each;refine⟨(List.range n).map q,?_,?_,by simp,Fe⟩;intro i hi;rw[Uo] at hi;obtain⟨j,c4⟩:=ay (i/2);have S:j<n:=(by simp at hi;omega);obtain⟨_,G,q1⟩:=g j S;obtain⟨b,off,z⟩:=a;have b1:z=none:=P1;subst b1;rw[add_plain] at G q1;refine⟨b,off,rfl,GF G,?_⟩;obtain⟨p,b4⟩:=ZkO ((List.range n).map q) j (by simpa using S);have u:i=j*2\/i=j*2+1:=O;have key:∀v,(cv ((List.range n).map q))[i]? =some v->w.cell? ⟨b,off+i,none⟩=some v->w.cell? ⟨b,off+i,none⟩=some ((cv ((List.range n).map q))[i]'(by rw[Uo];exact hi)):=P2;rcases u with u|u;exact Q2;refine key (sv (q j).2) ?_ (by rw[u];exact q1);rw[u];simpa using b4;grind
theorem Zdc {T t e i0 i1:TypeId} {f0 f1:Field} {x:DataW H×List MemPlace} (R:P.underlying T=some (.slice t)) (M:P.cellsOf t=1) (G:P.underlying t=some (.slice e)) (a0:P.underlying e=some (.struct #[f0,f1]))
  (Q:P.cellsOf e=2) (o:f0.offset=0/\f1.offset=1) (tt:f0.type=i0/\f1.type=i1) (c0:P.cellsOf i0=1) (a6:P.underlying i0=some (.int .i64)) (c1:P.cellsOf i1=1) (a7:P.underlying i1=some .string)
  (h:DataW.trod enc P w base spare held fuel T [.slice A n cap]=some x):
  ∃L:List (List (Int×aS)),yi w A L/\(∀l∈L,l.length<=9223372036854775807/\∀c∈l,kD c.1/\c.2.size<=9223372036854775807)/\n=L/\n<=9223372036854775807:=by
 rcases open_slice1 R M h with ⟨h0,_⟩|⟨a,len,c,m,k,V,D,Pl,u,hb,a1,hm,b4,rfl,a4⟩;simp at h0;obtain⟨rfl,rfl,rfl⟩:=h0;exact⟨[],λi hi=>absurd hi (tU _),by simp,rfl,O⟩;simp at u;obtain⟨rfl,rfl,rfl⟩:=u;have b0:n<=m:=aI
 have each:∀i,i<n->∃q:List (Int×aS),(q.length<=9223372036854775807/\∀c∈q,kD c.1/\c.2.size<=9223372036854775807)/\∃B cap,w.cell? (a.add i)=some (.slice B q cap)/\At w B (cv q)/\q.length<=cap:=by
  intro i hi;obtain⟨h1,y⟩:=a4 i O;obtain⟨B,z,p,S,b2⟩:∃B z p,V i=.slice B z p/\z<=p:=by rcases open_slice G y with ⟨h0,_⟩|⟨a,len,c,_,_,_,_,u,_,a2,_⟩;exact aI;grind
  rw[S] at h1 y;obtain⟨l,a1,b1,b3,a3⟩:=Zi4 G a0 Q o tt c0 a6 c1 a7 y;grind
 obtain⟨q,F⟩:=choose_lt each;refine⟨(List.range n).map q,?_,?_,by simp,Fe⟩
 .intro i hi;have a8:i<n:=(by simpa using hi);obtain⟨B,I,E,q1,q2⟩:=(F i a8).2;obtain⟨b,off,g⟩:=a;have a5:g=none:=by obtain⟨_,_,a9,_⟩:=(F 0 O).2;simpa [Addr.add] using World.cell?_spot a9
  subst a5;rw[add_plain] at E;refine⟨b,off,B,I,rfl,GF E,?_,?_,by simpa using q2⟩;simp only[uL,Ez];exact E;simp only[uL,Ez];exact q1
 grind
end
