import Derived.Test.YtikecoijpkmnbaaGreatDoorJ09
import Derived.Test.YtikecoijpkmnbaaGreatDoorJ10
import Derived.Test.YtikecoijpkmnbaaGreatDoorJ11
import Derived.Test.YtikecoijpkmnbaaGreatDoorRows
import Derived.Lay
import Derived.LaidMore
import Derived.Lib.LaidTab
set_option linter.all false
set_option maxRecDepth 100000
set_option maxHeartbeats 0
open Go.Proofs.Tryz (prog results88)
section
variable{P Q:Prop}
theorem Cv(h:P:=by rw[Z0];omega):P:=h
theorem Fi(h:P:=by unfold ZM;grind):P:=h
theorem Fm(h:P:=by unfold dS;simp;omega):P:=h
theorem I3(h:P:=by have:(fO dv s (aH v)&&lI dv st vs)=true:=h;grind):P:=h
theorem PE(h:P:=by unfold Zb;rw[Vag rfl,Vae (by omega),Vag (by rw[Z0];omega)]):P:=h
theorem Cj(h:P:=by simp[results,results88,go_sem,u,z1,z2,z3,F,M,a3];try rfl):P:=h
theorem P4(h:P:=by unfold Zb;rw[Vag rfl,Vae (by omega),Vae (by rw[Z0];omega),ep,Zm]):P:=h
theorem NW(h:P:=by
 have l:Hid (dS (0,wd)=false):=J (by unfold dS;simp;omega);go_wp2;go_region
 all_goals
  go_wp2_with ((with_reducible show bodyPost _ _ _ _ _ _);refine bodyPost_ret (v:=.tuple #[.agg #[(1:Int),(128:Int),(.func (.func 166) #[] #[]),(.func (.func 167) #[] #[]),(.func (.func 168) #[] #[]),(.func (.func 169) #[] #[]),(.string ⟨#[98]⟩)],false]) (by simp[results,results88,go_sem,u,z1,z2,z3,F,M,a3];try rfl) rfl ?_;exact⟨_,I.o _ l.o _ g.o a2.o⟩)):P:=h
theorem NR(h:P:=by
 have l:Hid (dS (3,wd)=false):=J (by unfold dS;simp;omega);go_wp2;go_region
 all_goals
  go_wp2_with ((with_reducible show bodyPost _ _ _ _ _ _);refine bodyPost_ret (v:=.tuple #[.agg #[(0:Int),(0:Int),(.func (.func 180) #[] #[]),(.func (.func 221) #[] #[.pointer (some ⟨b3,0,none⟩)]),(.func (.func 181) #[] #[]),(.func (.func 182) #[] #[]),(.string ⟨#[]⟩)],false]) (by simp[results,results88,go_sem,u,z1,z2,z3,F,M,a3];try rfl) rfl ?_;exact⟨_,I.o _ l.o _ g.o a2.o⟩)):P:=h
theorem NB(h:P:=by
 have l:Hid (dS (1,wd)=false):=J (by unfold dS;simp;omega);go_wp2;go_region
 all_goals
  go_wp2_with ((with_reducible show bodyPost _ _ _ _ _ _);refine bodyPost_ret (v:=.tuple #[.agg #[(0:Int),(0:Int),(.func (.func 170) #[] #[]),(.func (.func 221) #[] #[.pointer (some ⟨b1,0,none⟩)]),(.func (.func 173) #[] #[]),(.func (.func 175) #[] #[]),(.string ⟨#[114]⟩)],false]) (by simp[results,results88,go_sem,u,z1,z2,z3,F,M,a3];try rfl) rfl ?_;exact⟨_,I.o _ l.o _ g.o a2.o⟩)):P:=h
theorem NI(h:P:=by
 have l:Hid (dS (2,wd)=false):=J (by unfold dS;simp;omega);go_wp2;go_region
 all_goals
  go_wp2_with ((with_reducible show bodyPost _ _ _ _ _ _);refine bodyPost_ret (v:=.tuple #[.agg #[(0:Int),(0:Int),(.func (.func 176) #[] #[]),(.func (.func 221) #[] #[.pointer (some ⟨k,0,none⟩)]),(.func (.func 177) #[] #[]),(.func (.func 179) #[] #[]),(.string ⟨#[115]⟩)],false]) (by simp[results,results88,go_sem,u,z1,z2,z3,F,M,a3];try rfl) rfl ?_;exact⟨_,I.o _ l.o _ g.o a2.o⟩)):P:=h
end
namespace Wv
section
variable{c:ax}{k n r:Nat}
def xJ (r:Nat):Nat:=(r/2) ^^^ (if r % 2=1 then 3988292384 else 0)
def wu:Nat->Nat->Nat
 |0,r=>r
 |k+1,r=>xJ (wu k r)
def crg (r:Nat):ax->Nat
 |[]=>r
 |b::l=>crg (wu 8 (r ^^^ b.toNat)) l
def qU (l:ax):Nat:=4294967295-crg 4294967295 l
theorem Y_ (h:r<2 ^ 32):xJ r<2 ^ 32:=by refine Nat.xor_lt_two_pow O ?_;grind
theorem ZlV (h:r<2 ^ 32) (k:Nat):wu k r<2 ^ 32:=by
 induction k with
 |zero=>exact h
 |succ k ih=>exact Y_ ih
theorem Zi6 (l:ax) (b:cj):∀r,crg r (l++[b])=wu 8 (crg r l ^^^ b.toNat):=by
 induction l with
 |nil=>intro r;rfl
 |cons a l ih=>intro r;exact ih _
theorem Z84 (l:ax):qU l<4294967296:=by unfold qU;omega
def zA (n:Nat):ax:=[UInt8.ofNat n,UInt8.ofNat (n/256),UInt8.ofNat (n/65536),UInt8.ofNat (n/16777216)]
def pZ (s:ax):ax:=s++zA (qU s)
def wn (s:ax):Nat:=(s.getD (s.length-4) 0).toNat+256*(s.getD (s.length-3) 0).toNat+65536*(s.getD (s.length-2) 0).toNat+16777216*(s.getD (s.length-1) 0).toNat
def qO (s:ax):Bool:=decide (4<=s.length)&&decide (qU (s.take (s.length-4))=wn s)
theorem ZmH (h:n<4294967296):(UInt8.ofNat n).toNat+256*(UInt8.ofNat (n/256)).toNat+65536*(UInt8.ofNat (n/65536)).toNat+16777216*(UInt8.ofNat (n/16777216)).toNat=n:=by simp only[UInt8.toNat_ofNat'];omega
theorem Z8L (s:ax):qO (pZ s)=true:=by
 have k:(pZ s)=s.length+4:=(by simp[pZ,zA]);unfold qO;rw[gm,Vax,Vax,k];refine⟨O,?_⟩;have h1:(pZ s).take (s.length+4-4)=s:=by exact List.take_left
 rw[h1];unfold wn;rw[k];have g:∀i,i<4->(pZ s).getD (s.length+i) 0=(zA (qU s)).getD i 0:=λi hi=>by unfold pZ;grind
 rw[show s.length+4-4=s.length+0 by omega,show s.length+4-3=s.length+1 by omega,show s.length+4-2=s.length+2 by omega,show s.length+4-1=s.length+3 by omega,g 0 O,g 1 O,g 2 O,g 3 O];exact(ZmH (Z84 s)).symm
theorem Zg2 (s:ax):(pZ s)=s.length+4:=by simp[pZ,zA]
def Qx (k:Nat) (c t:ax):Nat:=if t.length<c then k+16 else k
def ZM (c t:ax):ax:=if t.length<c then t else c
def vk (k:Nat) (c t:ax):ax:=pZ (165::UInt8.ofNat (Qx k c t)::(bi (ZM c t).length++ZM c t))
def Zo (k:Nat) (c:ax):Option ax:=(lx c).map (vk k c)
def uo (b:Nat) (cU:ax):Option ax:=if 16<=b then(if(qm cU 4096).2=0 then some (qm cU 4096).1 else none) else some cU
def ZI (data:ax):Option (Nat×ax×Nat):=match data with
 |a::b::r=>if a≠165\/32<=b.toNat then none else match fe r 4096 with
  |none=>none
  |some (cU,r2)=>if r2.length<4 then none else if qO (data.take (data.length-(r2.length-4)))=false then none else
   match uo b.toNat cU with
   |none=>none
   |some c=>if Zo (b.toNat % 16) c=some (data.take (data.length-(r2.length-4))) then some (b.toNat % 16,c,data.length-(r2.length-4)) else none
 |_=>none
theorem QT (k:Nat) (c t:ax):(vk k c t)=(bi (ZM c t)).length+(ZM c t).length+6:=by unfold vk;rw[Zg2];grind
theorem JB (F:k<16) {w:ax} (h:Zo k c=some w) (rest:ax):ZI (w++rest)=some (k,c,w.length):=by
 have h0:=h;unfold Zo at h;rcases l:lx c with _|t;exact aO;rw[l] at h;injection h with h;have E:=C5 l;have hb:(ZM c t).length<=4096:=Fi;have p:w=165::UInt8.ofNat (Qx k c t)::(bi (ZM c t).length++ZM c t++zA (qU (165::UInt8.ofNat (Qx k c t)::(bi (ZM c t).length++ZM c t)))):=by rw[<-h];unfold vk pZ;simp
 obtain⟨q,z⟩:=ay (zA (qU (165::UInt8.ofNat (Qx k c t)::(bi (ZM c t).length++ZM c t))));have u:q.length=4:=(by rw[<-z];rfl);rw[z] at p;have B:(UInt8.ofNat (Qx k c t)).toNat=Qx k c t:=by rw[UInt8.toNat_ofNat'];unfold Qx;split<;>omega
 have hd:w++rest=165::UInt8.ofNat (Qx k c t)::(bi (ZM c t).length++(ZM c t++(q++rest))):=(by rw[p];simp);have D:w.length=2+(bi (ZM c t)).length+(ZM c t).length+4:=(by rw[p];simp[u];omega);have G:qO w=true:=(by rw[<-h];exact Z8L _);have I:uo (Qx k c t) (ZM c t)=some c:=by unfold uo Qx ZM;by_cases g:t<c.length;rw[Vag g,Vag g,Vag O,ZqI l 4096 O,Vag rfl];rw[Vae g,Vae g,Vae O]
 have y:Qx k c t % 16=k:=(by unfold Qx;split<;>omega);have hsize:(w++rest).length-((q++rest).length-4)=w:=(by rw[Vab,Vab,u];omega);rw[hd];unfold ZI;simp only;rw[Vae (by rw[B];unfold Qx;rintro(h1|h1);exact h1 rfl;split at h1<;>omega),Yo _ _ hb O];grind
theorem XU {data:ax} (h:ZI data=some (k,c,n)):Zo k c=some (data.take n)/\k<16/\n<=data:=by unfold ZI at h;grind
theorem X7 :(Zo k c).isSome=decide (c.length<=4096):=by unfold Zo lx;grind
end
theorem KU (l:ax):∀a,vl a l=a*256 ^ l.length+vl 0 l:=by
 induction l with
 |nil=>simp[vl]
 |cons b r ih=>have e:∀x,vl x (b::r)=vl (256*x+b.toNat) r:=λx=>rfl;grind
theorem Zlf (l:ax):vl 0 l<256 ^ l.length:=by
 induction l with
 |nil=>simp[vl]
 |cons b r ih=>have e:vl 0 (b::r)=vl (256*0+b.toNat) r:=rfl;rw[e,KU,gd,rn,Nat.mul_zero,jK];have hb:=b.toNat_lt;have:b.toNat*256 ^ r.length<=255*256 ^ r.length:=Ad _ O;omega
theorem Zqv (l:ax):∀a,be l (vl a l)=l:=by
 induction l with
 |nil=>intro a;rfl
 |cons b r ih=>intro a;show UInt8.ofNat (vl (256*a+b.toNat) r/256 ^ r.length)::be r (vl (256*a+b.toNat) r)=_;rw[ih];congr 1;rw[KU,tP,Nat.mul_add_div (Nat.pow_pos O),Nat.div_eq_of_lt (Zlf r)];apply UInt8.toNat_inj.1;have hb:=b.toNat_lt;rw[UInt8.toNat_ofNat'];omega
theorem ZiV (c:Nat) (k:c<256):256-2 ^ (8-eD c)<=c/\c-(256-2 ^ (8-eD c))<2 ^ (7-eD c)/\(eD c=8->c=255):=by have h:=FX c;rcases h with ⟨h,h1,g⟩|⟨h,h1,g⟩|⟨h,h1,g⟩|⟨h,h1,g⟩|⟨h,h1,g⟩|⟨h,h1,g⟩|⟨h,h1,g⟩|⟨h,h1,g⟩|⟨h,h1⟩<;>rw[h]<;>simp only[Nat.reducePow,Nat.reduceSub]<;>omega
theorem Zpj {n k:Nat} (l:k<=8) (h1:gi k<=n) (g:k<8->n<gi (k+1)):ee n=k:=by have h:=C4 n;have hb:=QV;rcases nine k l with rfl|rfl|rfl|rfl|rfl|rfl|rfl|rfl|rfl<;>simp only[Nat.reduceAdd,Nat.reduceLT,forall_const] at g<;>omega
theorem Wc {s:ax} {n z:Nat} (h:gP s=some (n,z)):s=bi n++s.drop z:=by
 rcases s with _|⟨c,t⟩;exact po;rw[GQ] at h;split at h;exact aO;rename_i hl;split at h;exact aO;injection h with h;injection h with h1 h2;have hc:=c.toNat_lt;obtain⟨a1,a2,a3⟩:=ZiV c.toNat O;have hk:=Hg c.toNat;obtain⟨k,qj⟩:=ay (eD c.toNat);rw[qj] at hl h1 h2 a1 a2 a3 hk;obtain⟨l,fJ⟩:=ay (t.take k);have hlen:l=k:=aO;rw[fJ] at h1;obtain⟨a,ha⟩:=ay (c.toNat-(256-2 ^ (8-k)));rw[ha] at h1 a2;have hv:=KU l a;have ab:=Zlf l;rw[hlen] at hv ab
 have Rv:ee n=k:=by
  refine Zpj hk O (λh8=> ?_);have e:gi (k+1)=gi k+2 ^ (7*(k+1)):=rfl;rw[e];have hp:2 ^ (7*(k+1))=2 ^ (7-k)*256 ^ k:=by rw[show(256:Nat)=2 ^ 8 from rfl,<-Nat.pow_mul,<-Nat.pow_add];grind
  have hm:(a+1)*256 ^ k<=2 ^ (7-k)*256 ^ k:=Ad _ a2;grind
 have oL:n-gi k=vl a l:=O;have hdiv:vl a l/256 ^ k=a:=by rw[hv,tP,Nat.mul_add_div (Nat.pow_pos O),Nat.div_eq_of_lt ab];omega
 unfold bi;rw[Rv,oL,hdiv,<-hlen,Zqv,hlen];have iM:UInt8.ofNat (256-2 ^ (8-k)+a)=c:=by rw[show 256-2 ^ (8-k)+a=c.toNat by omega];exact UInt8.ofNat_toNat
 rw[iM,<-h2,jw,List.drop_succ_cons,<-fJ,vH]
section
variable{most:Nat}{r s:ax}
theorem Zc5 {n:Nat} (h:dN s most=some (n,r)):s=bi n++r/\n<=most:=by unfold dN at h;split at h;exact aO;rename_i hr;split at h;exact aO;injection h with h;injection h with h1 h2;subst h1;rw[<-h2];exact⟨Wc hr,O⟩
theorem Z8Y {a:ax} (h:fe s most=some (a,r)):s=bi a.length++(a++r)/\a<=most:=by unfold fe at h;split at h;exact aO;rename_i n t hr;split at h;exact aO;injection h with h;injection h with h1 h2;obtain⟨c1,c2⟩:=Zc5 hr;have hlen:a=n:=aO;rw[hlen,<-h1,<-h2,vH];grind
end
section
variable{d data r v:ax}{n:Nat}{s:Int×Int}{st:List (Int×Int)}{vs:a'}
theorem ZlG (x y:cj) (h:∀i,i<8->x.toNat.testBit i=y.toNat.testBit i):x=y:=by apply UInt8.toNat_inj.1;apply Nat.eq_of_testBit_eq;intro i;rcases Nat.lt_or_ge i 8 with h1|h1;exact aO;have g:=iq x;have k:=iq y;have l:256<=2 ^ i:=co aY (pQ (show 0<2 by omega) h1);rw[Nat.testBit_lt_two_pow O,Nat.testBit_lt_two_pow O]
theorem ZoE (s t:aT) (g:s.size=t.size) (h:∀i,i<8*s.size->jG s i=jG t i):s=t:=by apply xc;apply Array.ext g;intro j h1 k;apply ZlG;intro i hi;have:=h (8*j+(7-i)) (by have:j<s.size:=h1;omega);unfold jG at this;rw[show(8*j+(7-i))/8=j from by exact O,show 7-(8*j+(7-i)) % 8=i from by exact O] at this;grind
def kA (v:ax):List Bool:=v.map (λc=>decide (cd c % 2=1))
def kz (v:ax):List Bool:=v.map (λc=>decide (2<=cd c))
def lH (a b:List Bool):ax:=List.zipWith (λx y=>ch (x.toNat+2*y.toNat)) a b
def uj (d:ax) (n:Nat):Bool:=(List.range (8*d.length)).all (λi=>decide (i<n)|| !jG (bs d) i)
theorem Kh :uj d n=true↔∀i,n<=i->i<8*d.length->jG (bs d) i=false:=by unfold uj;grind
def re (d:ax) (n:Nat):Option (List Bool):=if n<=8*d.length/\uj d n=true then some (rbits (bs d) n) else none
theorem XF (l:List Bool) (i:Nat) (h:i<8*(ct l).length):jG (bs (ct l)) i=l.getD i false:=rbit_pack l i h
theorem VO (l:List Bool):re (ct l) l.length=some l:=by have k:=pack_length l;unfold re;rw[Vag ⟨O,Kh.2 (λi h1 g=>by rw[XF l i g];grind)⟩];congr 1;apply Vco;rw[rM];intro i h1 g;have e:(rbits (bs (ct l)) l)[i]=jG (bs (ct l)) i:=(by simp[rbits]);rw[e,XF l i O];grind
theorem VZ (hd:d=(n+7)/8) {l:List Bool} (h:re d n=some l):ct l=d/\l=n:=by
 unfold re at h;split at h
 .rename_i hc;obtain⟨c1,c3⟩:=hc;have c2:=Kh.1 c3;injection h with h;have e9:l=n:=(by rw[<-h,rM]);refine⟨?_,e9⟩;have hp:=pack_length l;have:bs (ct l)=bs d:=by apply ZoE;rw[Z0,Z0];omega;intro i hi;rw[Z0] at hi;rw[XF l i hi];rcases Nat.lt_or_ge i n with h1|h1;rw[<-h,MV _ _ _ h1];grind
  exact congrArg aH this
 grind
theorem Z9h (h:∀c∈v,cd c<4):lH (kA v) (kz v)=v:=by
 unfold lH kA kz;induction v with
 |nil=>rfl
 |cons c r ih=>
  rw[tR,tR,List.zipWith_cons_cons,ih (λx k=>h x (gM _ k))];congr 1;have g:=h c fi;have:(decide (cd c % 2=1)).toNat+2*(decide (2<=cd c)).toNat=cd c:=by rcases(show cd c=0\/cd c=1\/cd c=2\/cd c=3 by omega) with e|e|e|e<;>rw[e]<;>rfl
  rw[this];exact My c g
theorem ZcO:∀x y:Bool,x.toNat+2*y.toNat<4/\decide ((x.toNat+2*y.toNat) % 2=1)=x/\decide (2<=x.toNat+2*y.toNat)=y:=aY
theorem RW:∀ {a b:List Bool},a=b.length->kA (lH a b)=a/\kz (lH a b)=b
 |[],[],_=>⟨rfl,rfl⟩
 |[],_::_,h=>aO
 |_::_,[],h=>aO
 |x::a,y::b,h=>by obtain⟨i1,g⟩:=RW (a:=a) (b:=b) aO;obtain⟨k1,k2,k3⟩:=ZcO x y;have e:lH (x::a) (y::b)=ch (x.toNat+2*y.toNat)::lH a b:=rfl;rw[e];unfold kA kz at*;rw[tR,tR,i1,g,HI _ k1,k2,k3];grind
/-! ## Kinds, parts of values -/
def dS (s:Int×Int):Bool:=(decide (s.1=0)&&decide (1<=s.2)&&decide (s.2<=128))||((decide (s.1=1)||decide (s.1=2)||decide (s.1=3))&&decide (s.2=0))
section
variable (dv:ax->Bool)
def sD (k w:Int) (v:ax):Bool:=if k=0 then gH w v else if k=1 then dv v else if k=2 then decide (v.length<=64) else decide (v=[])
def fO (s:Int×Int) (v:ax):Bool:=dS s&&sD dv s.1 s.2 v
def lI:List (Int×Int)->a'->Bool
 |[],[]=>true
 |s::st,v::vs=>fO dv s (aH v)&&lI st vs
 |_,_=>false
def fN (st:List (Int×Int)):Bool:=st.all dS&&decide (st.length<=64)
def hQ (st:List (Int×Int)) (vs:a'):Bool:=fN st&&lI dv st vs
end
def ko (s:Int×Int) (v:ax):ax:=if s.1=0 then ct (kA v)++ct (kz v) else if s.1=3 then[] else bi v.length++v
def pM (s:Int×Int):Nat:=(s.2.toNat+7)/8
def bitV (s:Int×Int) (r:ax):ax:=match re (r.take (pM s)) s.2.toNat,re ((r.drop (pM s)).take (pM s)) s.2.toNat with
 |some a,some b=>lH a b
 |_,_=>[]
def jH (s:Int×Int) (r:ax):Option (ax×ax):=
 if s.1=0 then(if r.length<2*pM s then none else some (bitV s r,r.drop (2*pM s)))
 else if s.1=3 then some ([],r) else fe r 4096
def ra:List (Int×Int)->ax->Option (a'×ax)
 |[],r=>some ([],r)
 |s::st,r=>match jH s r with
  |none=>none
  |some (v,r')=>match ra st r' with
   |none=>none
   |some (vs,r'')=>some (bs v::vs,r'')
def ZJ:List (Int×Int)->a'->ax
 |s::st,v::vs=>ko s (aH v)++ZJ st vs
 |_,_=>[]
theorem XI (h:dS s=true) (h0:s.1=0):1<=s.2/\s.2<=128:=by unfold dS at h;grind
theorem XJ (h:dS s=true):s.1=0\/((s.1=1\/s.1=2\/s.1=3)/\s.2=0):=by unfold dS at h;grind
theorem Gp {a:ax} (h:a=n):(a++r).take n=a/\(a++r).drop n=r:=aO
section
variable {dv:ax->Bool}
theorem ZpM (h:fO dv s v=true) (l:(ko s v).length<=4096) (r:ax):jH s (ko s v++r)=some (v,r):=by unfold fO at h;rw[gm] at h;obtain⟨p,g⟩:=h;rcases XJ p with h0|⟨h1,E⟩;obtain⟨w1,I⟩:=XI p h0;unfold sD at g;rw[Vag h0] at g;obtain⟨D,G⟩:=ZN.1 g;have z:=(Zp.1 D).1;have F:v=s.2.toNat:=O;have q:(kA v)=s.2.toNat:=(by unfold kA;grind);have l2:(kz v)=s.2.toNat:=(by unfold kz;grind);have t:(ct (kA v))=pM s:=(by rw[pack_length,q];rfl);have B:(ct (kz v))=pM s:=(by rw[pack_length,l2];rfl);have e:ko s v=ct (kA v)++ct (kz v):=(by unfold ko;grind);unfold jH;rw[Vag h0,e,Vae aO];congr 2;unfold bitV;rw[er,(Gp t).1,(Gp t).2,(Gp B).1];have u:=VO (kA v);have y:=VO (kz v);rw[q] at u;rw[l2] at y;rw[u,y];exact Z9h z;exact(Gp (a:=ct (kA v)++ct (kz v)) (by rw[Vab];omega)).2;have h0:¬s.1=0:=O;unfold jH ko at*;rw[Vae h0] at l⊢;rw[Vae h0];by_cases k:s.1=3;rw[Vag k,Vag k];unfold sD at g;rw[Vae h0,Vae O,Vae O,Vax] at g;rw[g];rfl;rw[Vae k] at l⊢;rw[Vae k,er];rw[Vab] at l;exact Yo v 4096 O O r
theorem Zo4 (w:Int):gH w []=false:=by cases h:gH w [];rfl;exact absurd rfl (Zp.1 (ZN.1 h).1).2.1
theorem Zfv {r':ax} (h:jH s r=some (v,r')) (hv:fO dv s v=true):r=ko s v++r':=by
 unfold fO at hv;rw[gm] at hv;obtain⟨ht,hk⟩:=hv;unfold jH at h;rcases XJ ht with h0|⟨h1,h2⟩
 .obtain⟨w1,w2⟩:=XI ht h0;unfold sD at hk;rw[Vag h0] at hk;rw[Vag h0] at h;split at h;exact aO;rename_i hl;injection h with h;injection h with hb hr;have l1:(r.take (pM s))=pM s:=aO;have l2:((r.drop (pM s)).take (pM s)).length=pM s:=aO;unfold bitV at hb;split at hb;.rename_i a b ha aa;obtain⟨a1,a2⟩:=VZ l1 ha;obtain⟨b1,b2⟩:=VZ l2 aa;obtain⟨q1,q2⟩:=RW (a:=a) (b:=b) O;rw[hb] at q1 q2;have e:ko s v=ct (kA v)++ct (kz v):=(by unfold ko;grind);rw[e,q1,q2,a1,b1,<-hr];have:r.drop (2*pM s)=(r.drop (pM s)).drop (pM s):=(by rw[vM];grind);rw[this,er,vH,vH]
  rw[<-hb,Zo4] at hk;cases hk
 have h0:¬s.1=0:=O;rw[Vae h0] at h;unfold ko;rw[Vae h0];by_cases h3:s.1=3;exact aO;rw[Vae h3] at h⊢;rw[er];exact(Z8Y h).1
theorem w_:∀ {st:List (Int×Int)} {vs:a'},lI dv st vs=true->(ZJ st vs).length<=4096->∀r,ra st (ZJ st vs++r)=some (vs,r)
 |[],[],_,_,r=>rfl
 |[],_::_,h,_,_=>po
 |_::_,[],h,_,_=>po
 |s::st,v::vs,h,hl,r=>by have g:fO dv s (aH v)=true/\lI dv st vs=true:=I3;have e:ZJ (s::st) (v::vs)=ko s (aH v)++ZJ st vs:=rfl;rw[e,Vab] at hl;rw[e,er];unfold ra;rw[ZpM g.1 O];simp only;rw[w_ g.2 O r];rfl
theorem Tn:∀ {st:List (Int×Int)} {vs:a'} {r r':ax},ra st r=some (vs,r')->lI dv st vs=true->r=ZJ st vs++r'
 |[],vs,r,r',h,hv=>by injection h with h;injection h with h1 h2
 |s::st,vs,r,r',h,hv=>by
  unfold ra at h;split at h;exact aO;rename_i v r1 hr;split at h;exact aO;rename_i Dn r2 bL;injection h with h;injection h with h1 h2;subst h1;subst h2;have h3:fO dv s (aH (bs v))=true/\lI dv st Dn=true:=by have:(fO dv s (aH (bs v))&&lI dv st Dn)=true:=hv;grind
  have e:ZJ (s::st) (bs v::Dn)=ko s v++ZJ st Dn:=rfl;rw[e,er,<-Tn bL h3.2];exact Zfv hr h3.1
end
theorem A8 {dv:ax->Bool} :∀ {st:List (Int×Int)} {vs:a'},lI dv st vs=true->vs.length=st
 |[],[],_=>rfl
 |[],_::_,h=>po
 |_::_,[],h=>po
 |s::st,v::vs,h=>by have g:fO dv s (aH v)=true/\lI dv st vs=true:=I3;simp[A8 g.2]
/-! ## The bytes of values -/
def ei (dv:ax->Bool) (st:List (Int×Int)) (vs:a'):ax×Nat:=if hQ dv st vs=false then([],1) else if ZJ st vs=[] then([],0) else match Zo 4 (ZJ st vs) with
 |none=>([],9)
 |some w=>(w,0)
def sJ (data:ax):Option ax:=if data=[] then some [] else match ZI data with
 |none=>none
 |some (k,c,n)=>if n=data/\k=4/\c≠[] then some c else none
def kD (dv:ax->Bool) (st:List (Int×Int)) (data:ax):a'×Nat:=if fN st=false then([],1) else match sJ data with
 |none=>([],12)
 |some t=>match ra st t with
  |none=>([],12)
  |some (vs,r)=>if r=[]/\hQ dv st vs=true then(vs,0) else([],12)
theorem Gf {k:Nat} {c w:ax} (h:Zo k c=some w):w≠[]:=by unfold Zo at h;rcases g:lx c with _|t;exact aO;rw[g] at h;injection h with h;rw[<-h];unfold vk pZ;simp
theorem GT {dv:ax->Bool} (h:ei dv st vs=(data,0)):hQ dv st vs=true/\((ZJ st vs=[]/\data=[])\/(ZJ st vs≠[]/\Zo 4 (ZJ st vs)=some data)):=by unfold ei at h;grind
theorem ZqZ {dv:ax->Bool} (h:ei dv st vs=(data,0)):kD dv st data=(vs,0):=by
 obtain⟨u,q⟩:=GT h;have l:=u;unfold hQ at l;rw[gm] at l;have g:(ZJ st vs).length<=4096:=by rcases q with ⟨h1,_⟩|⟨_,h1⟩;exact aO;have:=X7 (k:=4) (c:=ZJ st vs);grind
 have z:sJ data=some (ZJ st vs):=by unfold sJ;rcases q with ⟨h1,p⟩|⟨h1,p⟩;exact aO;have t:=JB O p [];rw[fg] at t;rw[Vae (Gf p),t];grind
 have y:=w_ l.2 g [];unfold kD;grind
theorem Mu {dv:ax->Bool} (h:kD dv st data=(vs,0)):ei dv st vs=(data,0)/\hQ dv st vs=true:=by
 unfold kD at h;split at h;exact aO;split at h;exact aO;rename_i t ht;split at h;exact aO;rename_i Dn r hr;split at h;.rename_i hc;injection h with h _;subst h;obtain⟨gS,hv⟩:=hc;refine⟨?_,hv⟩;have bp:=hv;unfold hQ at bp;rw[gm] at bp;have PD:=Tn hr bp.2;rw[gS,fg] at PD;unfold ei;rw[Vae aO];unfold sJ at ht;split at ht;exact aO;split at ht;exact aO;rename_i k c n hf;split at ht;obtain⟨w1,_⟩:=XU hf;grind;grind
 grind
theorem snD_len {dv:ax->Bool} (h:kD dv st data=(vs,0)):vs=st.length:=by have:=(Mu h).2;unfold hQ at this;rw[gm] at this;exact A8 this.2
end
section
variable{M d f hi i j k lo n:Nat}{l:List (Nat×Nat)}{s:ax}
def rA (s:ax) (i most p b:Nat) (o:List (Nat×Nat)):Option (Nat×List (Nat×Nat)):=if 4096<i-p\/most<=b then none
 else if s.getD (p+b) 0≠s.getD (i+b) 0 then some (b,o) else if b<oM s p i most then some (oM s p i most,o++[(oM s p i most,i-p)]) else some (b,o)
theorem ZhD (s:ax) (i most p b:Nat) (o:List (Nat×Nat)):pB s i most (p+1) b o=match rA s i most p b o with
  |none=>o
  |some x=>pB s i most p x.1 x.2:=by unfold rA;rw[pB];grind
theorem Zdb :so s i j n (k+1)=if s.getD (i+n) 0=s.getD (j+n) 0 then so s i j (n+1) k else n:=rfl
theorem Zdc :so s i j n 0=n:=rfl
theorem Zdu (h:lo<hi):sq hi lo d=⟨hi,d,0⟩::sq (hi-1) lo d:=by unfold sq;obtain⟨k,g⟩:∃k,hi-lo=k+1:=⟨hi-lo-1,O⟩;rw[g,List.range_succ_eq_map,tR,qx,show hi-1-lo=k by omega];congr 1;apply List.map_congr_left;grind
theorem Zil (h:hi<=lo):sq hi lo d=[]:=by unfold sq;grind
def Bl (l:List (Nat×Nat)) (k:Nat):Nat:=if 0<k then(l.getD (k-1) (0,0)).1 else 1
theorem VF (g:k<l):(l.take (k+1)).reverse=l.getD k (0,0)::(l.take k).reverse:=nk
theorem Zci (g:k<l):ui ((l.take (k+1)).reverse)=sq (l.getD k (0,0)).1 (Bl l k) (l.getD k (0,0)).2++ui ((l.take k).reverse):=by
 rw[VF g];cases k with
 |zero=>show sq _ 1 _=sq _ 1 _++[];grind
 |succ k=>rw[VF (show k<l by omega)];congr 1
theorem Z8r (h:i<s):ss s (f+1) i=((qL s).getD i dU).first::ss s f (i+((qL s).getD i dU).first.len):=by show(if i<s then _ else _)=_;grind
theorem Zbj (h:s<=i):ss s f i=[]:=by
 cases f with
 |zero=>rfl
 |succ f=>show(if i<s then _ else _)=_;grind
theorem Bh (h:n<=4096):eO n<=13:=by unfold eO;split;exact O;rename_i h0;have:=(Nat.log2_lt h0).2 (show n<2 ^ 13 by omega);omega
theorem GC {p:Pc} (h1:p.dist<=4096) (g:p.len<=4096):price p<=38:=by unfold price;have:=Bh h1;have:=Bh g;grind
theorem rR.price {p:Pc} (h:rR s i p):price p<=38:=by rcases h with ⟨h1,k,_⟩|⟨_,_,g,_,l,_⟩;exact GC O O;exact GC g O
theorem B_ {tb:List St} {c:Option St} {p:Pc} (k:∀x∈tb,x.cost<=M/\x.pcs<=M) (l:∀x,c=some x->x.cost<=M+38/\x.pcs<=M+38) (t:price p<=38):∀x,kY tb c p=some x->x.cost<=M+38/\x.pcs<=M+38:=by
 have q:(tb.getD (p.len-1) dU).cost<=M/\(tb.getD (p.len-1) dU).pcs<=M:=by rw[pf];rcases h:tb[p.len-1]? with _|y;exact⟨cf _,cf _⟩;grind
 have u:(zG tb p).cost<=M+38/\(zG tb p).pcs<=M+38:=⟨by show _+_<=_;omega,by show _+1<=_;omega⟩;intro x g;unfold kY at g;grind
theorem Zmk {tb:List St} (k:∀x∈tb,x.cost<=M/\x.pcs<=M):∀(l:List Pc) (c:Option St),(∀x,c=some x->x.cost<=M+38/\x.pcs<=M+38)->(∀p∈l,price p<=38)->∀x,l.foldl (kY tb) c=some x->x.cost<=M+38/\x.pcs<=M+38:=by
 intro l;induction l with
 |nil=>exact aO
 |cons p r ih=>intro c t g x y;exact ih _ (B_ k t (g p fi)) (λq u=>g q (gM _ u)) x y
theorem Zgw (s:ax):∀k,k<=s.length->∀x∈pL s k,x.cost<=38*k/\x.pcs<=38*k:=by
 intro k;induction k with
 |zero=>intro _ x g;rw[jv.1 g];exact⟨aU,aU⟩
 |succ k ih=>
  intro u x g;have ih:=ih O;rcases jA.1 g with g|g
  .have hi:s.length-1-k<s.length:=O;have q:∃y,(vi s (s.length-1-k)).foldl (kY (pL s k)) none=some y:=by unfold vi;rw[rk];exact F8 _ _ _
   obtain⟨y,l⟩:=q;have:=Zmk ih (vi s (s.length-1-k)) none (λx h=>aO) (λp t=>(V0 hi p t).price) y l;have e:x=y:=by rw[g];unfold xy;rw[l];rfl
   grind
  grind
end
def qN (s:Int×Int):ax:=if s.1=0 then List.replicate s.2.toNat 120 else if s.1=1 then[48] else[]
def xD (st:List (Int×Int)):a':=if fN st=false then[] else st.map (λs=>bs (qN s))
theorem Dg {st:List (Int×Int)} :fN st=true↔(∀s∈st,dS s=true)/\st.length<=64:=by unfold fN;grind
def Z3 (s:ax):Bool:=(tj s).isSome
end Wv
namespace Wv
open Go Go.RowKit
theorem Zib {z:Int} (h: -400<=z) (g:z<=400):(kd z).length<=4:=by unfold kd;split;have:=QY (n:=(-z).toNat) (k:=3) O O;grind;have:=QY (n:=z.toNat) (k:=3) O O;omega
theorem Zdi (n:gL):(Xs n).1.length<=30:=by unfold Xs;split;exact aY;split;exact aY;have g:n.dg.length<=17/\-400<=Qv n/\Qv n<=400:=O;have k:=Zib g.2.1 g.2.2;grind
theorem Zco {s:ax} (h:Z3 s=true):s.length<=30:=by unfold Z3 at h;rcases g:tj s with _|n;exact aO;rw[(ZhI.1 g).2];exact Zdi n
theorem Z60 {s:Int×Int} {v:ax} (h:fO Z3 s v=true):(ko s v).length<=100/\v.length<=128:=by unfold fO at h;rw[gm] at h;obtain⟨l,g⟩:=h;unfold sD at g;unfold ko;have k:∀n,(bi n).length<=9:=λn=>(by rw[Yq6];have:=Yf n;omega);rcases XJ l with h0|⟨h1,q⟩;rw[Vag h0] at g⊢;have p:isV v=true:=(by unfold gH at g;grind);have t:=(Zp.1 p).2.2;rw[Vab,pack_length,pack_length];unfold kA kz;grind;have h0:¬s.1=0:=O;rw[Vae h0] at g⊢;have:=k v;by_cases k1:s.1=1;rw[Vag k1] at g;rw[Vae O,Vab];have:=Zco g;omega;grind
theorem JN:∀(st:List (Int×Int)) (vs:a') (k:Nat) (h:k<st) (p:k<vs),ZJ (st.take (k+1)) (vs.take (k+1))=ZJ (st.take k) (vs.take k)++ko st[k] (aH vs[k])
 |s::st,v::vs,0,_,_=>by show _++[]=[]++_;simp
 |s::st,v::vs,k+1,h,p=>by have l:k<st:=aO;have g:k<vs:=aO;show ko s (aH v)++ZJ (st.take (k+1)) (vs.take (k+1))=(ko s (aH v)++ZJ (st.take k) (vs.take k))++ko (st[k]'l) (aH (vs[k]'g));rw[JN st vs k l g,er]
theorem Dh (dv:ax->Bool):∀ {st:List (Int×Int)} {vs:a'},lI dv st vs=true->∀k (h:k<st.length) (l:k<vs.length),fO dv st[k] (aH vs[k])=true
 |[],_,_,k,h,_=>absurd h (vL _)
 |_::_,[],_,k,_,h=>absurd h (vL _)
 |s::st,v::vs,h,k,hk,bR=>by
  have g:fO dv s (aH v)=true/\lI dv st vs=true:=I3
  cases k with
  |zero=>exact aO
  |succ k=>exact Dh dv g.2 k aO aO
theorem Kv:∀ {st:List (Int×Int)} {vs:a'},lI Z3 st vs=true->∀k,(ZJ (st.take k) (vs.take k)).length<=100*k/\(ZJ st vs).length<=100*st.length:=by
 intro st vs h k;have p:=A8 h
 have main:∀k,k<=st.length->(ZJ (st.take k) (vs.take k)).length<=100*k:=by
  intro k;induction k with
  |zero=>intro _;exact cf _
  |succ k ih=>intro l;rw[JN st vs k O O,Vab];have:=(Z60 (Dh Z3 h k O O)).1;omega
 have g:=main st aU;grind
end Wv
namespace Go.Proofs.Y
open Wv Go.RowKit
section
variable{e most n z:Nat}{s t:ax}
theorem VV {most:Int} (h:gP s=some (n,z)) (g:¬most<(n:Int)):bG (bs s) 0 most=(n,bs (s.drop z),0):=by unfold bG;rw[Vag rfl,Zm,h];grind
theorem Zhb {most:Int} (h:gP s=some (n,z)) (g:most<(n:Int)):bG (bs s) 0 most=(0,bs s,2):=by unfold bG;rw[Vag rfl,Zm,h];grind
theorem Zcv {most:Int} (h:gP s=none):bG (bs s) 0 most=(0,bs s,12):=by unfold bG;rw[Vag rfl,Zm,h]
theorem Uw {s:aT} (g:e≠0) (most:Int):bG s e most=(0,s,e):=by unfold bG;grind
theorem X8 {s:aT} (g:e≠0) (n:Int):Zb s e n=(bs [],s,e):=by unfold Zb;grind
theorem J0 (h:dN s most=some (n,t)):bG (bs s) 0 (most:Int)=(n,bs t,0)/\n<=most/\t<=s.length:=by
 unfold dN at h;match g:gP s with
 |none=>rw[g] at h;cases h
 |some (m,z)=>rw[g] at h;simp only at h;by_cases l:most<m;exact aO;rw[Vae l] at h;injection h with h;injection h with h1 k;subst h1;subst k;exact⟨VV g O,O,aO⟩
theorem Ux (h:dN s most=none):∃e,e≠0/\bG (bs s) 0 (most:Int)=(0,bs s,e):=by
 unfold dN at h;match g:gP s with
 |none=>exact⟨12,aY,Zcv g⟩
 |some (m,z)=>by_cases k:most<m;exact⟨2,aY,Zhb g O⟩;grind
theorem Zcx {s:aT} (g:e≠0) (most:Int):ZB s e most=(bs [],s,e):=by unfold ZB;rw[Uw g];rw[X8 g];grind
theorem RT {a:ax} (h:fe s most=some (a,t)):ZB (bs s) 0 (most:Int)=(bs a,bs t,0)/\a<=s.length/\t<=s.length/\a<=most:=by
 unfold fe at h;match hr:dN s most with
 |none=>rw[hr] at h;cases h
 |some (n,u)=>obtain⟨h1,g,k⟩:=J0 hr;by_cases l:u<n;exact aO;have p:Zb (bs u) 0 (n:Int)=(bs (u.take n),bs (u.drop n),0):=P4;unfold ZB;grind
theorem Ss (h:fe s most=none):∃e,e≠0/\ZB (bs s) 0 (most:Int)=(bs [],bs s,e):=by
 unfold fe at h;match hr:dN s most with
 |none=>obtain⟨e,h1,g⟩:=Ux hr;refine⟨e,h1,?_⟩;unfold ZB;rw[g];rw[X8 h1];rw[Vae h1]
 |some (n,u)=>obtain⟨h1,g,k⟩:=J0 hr;by_cases l:u<n;have p:Zb (bs u) 0 (n:Int)=(bs [],bs u,12):=PE;refine⟨12,aY,?_⟩;unfold ZB;grind;grind
theorem Xr (h:n<=s):Zb (bs s) 0 (n:Int)=(bs (s.take n),bs (s.drop n),0):=P4
theorem Kg (h:s<n):Zb (bs s) 0 (n:Int)=(bs [],bs s,12):=PE
theorem ZQ {w w1 g:aq} {b:Nat} (h:Below w w w1) (hb:w<=b) (k:Fr (only b) w1 g):Below w w g:=
 h.trans (k.toBelow' h.size (λj l e=>Cz))
end
section
variable{W w:aq}
def zz (b1 g b3:Nat):Array aI:= #[.int .i64 1,.int .i64 128,.func (.func 166) #[] #[],.func (.func 167) #[] #[],.func (.func 168) #[] #[],.func (.func 169) #[] #[],.string ⟨#[98]⟩,
 .int .i64 0,.int .i64 0,.func (.func 170) #[] #[],.func (.func 221) #[] #[.pointer (some ⟨b1,0,none⟩)],.func (.func 173) #[] #[],.func (.func 175) #[] #[],.string ⟨#[114]⟩,
 .int .i64 0,.int .i64 0,.func (.func 176) #[] #[],.func (.func 221) #[] #[.pointer (some ⟨g,0,none⟩)],.func (.func 177) #[] #[],.func (.func 179) #[] #[],.string ⟨#[115]⟩,
 .int .i64 0,.int .i64 0,.func (.func 180) #[] #[],.func (.func 221) #[] #[.pointer (some ⟨b3,0,none⟩)],.func (.func 181) #[] #[],.func (.func 182) #[] #[],.string ⟨#[]⟩]
theorem ZjP (s:aT) (w:aq):
  Calls prog 172 #[s] w λx w'=>x=.returned (.func (.func 221) #[] #[(w,0)])/\Bk w' w 9 #[s]/\Below w w w':=by go_in;go_wp2;go_returns;exact⟨rfl,Bk.new _ _ _,(bf _ _).alloc aU _⟩
theorem Z33 (w:aq):
  Calls prog 135 #[] w λx w'=>∃R b1 B b3,x=.returned (.slice (some ⟨R,0,none⟩) 4 4)/\Bk w' R 157 (zz b1 B b3)/\Bk w' b1 9 #[.string ⟨#[48]⟩]/\Bk w' B 9 #[.string ⟨#[]⟩]/\Bk w' b3 9 #[.string ⟨#[]⟩]/\Below w w w':=by have p:=J (λs W=>ZjP s W);go_in;go_wp21;refine aP (p.o _ _) λw1 ⟨k1,y⟩=>?_;have g:=J k1;clear k1;go_wp21;refine aP (p.o _ _) λl ⟨k2,aa⟩=>?_;have u:=J (g.o.below aa g.o.lt);have z:=y.trans (aa.mono y.size);have q:=J k2;clear k2 aa g y;go_wp21;refine aP (p.o _ _) λF ⟨k3,k⟩=>?_;obtain⟨g,t,E⟩:=bD ((u.o.below k u.o.lt).alloc (.cells (zz w w1.heap.size l.heap.size) 157)) ((q.o.below k q.o.lt).alloc (.cells (zz w w1.heap.size l.heap.size) 157)) (k3.alloc (.cells (zz w w1.heap.size l.heap.size) 157));have hb:=z.trans (k.mono z.size);have D:=J (hb.alloc hb.size (.cells (zz w w1.heap.size l.heap.size) 157));clear hb z k k3 q u;go_wp2;go_returns;exact⟨_,_,_,_,rfl,Bk.new _ _ _,g.o,t.o,E.o,D.o⟩
def kcOf (n b:Nat):Array aI:=match n with
 |0=> #[(1:Int),(128:Int),.func (.func 166) #[] #[],.func (.func 167) #[] #[],.func (.func 168) #[] #[],.func (.func 169) #[] #[],.string ⟨#[98]⟩]
 |1=> #[(0:Int),(0:Int),.func (.func 170) #[] #[],.func (.func 221) #[] #[.pointer (some ⟨b,0,none⟩)],.func (.func 173) #[] #[],.func (.func 175) #[] #[],.string ⟨#[114]⟩]
 |2=> #[(0:Int),(0:Int),.func (.func 176) #[] #[],.func (.func 221) #[] #[.pointer (some ⟨b,0,none⟩)],.func (.func 177) #[] #[],.func (.func 179) #[] #[],.string ⟨#[115]⟩]
 |_=> #[(0:Int),(0:Int),.func (.func 180) #[] #[],.func (.func 221) #[] #[.pointer (some ⟨b,0,none⟩)],.func (.func 181) #[] #[],.func (.func 182) #[] #[],.string ⟨#[]⟩]
def D' (n:Nat):aT:=if n=1 then⟨#[48]⟩ else⟨#[]⟩
def m':Array aI:= #[.int .i64 0,.int .i64 0,.nilFunc,.nilFunc,.nilFunc,.nilFunc,.string ⟨#[]⟩]
def tK (w':aq) (n:Int) (kc:Array aI):Prop:=((n<0\/4<=n)/\kc=m')\/(0<=n/\n<4/\∃b,kc=kcOf n.toNat b/\Bk w' b 9 #[D' n.toNat])
theorem Mq {n wd:Int} (h:n<0\/4<=n):dS (n,wd)=false:=by unfold dS;simp only;rw[Vai (show ¬n=0 by omega),Vai (show ¬n=1 by omega),Vai (show ¬n=2 by omega),Vai (show ¬n=3 by omega)];rfl
theorem ZpN (hb:Below (w.alloc (.cells m' 157)) (w.alloc (.cells m' 157)) W):
  (W.cell? (w,0)=(0:Int)/\W.cell? (w,1)=(0:Int)/\W.cell? (w,2)=some .nilFunc/\W.cell? (w,3)=some .nilFunc/\W.cell? (w,4)=some .nilFunc/\W.cell? (w,5)=some .nilFunc/\W.cell? (w,6)=some (.string ⟨#[]⟩))/\
  (W.frozen? (w,0)=false/\W.frozen? (w,1)=false/\W.frozen? (w,2)=false/\W.frozen? (w,3)=false/\W.frozen? (w,4)=false/\W.frozen? (w,5)=false/\W.frozen? (w,6)=false)/\Bk W w 157 m'/\Below w w W:=by have h0:=(Bk.new w 157 m').below hb (by simp);have g:=((bf w w).alloc aU (.cells m' 157)).trans (hb.mono (by simp));exact⟨⟨h0.cell 0,h0.cell 1,h0.cell 2,h0.cell 3,h0.cell 4,h0.cell 5,h0.cell 6⟩,⟨h0.frozen 0,h0.frozen 1,h0.frozen 2,h0.frozen 3,h0.frozen 4,h0.frozen 5,h0.frozen 6⟩,h0,g⟩
theorem Bk.apart2 {R:Nat} {a b c:Nat} (h:Bk W R 157 (zz a b c)) (g:Bk W w 157 m'):R≠w:=by rintro rfl;unfold Bk at h g;rw[h] at g;injection g with g;injection g with k l;have:=congrArg Array.size k;simp[zz,m'] at this
theorem Bk.seven {g N:Nat} {t:TypeId} {l:Array aI} (h:Bk w g t l) (k:g≠N) (q a1 a2 a3 a4 a5 a6:aI):Bk (((((((w.setCell ⟨N,0,none⟩ q).setCell ⟨N,1,none⟩ a1).setCell ⟨N,2,none⟩ a2).setCell ⟨N,3,none⟩ a3).setCell ⟨N,4,none⟩ a4).setCell ⟨N,5,none⟩ a5).setCell ⟨N,6,none⟩ a6) g t l:=
 ((((((h.off (p:=⟨N,0,none⟩) k _).off (p:=⟨N,1,none⟩) k _).off (p:=⟨N,2,none⟩) k _).off (p:=⟨N,3,none⟩) k _).off (p:=⟨N,4,none⟩) k _).off (p:=⟨N,5,none⟩) k _).off (p:=⟨N,6,none⟩) k _
theorem Me (n wd:Int) (w:aq):
  Calls prog 88 #[n,wd] w λx w'=>∃kc,x=.returned (.tuple #[.agg kc,dS (n,wd)])/\tK w' n kc/\Below w w w':=by
 have S:=J (λW=>Z33 W);have B:=J (λW hb=>ZpN (w:=w) (W:=W) hb);unfold m' at B;by_cases a0:n<0\/4<=n
 .have c7:=Mq (wd:=wd) a0;have c8:Hid (∀w',Below w w w'->tK w' n m'):=J (λw' _=>Or.inl ⟨a0,rfl⟩);rw[c7];unfold m' at c8;have b7:n<0\/(¬n<0/\4<=n):=O;rcases b7 with b7|⟨b7,d3⟩
  all_goals
   clear a0 c7;go_in;go_wp21;refine(S.o _).mono ?_;rintro x w1 ⟨R,b1,k,b3,rfl,q,D,z,G,y⟩;obtain⟨⟨c0,c1,c2,a5,a6,a7,a8⟩,⟨f0,f1,a9,b0,b2,b4,b5⟩,hz,hB⟩:=B.o _ y;have hF:=((((((hz.put 0 (0:Int)).put 1 (0:Int)).put 2 .nilFunc).put 3 .nilFunc).put 4 .nilFunc).put 5 .nilFunc).put 6 (.string ⟨#[]⟩);have u:=hF.cell 0;have z1:=hF.cell 1;have z2:=hF.cell 2;have z3:=hF.cell 3;have F:=hF.cell 4;have M:=hF.cell 5;have a3:=hF.cell 6;unfold m' at u z1 z2 z3 F M a3;simp at u z1 z2 z3 F M a3;have g:=J ((((((((hB.setCell (p:=⟨w,0,none⟩) aU (0:Int)).setCell (p:=⟨w,1,none⟩) aU (0:Int)).setCell (p:=⟨w,2,none⟩) aU .nilFunc).setCell (p:=⟨w,3,none⟩) aU .nilFunc).setCell (p:=⟨w,4,none⟩) aU .nilFunc).setCell (p:=⟨w,5,none⟩) aU .nilFunc).setCell (p:=⟨w,6,none⟩) aU (.string ⟨#[]⟩)));clear hF hz hB y q D z G B S;go_wp2_with ((with_reducible show bodyPost _ _ _ _ _ _);refine bodyPost_ret (v:=.tuple #[.agg #[(0:Int),(0:Int),.nilFunc,.nilFunc,.nilFunc,.nilFunc,.string ⟨#[]⟩],false]) Cj rfl ?_;exact⟨_,rfl,c8.o _ g.o,g.o⟩)
 have c9:n=0\/n=1\/n=2\/n=3:=O;rcases c9 with rfl|rfl|rfl|rfl
 .clear a0;go_in;go_wp21;refine(S.o _).mono ?_;rintro x w1 ⟨R,b1,k,b3,rfl,q,D,z,G,y⟩;obtain⟨⟨c0,c1,c2,a5,a6,a7,a8⟩,⟨f0,f1,a9,b0,b2,b4,b5⟩,hz,hB⟩:=B.o _ y;have b6:R≠w:=Bk.apart2 q hz;have b8:w1.cell? (R,0)=(1:Int):=q.cell 0;have q1:w1.cell? (R,1)=(128:Int):=q.cell 1;have q2:w1.cell? (R,2)=some (.func (.func 166) #[] #[]):=q.cell 2;have q3:w1.cell? (R,3)=some (.func (.func 167) #[] #[]):=q.cell 3;have q4:w1.cell? (R,4)=some (.func (.func 168) #[] #[]):=q.cell 4;have q5:w1.cell? (R,5)=some (.func (.func 169) #[] #[]):=q.cell 5;have b9:w1.cell? (R,6)=some (.string ⟨#[98]⟩):=q.cell 6;have hF:=Bk.drew (((((((hz.put 0 (1:Int)).put 1 (128:Int)).put 2 (.func (.func 166) #[] #[])).put 3 (.func (.func 167) #[] #[])).put 4 (.func (.func 168) #[] #[])).put 5 (.func (.func 169) #[] #[])).put 6 (.string ⟨#[98]⟩));have u:=hF.cell 0;have z1:=hF.cell 1;have z2:=hF.cell 2;have z3:=hF.cell 3;have F:=hF.cell 4;have M:=hF.cell 5;have a3:=hF.cell 6;unfold m' at u z1 z2 z3 F M a3;simp at u z1 z2 z3 F M a3;have g:=J ((((((((hB.setCell (p:=⟨w,0,none⟩) aU (1:Int)).setCell (p:=⟨w,1,none⟩) aU (128:Int)).setCell (p:=⟨w,2,none⟩) aU (.func (.func 166) #[] #[])).setCell (p:=⟨w,3,none⟩) aU (.func (.func 167) #[] #[])).setCell (p:=⟨w,4,none⟩) aU (.func (.func 168) #[] #[])).setCell (p:=⟨w,5,none⟩) aU (.func (.func 169) #[] #[])).setCell (p:=⟨w,6,none⟩) aU (.string ⟨#[98]⟩)).drew);have a2:=J (Bk.drew (Bk.seven z (Bk.apart z hz aY) (1:Int) (128:Int) (.func (.func 166) #[] #[]) (.func (.func 167) #[] #[]) (.func (.func 168) #[] #[]) (.func (.func 169) #[] #[]) (.string ⟨#[98]⟩)));have I:Hid (∀(b:Bool),(dS (0,wd)=b)->∀w',Below w w w'->Bk w' k 9 #[D' 0]->Ending.returned (.tuple #[.agg #[(1:Int),(128:Int),(.func (.func 166) #[] #[]),(.func (.func 167) #[] #[]),(.func (.func 168) #[] #[]),(.func (.func 169) #[] #[]),(.string ⟨#[98]⟩)],b])=Ending.returned (.tuple #[.agg #[(1:Int),(128:Int),(.func (.func 166) #[] #[]),(.func (.func 167) #[] #[]),(.func (.func 168) #[] #[]),(.func (.func 169) #[] #[]),(.string ⟨#[98]⟩)],dS (0,wd)])/\tK w' 0 #[(1:Int),(128:Int),(.func (.func 166) #[] #[]),(.func (.func 167) #[] #[]),(.func (.func 168) #[] #[]),(.func (.func 169) #[] #[]),(.string ⟨#[98]⟩)]/\Below w w w'):=J (λb hb w' h1 a4=>⟨by rw[hb],Or.inr ⟨aY,aY,k,rfl,a4⟩,h1⟩);clear hF hz hB y q D z G B S;by_cases t:(1:Int)<=wd
  .by_cases Q:wd<=128
   .have E:decide ((1:Int)<=wd)=true:=dd t;have a1:decide (wd<=128)=true:=dd Q;have l:Hid (dS (0,wd)=true):=J Fm;go_wp2;go_region
    all_goals
     go_wp2_with ((with_reducible show bodyPost _ _ _ _ _ _);refine bodyPost_ret (v:=.tuple #[.agg #[(1:Int),(128:Int),(.func (.func 166) #[] #[]),(.func (.func 167) #[] #[]),(.func (.func 168) #[] #[]),(.func (.func 169) #[] #[]),(.string ⟨#[98]⟩)],true]) Cj rfl ?_;exact⟨_,I.o _ l.o _ g.o a2.o⟩)
   have E:decide ((1:Int)<=wd)=true:=dd t;have a1:decide (wd<=128)=false:=Vai Q;exact NW
  have E:decide ((1:Int)<=wd)=false:=Vai t;exact NW
 .clear a0;go_in;go_wp21;refine(S.o _).mono ?_;rintro x w1 ⟨R,b1,k,b3,rfl,q,D,z,G,y⟩;obtain⟨⟨c0,c1,c2,a5,a6,a7,a8⟩,⟨f0,f1,a9,b0,b2,b4,b5⟩,hz,hB⟩:=B.o _ y;have b6:R≠w:=Bk.apart2 q hz;have b8:w1.cell? (R,7)=(0:Int):=q.cell 7;have q1:w1.cell? (R,8)=(0:Int):=q.cell 8;have q2:w1.cell? (R,9)=some (.func (.func 170) #[] #[]):=q.cell 9;have q3:w1.cell? (R,10)=some (.func (.func 221) #[] #[(b1,0)]):=q.cell 10;have q4:w1.cell? (R,11)=some (.func (.func 173) #[] #[]):=q.cell 11;have q5:w1.cell? (R,12)=some (.func (.func 175) #[] #[]):=q.cell 12;have b9:w1.cell? (R,13)=some (.string ⟨#[114]⟩):=q.cell 13;have hF:=Bk.drew (((((((hz.put 0 (0:Int)).put 1 (0:Int)).put 2 (.func (.func 170) #[] #[])).put 3 (.func (.func 221) #[] #[.pointer (some ⟨b1,0,none⟩)])).put 4 (.func (.func 173) #[] #[])).put 5 (.func (.func 175) #[] #[])).put 6 (.string ⟨#[114]⟩));have u:=hF.cell 0;have z1:=hF.cell 1;have z2:=hF.cell 2;have z3:=hF.cell 3;have F:=hF.cell 4;have M:=hF.cell 5;have a3:=hF.cell 6;unfold m' at u z1 z2 z3 F M a3;simp at u z1 z2 z3 F M a3;have g:=J ((((((((hB.setCell (p:=⟨w,0,none⟩) aU (0:Int)).setCell (p:=⟨w,1,none⟩) aU (0:Int)).setCell (p:=⟨w,2,none⟩) aU (.func (.func 170) #[] #[])).setCell (p:=⟨w,3,none⟩) aU (.func (.func 221) #[] #[.pointer (some ⟨b1,0,none⟩)])).setCell (p:=⟨w,4,none⟩) aU (.func (.func 173) #[] #[])).setCell (p:=⟨w,5,none⟩) aU (.func (.func 175) #[] #[])).setCell (p:=⟨w,6,none⟩) aU (.string ⟨#[114]⟩)).drew);have a2:=J (Bk.drew (Bk.seven D (Bk.apart D hz aY) (0:Int) (0:Int) (.func (.func 170) #[] #[]) (.func (.func 221) #[] #[.pointer (some ⟨b1,0,none⟩)]) (.func (.func 173) #[] #[]) (.func (.func 175) #[] #[]) (.string ⟨#[114]⟩)));have I:Hid (∀(b:Bool),(dS (1,wd)=b)->∀w',Below w w w'->Bk w' b1 9 #[D' 1]->Ending.returned (.tuple #[.agg #[(0:Int),(0:Int),(.func (.func 170) #[] #[]),(.func (.func 221) #[] #[(b1,0)]),(.func (.func 173) #[] #[]),(.func (.func 175) #[] #[]),(.string ⟨#[114]⟩)],b])=Ending.returned (.tuple #[.agg #[(0:Int),(0:Int),(.func (.func 170) #[] #[]),(.func (.func 221) #[] #[(b1,0)]),(.func (.func 173) #[] #[]),(.func (.func 175) #[] #[]),(.string ⟨#[114]⟩)],dS (1,wd)])/\tK w' 1 #[(0:Int),(0:Int),(.func (.func 170) #[] #[]),(.func (.func 221) #[] #[(b1,0)]),(.func (.func 173) #[] #[]),(.func (.func 175) #[] #[]),(.string ⟨#[114]⟩)]/\Below w w w'):=J (λb hb w' h1 a4=>⟨by rw[hb],Or.inr ⟨aY,aY,b1,rfl,a4⟩,h1⟩);clear hF hz hB y q D z G B S;by_cases t:(0:Int)<=wd
  .by_cases Q:wd<=0
   .have E:decide ((0:Int)<=wd)=true:=dd t;have a1:decide (wd<=0)=true:=dd Q;have l:Hid (dS (1,wd)=true):=J Fm;go_wp2;go_region
    all_goals
     go_wp2_with ((with_reducible show bodyPost _ _ _ _ _ _);refine bodyPost_ret (v:=.tuple #[.agg #[(0:Int),(0:Int),(.func (.func 170) #[] #[]),(.func (.func 221) #[] #[.pointer (some ⟨b1,0,none⟩)]),(.func (.func 173) #[] #[]),(.func (.func 175) #[] #[]),(.string ⟨#[114]⟩)],true]) Cj rfl ?_;exact⟨_,I.o _ l.o _ g.o a2.o⟩)
   have E:decide ((0:Int)<=wd)=true:=dd t;have a1:decide (wd<=0)=false:=Vai Q;exact NB
  have E:decide ((0:Int)<=wd)=false:=Vai t;exact NB
 .clear a0;go_in;go_wp21;refine(S.o _).mono ?_;rintro x w1 ⟨R,b1,k,b3,rfl,q,D,z,G,y⟩;obtain⟨⟨c0,c1,c2,a5,a6,a7,a8⟩,⟨f0,f1,a9,b0,b2,b4,b5⟩,hz,hB⟩:=B.o _ y;have b6:R≠w:=Bk.apart2 q hz;have b8:w1.cell? (R,14)=(0:Int):=q.cell 14;have q1:w1.cell? (R,15)=(0:Int):=q.cell 15;have q2:w1.cell? (R,16)=some (.func (.func 176) #[] #[]):=q.cell 16;have q3:w1.cell? (R,17)=some (.func (.func 221) #[] #[(k,0)]):=q.cell 17;have q4:w1.cell? (R,18)=some (.func (.func 177) #[] #[]):=q.cell 18;have q5:w1.cell? (R,19)=some (.func (.func 179) #[] #[]):=q.cell 19;have b9:w1.cell? (R,20)=some (.string ⟨#[115]⟩):=q.cell 20;have hF:=Bk.drew (((((((hz.put 0 (0:Int)).put 1 (0:Int)).put 2 (.func (.func 176) #[] #[])).put 3 (.func (.func 221) #[] #[.pointer (some ⟨k,0,none⟩)])).put 4 (.func (.func 177) #[] #[])).put 5 (.func (.func 179) #[] #[])).put 6 (.string ⟨#[115]⟩));have u:=hF.cell 0;have z1:=hF.cell 1;have z2:=hF.cell 2;have z3:=hF.cell 3;have F:=hF.cell 4;have M:=hF.cell 5;have a3:=hF.cell 6;unfold m' at u z1 z2 z3 F M a3;simp at u z1 z2 z3 F M a3;have g:=J ((((((((hB.setCell (p:=⟨w,0,none⟩) aU (0:Int)).setCell (p:=⟨w,1,none⟩) aU (0:Int)).setCell (p:=⟨w,2,none⟩) aU (.func (.func 176) #[] #[])).setCell (p:=⟨w,3,none⟩) aU (.func (.func 221) #[] #[.pointer (some ⟨k,0,none⟩)])).setCell (p:=⟨w,4,none⟩) aU (.func (.func 177) #[] #[])).setCell (p:=⟨w,5,none⟩) aU (.func (.func 179) #[] #[])).setCell (p:=⟨w,6,none⟩) aU (.string ⟨#[115]⟩)).drew);have a2:=J (Bk.drew (Bk.seven z (Bk.apart z hz aY) (0:Int) (0:Int) (.func (.func 176) #[] #[]) (.func (.func 221) #[] #[.pointer (some ⟨k,0,none⟩)]) (.func (.func 177) #[] #[]) (.func (.func 179) #[] #[]) (.string ⟨#[115]⟩)));have I:Hid (∀(b:Bool),(dS (2,wd)=b)->∀w',Below w w w'->Bk w' k 9 #[D' 2]->Ending.returned (.tuple #[.agg #[(0:Int),(0:Int),(.func (.func 176) #[] #[]),(.func (.func 221) #[] #[(k,0)]),(.func (.func 177) #[] #[]),(.func (.func 179) #[] #[]),(.string ⟨#[115]⟩)],b])=Ending.returned (.tuple #[.agg #[(0:Int),(0:Int),(.func (.func 176) #[] #[]),(.func (.func 221) #[] #[(k,0)]),(.func (.func 177) #[] #[]),(.func (.func 179) #[] #[]),(.string ⟨#[115]⟩)],dS (2,wd)])/\tK w' 2 #[(0:Int),(0:Int),(.func (.func 176) #[] #[]),(.func (.func 221) #[] #[(k,0)]),(.func (.func 177) #[] #[]),(.func (.func 179) #[] #[]),(.string ⟨#[115]⟩)]/\Below w w w'):=J (λb hb w' h1 a4=>⟨by rw[hb],Or.inr ⟨aY,aY,k,rfl,a4⟩,h1⟩);clear hF hz hB y q D z G B S;by_cases t:(0:Int)<=wd
  .by_cases Q:wd<=0
   .have E:decide ((0:Int)<=wd)=true:=dd t;have a1:decide (wd<=0)=true:=dd Q;have l:Hid (dS (2,wd)=true):=J Fm;go_wp2;go_region
    all_goals
     go_wp2_with ((with_reducible show bodyPost _ _ _ _ _ _);refine bodyPost_ret (v:=.tuple #[.agg #[(0:Int),(0:Int),(.func (.func 176) #[] #[]),(.func (.func 221) #[] #[.pointer (some ⟨k,0,none⟩)]),(.func (.func 177) #[] #[]),(.func (.func 179) #[] #[]),(.string ⟨#[115]⟩)],true]) Cj rfl ?_;exact⟨_,I.o _ l.o _ g.o a2.o⟩)
   have E:decide ((0:Int)<=wd)=true:=dd t;have a1:decide (wd<=0)=false:=Vai Q;exact NI
  have E:decide ((0:Int)<=wd)=false:=Vai t;exact NI
 clear a0;go_in;go_wp21;refine(S.o _).mono ?_;rintro x w1 ⟨R,b1,k,b3,rfl,q,D,z,G,y⟩;obtain⟨⟨c0,c1,c2,a5,a6,a7,a8⟩,⟨f0,f1,a9,b0,b2,b4,b5⟩,hz,hB⟩:=B.o _ y;have b6:R≠w:=Bk.apart2 q hz;have b8:w1.cell? (R,21)=(0:Int):=q.cell 21;have q1:w1.cell? (R,22)=(0:Int):=q.cell 22;have q2:w1.cell? (R,23)=some (.func (.func 180) #[] #[]):=q.cell 23;have q3:w1.cell? (R,24)=some (.func (.func 221) #[] #[(b3,0)]):=q.cell 24;have q4:w1.cell? (R,25)=some (.func (.func 181) #[] #[]):=q.cell 25;have q5:w1.cell? (R,26)=some (.func (.func 182) #[] #[]):=q.cell 26;have b9:w1.cell? (R,27)=some (.string ⟨#[]⟩):=q.cell 27;have hF:=Bk.drew (((((((hz.put 0 (0:Int)).put 1 (0:Int)).put 2 (.func (.func 180) #[] #[])).put 3 (.func (.func 221) #[] #[.pointer (some ⟨b3,0,none⟩)])).put 4 (.func (.func 181) #[] #[])).put 5 (.func (.func 182) #[] #[])).put 6 (.string ⟨#[]⟩));have u:=hF.cell 0;have z1:=hF.cell 1;have z2:=hF.cell 2;have z3:=hF.cell 3;have F:=hF.cell 4;have M:=hF.cell 5;have a3:=hF.cell 6;unfold m' at u z1 z2 z3 F M a3;simp at u z1 z2 z3 F M a3;have g:=J ((((((((hB.setCell (p:=⟨w,0,none⟩) aU (0:Int)).setCell (p:=⟨w,1,none⟩) aU (0:Int)).setCell (p:=⟨w,2,none⟩) aU (.func (.func 180) #[] #[])).setCell (p:=⟨w,3,none⟩) aU (.func (.func 221) #[] #[.pointer (some ⟨b3,0,none⟩)])).setCell (p:=⟨w,4,none⟩) aU (.func (.func 181) #[] #[])).setCell (p:=⟨w,5,none⟩) aU (.func (.func 182) #[] #[])).setCell (p:=⟨w,6,none⟩) aU (.string ⟨#[]⟩)).drew);have a2:=J (Bk.drew (Bk.seven G (Bk.apart G hz aY) (0:Int) (0:Int) (.func (.func 180) #[] #[]) (.func (.func 221) #[] #[.pointer (some ⟨b3,0,none⟩)]) (.func (.func 181) #[] #[]) (.func (.func 182) #[] #[]) (.string ⟨#[]⟩)));have I:Hid (∀(b:Bool),(dS (3,wd)=b)->∀w',Below w w w'->Bk w' b3 9 #[D' 3]->Ending.returned (.tuple #[.agg #[(0:Int),(0:Int),(.func (.func 180) #[] #[]),(.func (.func 221) #[] #[(b3,0)]),(.func (.func 181) #[] #[]),(.func (.func 182) #[] #[]),(.string ⟨#[]⟩)],b])=Ending.returned (.tuple #[.agg #[(0:Int),(0:Int),(.func (.func 180) #[] #[]),(.func (.func 221) #[] #[(b3,0)]),(.func (.func 181) #[] #[]),(.func (.func 182) #[] #[]),(.string ⟨#[]⟩)],dS (3,wd)])/\tK w' 3 #[(0:Int),(0:Int),(.func (.func 180) #[] #[]),(.func (.func 221) #[] #[(b3,0)]),(.func (.func 181) #[] #[]),(.func (.func 182) #[] #[]),(.string ⟨#[]⟩)]/\Below w w w'):=J (λb hb w' h1 a4=>⟨by rw[hb],Or.inr ⟨aY,aY,b3,rfl,a4⟩,h1⟩);clear hF hz hB y q D z G B S;by_cases t:(0:Int)<=wd
 .by_cases Q:wd<=0
  .have E:decide ((0:Int)<=wd)=true:=dd t;have a1:decide (wd<=0)=true:=dd Q;have l:Hid (dS (3,wd)=true):=J Fm;go_wp2;go_region
   all_goals
    go_wp2_with ((with_reducible show bodyPost _ _ _ _ _ _);refine bodyPost_ret (v:=.tuple #[.agg #[(0:Int),(0:Int),(.func (.func 180) #[] #[]),(.func (.func 221) #[] #[.pointer (some ⟨b3,0,none⟩)]),(.func (.func 181) #[] #[]),(.func (.func 182) #[] #[]),(.string ⟨#[]⟩)],true]) Cj rfl ?_;exact⟨_,I.o _ l.o _ g.o a2.o⟩)
  have E:decide ((0:Int)<=wd)=true:=dd t;have a1:decide (wd<=0)=false:=Vai Q;exact NR
 have E:decide ((0:Int)<=wd)=false:=Vai t;exact NR
end
open Go.Proofs.YtikecoijpkmnbaaGreatDoor.Rows in
def Bs:List (String×DataW Unit):=[("math/bits.deBruijn32tab",laid_math_bits_deBruijn32tab),("math/bits.deBruijn64tab",laid_math_bits_deBruijn64tab),("internal/strconv.uint64pow10",laid_internal_strconv_uint64pow10),("unicode/utf8.acceptRanges",laid_unicode_utf8_acceptRanges),("unicode/utf8.first",laid_unicode_utf8_first)]
theorem TR {P:Program} {x:String×DataW Unit} {l:List (String×DataW Unit)} {W:aq} (h:laidMet P (x::l) W):laidMet P l W:=by obtain⟨n,d⟩:=x;obtain⟨G,⟨g,t,B,fuel,p,q,h1,D,E,F,k,rfl⟩,u,z⟩:=h;refine⟨q,k,(List.nodup_append.1 u).2.1,λb off y=>z b off (List.mem_append_right _ y)⟩
theorem Zk6 {W:aq} (h:laidMetH prog Bs W):Lib.TabIs prog W "internal/strconv.uint64pow10" .u64 Lib.pow10Tab:=by rw[MakeChecks.laidMetH_plain _ _ _ dw] at h;have k:=TR (TR h);exact Lib.tabIs_of_head (g:=1) dw (t:=398) (e:=223) (n:=20) dw dw dw dw dw k
theorem ZgY {W W':aq} (hb:Below W W W') {g:Array aI} (h:W.var? prog "internal/strconv.uint64pow10" =some g):W'.var? prog "internal/strconv.uint64pow10" =W.var? prog "internal/strconv.uint64pow10" :=by
 have k:prog.globalNamed "internal/strconv.uint64pow10" =some 1:=dw;unfold World.var? at h⊢;rw[k] at h⊢;simp only[Option.bind_some] at h⊢;have ab:1<W.heap.size:=by rcases Nat.lt_or_ge 1 W.heap.size with h1|h1;exact h1;rw[Array.getElem?_eq_none h1] at h;cases h
 rw[hb.block _ ab]
theorem Zgs {W:aq} (h:laidMetH prog Bs W):gl W:=λW' hb=>by have h1:=Zk6 h;unfold Lib.TabIs at h1⊢;rw[<-h1];exact ZgY hb h1
end Go.Proofs.Y
namespace Wv
open Go Go.RowKit Go.Deep Go.ChangeShapes Go.WideShapes
variable{A:Wto}{cap fuel n:Nat}
def cv (l:List (Int×aT)):List aI:=l.flatMap λx=>[iv x.1,sv x.2]
theorem T5 (l:List (Int×aT)):(cv l)=l.length*2:=by
 induction l with
 |nil=>rfl
 |cons c D ih=>rw[show cv (c::D)=[iv c.1,sv c.2]++cv D from rfl,Vab,ih,gd];exact fj
theorem Z_ (D:List (Int×aT)):∀(i:Nat) (h:i<D),(cv D)[i*2]? =some (iv D[i].1)/\(cv D)[i*2+1]? =some (sv D[i].2):=by
 induction D with
 |nil=>exact aO
 |cons c D ih=>
  intro i h;have e:cv (c::D)=[iv c.1,sv c.2]++cv D:=rfl;match i,h with
  |0,_=>exact⟨rfl,rfl⟩
  |i+1,h=>have g:i<D:=aO;rw[e,pO aO,pO aO];have:=ih i g;rw[show(i+1)*2-[iv c.1,sv c.2].length=i*2 from by exact fj,show(i+1)*2+1-[iv c.1,sv c.2].length=i*2+1 from by exact fj];exact this
def yh (w:aq) (A:Wto) (L:List (List (Int×aT))):Prop:=
 ∀i (h:i<L.length),∃b o B cap,A=some ⟨b,o,none⟩/\b<w.heap.size/\w.cell? ⟨b,o+i,none⟩=some (.slice B L[i].length cap)/\At w B (cv L[i])/\L[i].length<=cap
theorem yh.below {w w':aq} {L:List (List (Int×aT))} (h:yh w A L) (hb:Below w w w'):yh w' A L:=by intro i hi;obtain⟨b,o,B,cap,l,ab,h1,g,k⟩:=h i hi;exact⟨b,o,B,cap,l,Vas ab hb.size,(hb.cell (p:=⟨b,_,none⟩) ab).trans h1,g.below hb,k⟩
section
variable {H:Type} {enc:TypeId×aI->H} {P:Program} {w:aq} {base:Nat} {spare:Nat->Bool} {held:Bool}
theorem ZhW {t e i0 i1:TypeId} {f0 f1:Field} {x:DataW H×List MemPlace} (a9:P.underlying t=some (.slice e)) (a8:P.underlying e=some (.struct #[f0,f1]))
  (a5:P.cellsOf e=2) (o:f0.offset=0/\f1.offset=1) (tt:f0.type=i0/\f1.type=i1) (c0:P.cellsOf i0=1) (b6:P.underlying i0=some (.int .i64)) (c1:P.cellsOf i1=1) (b7:P.underlying i1=some .string)
  (h:DataW.trod enc P w base spare held fuel t [.slice A n cap]=some x):
  ∃l:List (Int×aT),At w A (cv l)/\(∀c∈l,mE c.1/\c.2.size<=9223372036854775807)/\n=l/\n<=9223372036854775807:=by
 obtain⟨b3,b4⟩:=o;obtain⟨t0,t1⟩:=tt;rcases open_slice a9 h with ⟨h0,_⟩|⟨a,len,c,m,k,D,Pl,I,hb,c6,F,c7,rfl,b0⟩;exact I2;simp at I;obtain⟨rfl,rfl,rfl⟩:=I;have c3:n<=m:=aO
 have each:∀i,i<n->∃q:Int×aT,(mE q.1/\q.2.size<=9223372036854775807)/\w.cell? (a.add (i*2))=q.1/\w.cell? (a.add (i*2+1))=q.2:=by
  intro i hi;obtain⟨a3,h1,h2⟩:=b0 i O;rw[a5] at h1;obtain⟨_,g,B⟩:=World.cells?_some h1;obtain⟨xs,k',c5,b9,_,a6,R⟩:=DataW.trod_struct a8 h2;match xs,a6,a3,g with
  |[c8,y1],_,[v0,v1],_=>have M:=R 0 f0 rfl;have Q:=R 1 f1 rfl;simp[b3,t0,c0] at M;simp[b4,t1,c1] at Q;obtain⟨a4,r0,_,b8⟩:=DataW.trod_int b6 M;obtain⟨a1,S,_,w1⟩:=DataW.trod_string b7 Q;simp at r0 S;subst r0 S;have e0:=B 0 O;have E:=B 1 O;rw[add_add] at e0 E;exact⟨(a4,a1),⟨Dw b8,by unfold maxLen at w1;omega⟩,aO,by simpa using E⟩
 have b1:Inhabited (Int×aT):=⟨(0,⟨#[]⟩)⟩;obtain⟨q,z⟩:=choose_lt each;refine⟨(List.range n).map q,?_,?_,by simp,E2⟩;intro i hi;rw[T5] at hi;obtain⟨j,c4⟩:=ay (i/2);have a2:j<n:=(by simp at hi;omega);obtain⟨_,G,q1⟩:=z j a2;obtain⟨b,off,y⟩:=a;have b2:y=none:=PO;subst b2;rw[add_plain] at G q1;refine⟨b,off,rfl,Gm G,?_⟩;obtain⟨p,b5⟩:=Z_ ((List.range n).map q) j (by simpa using a2);have u:i=j*2\/i=j*2+1:=O;have key:∀v,(cv ((List.range n).map q))[i]? =some v->w.cell? ⟨b,off+i,none⟩=some v->w.cell? ⟨b,off+i,none⟩=some ((cv ((List.range n).map q))[i]'(by rw[T5];exact hi)):=PP;rcases u with u|u;exact PY;refine key (sv (q j).2) ?_ (by rw[u];exact q1);rw[u];simpa using b5;grind
theorem Zd2 {T t e i0 i1:TypeId} {f0 f1:Field} {x:DataW H×List MemPlace} (S:P.underlying T=some (.slice t)) (Q:P.cellsOf t=1) (I:P.underlying t=some (.slice e)) (a1:P.underlying e=some (.struct #[f0,f1]))
  (R:P.cellsOf e=2) (o:f0.offset=0/\f1.offset=1) (tt:f0.type=i0/\f1.type=i1) (c0:P.cellsOf i0=1) (a6:P.underlying i0=some (.int .i64)) (c1:P.cellsOf i1=1) (a7:P.underlying i1=some .string)
  (h:DataW.trod enc P w base spare held fuel T [.slice A n cap]=some x):
  ∃L:List (List (Int×aT)),yh w A L/\(∀l∈L,l.length<=9223372036854775807/\∀c∈l,mE c.1/\c.2.size<=9223372036854775807)/\n=L/\n<=9223372036854775807:=by
 rcases open_slice1 S Q h with ⟨h0,_⟩|⟨a,len,c,m,k,V,D,Pl,u,hb,a2,F,b5,rfl,a4⟩;simp at h0;obtain⟨rfl,rfl,rfl⟩:=h0;exact⟨[],λi hi=>absurd hi (vL _),by simp,rfl,O⟩;simp at u;obtain⟨rfl,rfl,rfl⟩:=u;have b1:n<=m:=aO
 have each:∀i,i<n->∃q:List (Int×aT),(q.length<=9223372036854775807/\∀c∈q,mE c.1/\c.2.size<=9223372036854775807)/\∃B cap,w.cell? (a.add i)=some (.slice B q cap)/\At w B (cv q)/\q.length<=cap:=by
  intro i hi;obtain⟨h1,y⟩:=a4 i O;obtain⟨B,z,p,a0,b3⟩:∃B z p,V i=.slice B z p/\z<=p:=by rcases open_slice I y with ⟨h0,_⟩|⟨a,len,c,_,_,_,_,u,_,b0,_⟩;exact aO;grind
  rw[a0] at h1 y;obtain⟨l,a2,b2,b4,a3⟩:=ZhW I a1 R o tt c0 a6 c1 a7 y;grind
 obtain⟨q,G⟩:=choose_lt each;refine⟨(List.range n).map q,?_,?_,by simp,E2⟩
 .intro i hi;have a8:i<n:=(by simpa using hi);obtain⟨B,M,E,q1,q2⟩:=(G i a8).2;obtain⟨b,off,g⟩:=a;have a5:g=none:=by obtain⟨_,_,a9,_⟩:=(G 0 O).2;simpa [Addr.add] using World.cell?_spot a9
  subst a5;rw[add_plain] at E;refine⟨b,off,B,M,rfl,Gm E,?_,?_,by simpa using q2⟩;simp only[uF,Ew];exact E;simp only[uF,Ew];exact q1
 grind
end
