import Derived.Test.YtchokmkfobandaaGreatDoorM21
set_option linter.unusedVariables false
set_option linter.unusedSimpArgs false
set_option maxRecDepth 100000
set_option maxHeartbeats 8000000
namespace Go.Proofs.YtchokmkfobandaaGreatDoor
open Go.RowKit Go.Proofs Wv Wv.Vi Wv.Rc Wv.Mo Wv.Ru Wv.Tm
def ica (l:List Int):Array Value:=(ivs l).toArray
theorem Z6v (l:List Int) (i:Nat) (h:i<l.length):(ica l)[i]? =some (.int .i64 l[i]):=by simp[ica,ivs,iv,h]
theorem Z6w (l:List Int) (i:Nat) (x:Int):(ica l).setIfInBounds i (.int .i64 x)=ica (l.set i x):=by
 apply Vbj.1;simp[ica,ivs,iv,List.map_set]
theorem XP (n:Nat):Array.replicate n (.int .i64 0:Value)=ica (List.replicate n 0):=by
 apply Vbj.1;simp[ica,ivs,iv]
theorem Z7W {w:World} {g:Nat} {l:List Int} (h:Bk w g 3 (ica l)):At w (some ⟨g,0,none⟩) (ivs l):=by
 have:=h.at_;simpa [ica] using this
theorem Z5j (l:List Int) (i:Nat) (h:i<l.length):(ivs l)[i]? =some (.int .i64 l[i]):=by simp[ivs,iv,h]
theorem Z0M {w:World} {A:Option Addr} {l:List Int} (ha:At w A (ivs l)) (n cap:Nat) (hn:n=l.length) (bf:n<=9223372036854775807):
  Calls Tryz.prog 31 #[.slice A n cap] w λx w'=>x=.returned (.bool (Ze l))/\w=w':=by
 have Ha:=h_ ha;have Hn:=h_ hn;obtain⟨V,hV⟩:∃V,Ze l=V:=⟨_,rfl⟩;have HV:Hid (V=(tv (-1) l&&decide (l.length<=4096))):=h_ hV.symm;rw[hV];clear ha hn hV;go_enter Tryz.func31,Tryz.ntmps31;go_wp2;go_loopw [3,8] (λs3 s8 wr=>∃(i:Nat) (last:Int),i<=n/\s3=.int .i64 last/\s8=.int .i64 (i:Int)/\Hid (tv (-1) l=tv last (l.drop i))/\wr=w) (λ_ s8 _=>(n-intOf s8).toNat);case atStart=>exact⟨0,-1,Var _,rfl,rfl,h_ rfl,rfl⟩
 case round=>
  obtain⟨i,last,hi,rfl,rfl,yl,rfl⟩:=hrel;by_cases ab:i<n
  ·have aX:i<l.length:=(by rw[<-Hn.o];exact ab);have hd:l.drop i=l[i]::l.drop (i+1):=Va4 aX;have bu:=Z5j l i aX;obtain⟨x,hx⟩:∃x,l[i]=x:=⟨_,rfl⟩;rw[hx] at hd bu;obtain⟨b,o,hA,hb,hc⟩:=Ha.o.get i _ bu;subst hA;have ru:=yl.o;rw[hd] at ru;have rv:tv (-1) l=(decide (last<x)&&decide (x<=1099511627776)&&tv x (l.drop (i+1))):=ru;have dw:(i:Int)<(n:Int):=(by omega);by_cases h1:x<=last
   ·have Hv:Hid (V=false):=h_ (by rw[HV.o,rv,Vah (show ¬last<x by omega)];rfl);clear aX hd bu hx ru rv yl;go_wp2;go_ret;exact⟨Z2 Hv.o.symm,rfl⟩
   ·by_cases h2:1099511627776<x
    ·have Hv:Hid (V=false):=h_ (by rw[HV.o,rv,Vah (show ¬x<=1099511627776 by omega),Bool.and_false];rfl);clear aX hd bu hx ru rv yl;go_wp2;go_ret;exact⟨Z2 Hv.o.symm,rfl⟩
    ·have Hv:Hid (tv (-1) l=tv x (l.drop (i+1))):=h_ (by rw[rv,Vam (show last<x by omega),Vam (show x<=1099511627776 by omega)];rfl);clear aX hd bu hx ru rv yl;go_wp2;refine⟨⟨i+1,x,ab,rfl,by go_num,Hv,by first|trivial|rfl⟩,?_⟩;simp[intOf]<;>omega
  ·have mw:i=n:=(by omega);have ru:=yl.o;rw[Vbb (by rw[<-Hn.o];omega)] at ru;have Hv:Hid (V=decide (n<=4096)):=h_ (by rw[HV.o,ru,Hn.o];rfl);subst mw;clear ru yl;go_wp2;go_ret;exact⟨Z2 (by rw[Hv.o];simp;omega),rfl⟩
theorem Z0n {w:World} {A:Option Addr} {l:List Int} (ha:At w A (ivs l)) (n cap:Nat) (hn:n=l.length) (hv:Ze l=true):
  Calls Tryz.prog 50 #[.slice A n cap] w λx w'=>∃v,x=.returned v/\IRes w' v (Z7 l)/\Below w.heap.size w w':=by
 obtain⟨v1,v2,v3⟩:=Z9.1 hv;have bf:n<=4096:=(by omega);have bG:=Yi (P:=Tryz.prog) 31 3 _ _ Tryz.underlying31 ZS rfl (n:Int) n rfl (by omega) (by omega) w;rw[XP] at bG;have dF:=h_ (Bk.new w 3 (ica (List.replicate n 0)));have aP:=h_ ((Vae w.heap.size w).alloc UZz (.cells (ica (List.replicate n 0)) 3));have Ha:=h_ ha;have Hn:=h_ hn;have fa:=h_ v2;have av:Hid ((Z7 l).length=n):=h_ (by unfold Z7;rw[ZX,hn]);clear ha hn hv v1 v2 v3;go_enter Tryz.func50,Tryz.ntmps50;go_wp2;go_loopw [3,12] (λs3 mi wr=>∃(i:Nat) (last:Int) (G:List Int),i<=n/\-1<=last/\last<=1099511627776/\s3=.int .i64 last/\mi=.int .i64 (i:Int)/\Hid (Z7 l=G++gp last (l.drop i))/\Hid (G.length=i)/\Hid (Bk wr w.heap.size 3 (ica (G++List.replicate (n-i) 0)))/\Hid (Below w.heap.size w wr)) (λ_ mi _=>(n-intOf mi).toNat);case atStart=>exact⟨0,-1,[],Var _,by omega,by omega,rfl,rfl,h_ rfl,h_ rfl,h_ (by simpa using dF.o),aP⟩
 case round=>
  obtain⟨i,last,G,hi,bW,dz,rfl,rfl,hG,gk,aF,hb⟩:=hrel;by_cases ab:i<n
  ·have aX:i<l.length:=(by rw[<-Hn.o];exact ab);have hd:l.drop i=l[i]::l.drop (i+1):=Va4 aX;have bu:=Z5j l i aX;have cY:=fa.o l[i] (Vaj _);obtain⟨x,hx⟩:∃x,l[i]=x:=⟨_,rfl⟩;rw[hx] at hd bu cY;obtain⟨b,o,hA,eD,bP⟩:=Ha.o.get i _ bu;subst hA;have hc:=(hb.o.cell (p:=⟨b,o+i,none⟩) eD).trans bP;obtain⟨om,DK⟩:=cY;have aj:=aF.o.put i (.int .i64 (x-last-1));rw[Z6w,show n-i=(n-(i+1))+1 by omega,Vbg,Va8 _ _ (by rw[gk.o];exact UZz),gk.o,Va7,List.set_cons_zero] at aj;have az:Hid (Bk (wr.setCell ⟨w.heap.size,i,none⟩ (.int .i64 (x-last-1))) w.heap.size 3 (ica ((G++[x-last-1])++List.replicate (n-(i+1)) 0))):=h_ (by rw[Vay];exact aj);have sB:=h_ (hb.o.setCell (p:=⟨w.heap.size,i,none⟩) UZz (.int .i64 (x-last-1)));have HG:Hid (Z7 l=(G++[x-last-1])++gp x (l.drop (i+1))):=h_ (by rw[hG.o,hd,Vay];rfl);have E8:Hid ((G++[x-last-1]).length=i+1):=h_ (by rw[Vab,gk.o];rfl);obtain⟨y0,tx⟩:∃y:Int,wr.cell? ⟨w.heap.size,i,none⟩=some (.int .i64 y):=⟨_,by rw[aF.o.cell,Z6v _ _ (by rw[Vab,gk.o,Vaw];omega)]⟩;have mO:=aF.o.frozen i;have dw:(i:Int)<(n:Int):=(by omega);clear aX hd bu hx aj hG gk aF hb bG dF aP bP;go_wp2;refine⟨⟨i+1,x,_,ab,by omega,DK,rfl,by go_num,HG,E8,az,sB⟩,?_⟩;simp[intOf]<;>omega
  ·have mw:i=n:=(by omega);subst mw;have iU:=hG.o;rw[Vbb (by rw[<-Hn.o];exact UZz)] at iU;have AP:Z7 l=G:=(by rw[iU];exact Va3 _)
   have aI:Hid (IRes wr (.slice (some ⟨w.heap.size,0,none⟩) i i) (Z7 l)):=h_ ⟨_,i,by rw[av.o],by
    have:=Z7W aF.o;rw[Va7,List.replicate_zero,Va3] at this;rw[AP];exact this⟩
   clear iU AP hG gk aF bG dF aP;go_wp2;go_ret;exact⟨_,rfl,aI.o,hb.o⟩
def JRes (w:World) (r:Option (List Int)) (x:Ending) (w':World):Prop:=∃v ok,x=.returned (.tuple #[v,.bool ok])/\ok=r.isSome/\(∀l,r=some l->IRes w' v l)/\Below w.heap.size w w'
theorem X6 {w w':World} {r:Option (List Int)} {v:Value} (h:r=none) (hb:Below w.heap.size w w'):JRes w r (.returned (.tuple #[v,.bool false])) w':=⟨_,_,rfl,by rw[h];rfl,(λl h2=>by rw[h] at h2;cases h2),hb⟩
theorem Z0o {w:World} {A:Option Addr} {l:List Int} (ha:At w A (ivs l)) (n cap:Nat) (hn:n=l.length) (bf:n<=1000000):
  Calls Tryz.prog 93 #[.slice A n cap] w λx w'=>JRes w (jnL l) x w':=by
 have bG:=Yi (P:=Tryz.prog) 31 3 _ _ Tryz.underlying31 ZS rfl (n:Int) n rfl (by omega) (by omega) w;rw[XP] at bG;have dF:=h_ (Bk.new w 3 (ica (List.replicate n 0)));have aP:=h_ ((Vae w.heap.size w).alloc UZz (.cells (ica (List.replicate n 0)) 3));have Ha:=h_ ha;have Hn:=h_ hn;obtain⟨R,hR⟩:∃R,jnL l=R:=⟨_,rfl⟩;have HR:Hid (R=match jn (-1) l with|some r=>if r.length<=4096 then some r else none|none=>none):=h_ hR.symm;rw[hR];clear ha hn hR;go_enter Tryz.func93,Tryz.ntmps93;go_wp2;go_loopw [4,13] (λs4 lp wr=>∃(i:Nat) (last:Int) (G:List Int),i<=n/\-1<=last/\last<=1099511627776/\s4=.int .i64 last/\lp=.int .i64 (i:Int)/\Hid (jn (-1) l=(jn last (l.drop i)).map (G++·))/\Hid (G.length=i)/\Hid (Bk wr w.heap.size 3 (ica (G++List.replicate (n-i) 0)))/\Hid (Below w.heap.size w wr)) (λ_ lp _=>(n-intOf lp).toNat);case atStart=>exact⟨0,-1,[],Var _,by omega,by omega,rfl,rfl,h_ (by simp),h_ rfl,h_ (by simpa using dF.o),aP⟩
 case round=>
  obtain⟨i,last,G,hi,bW,dz,rfl,rfl,hG,gk,aF,hb⟩:=hrel;by_cases ab:i<n
  ·have aX:i<l.length:=(by rw[<-Hn.o];exact ab);have hd:l.drop i=l[i]::l.drop (i+1):=Va4 aX;have bu:=Z5j l i aX;obtain⟨x,hx⟩:∃x,l[i]=x:=⟨_,rfl⟩;rw[hx] at hd bu;obtain⟨b,o,hA,eD,bP⟩:=Ha.o.get i _ bu;subst hA;have hc:=(hb.o.cell (p:=⟨b,o+i,none⟩) eD).trans bP;have hj:jn last (x::l.drop (i+1))=if x<0\/1099511627776<x\/1099511627776<last+x+1 then none else(jn (last+x+1) (l.drop (i+1))).map ((last+x+1)::·):=rfl
   have iU:=hG.o;rw[hd,hj] at iU;have dw:(i:Int)<(n:Int):=(by omega);by_cases h1:x<0
   ·have Hv:Hid (R=none):=h_ (by rw[HR.o,iU,Vaf (.inl h1)];rfl);clear aX hd bu hx hj iU hG gk aF bG dF aP bP;go_wp2;go_ret2;exact X6 Hv.o hb.o
   ·by_cases h2:1099511627776<x
    ·have Hv:Hid (R=none):=h_ (by rw[HR.o,iU,Vaf (.inr (.inl h2))];rfl);clear aX hd bu hx hj iU hG gk aF bG dF aP bP;go_wp2;go_ret2;exact X6 Hv.o hb.o
    ·have e1:last+(x+1)=last+x+1:=(by omega);obtain⟨y,hy⟩:∃y,last+x+1=y:=⟨_,rfl⟩;have aj:=aF.o.put i (.int .i64 y);rw[Z6w,show n-i=(n-(i+1))+1 by omega,Vbg,Va8 _ _ (by rw[gk.o];exact UZz),gk.o,Va7,List.set_cons_zero] at aj;have az:Hid (Bk (wr.setCell ⟨w.heap.size,i,none⟩ (.int .i64 y)) w.heap.size 3 (ica ((G++[y])++List.replicate (n-(i+1)) 0))):=h_ (by rw[Vay];exact aj);have sB:=h_ (hb.o.setCell (p:=⟨w.heap.size,i,none⟩) UZz (.int .i64 y));have E8:Hid ((G++[y]).length=i+1):=h_ (by rw[Vab,gk.o];rfl);obtain⟨y0,tx⟩:∃y:Int,wr.cell? ⟨w.heap.size,i,none⟩=some (.int .i64 y):=⟨_,by rw[aF.o.cell,Z6v _ _ (by rw[Vab,gk.o,Vaw];omega)]⟩;have mO:=aF.o.frozen i;rw[hy] at iU;by_cases h3:1099511627776<y
     ·have Hv:Hid (R=none):=h_ (by rw[HR.o,iU,Vaf (.inr (.inr h3))];rfl);have Dr:last+(x+1)=y:=(by omega);clear aX hd bu hx hj iU hG gk aF hb bG dF aP bP aj e1 hy;go_wp2;go_ret2;exact X6 Hv.o sB.o
     ·have HG:Hid (jn (-1) l=(jn y (l.drop (i+1))).map ((G++[y])++·)):=h_ (by
       rw[iU,Vad (by omega),Option.map_map];congr 1;funext r;simp)
      have Dr:last+(x+1)=y:=(by omega);clear aX hd bu hx hj iU hG gk aF hb bG dF aP bP aj e1 hy;go_wp2;refine⟨⟨i+1,y,_,ab,by omega,by omega,rfl,by go_num,HG,E8,az,sB⟩,?_⟩;simp[intOf]<;>omega
  ·have mw:i=n:=(by omega);subst mw;have iU:=hG.o;rw[Vbb (by rw[<-Hn.o];exact UZz)] at iU;have AP:jn (-1) l=some G:=(by rw[iU];simp[jn])
   have aI:Hid (IRes wr (.slice (some ⟨w.heap.size,0,none⟩) i i) G):=h_ ⟨_,i,by rw[gk.o],by
    have:=Z7W aF.o;rw[Va7,List.replicate_zero,Va3] at this;exact this⟩
   have Hv:Hid (R=if i<=4096 then some G else none):=h_ (by rw[HR.o,AP];simp only;rw[gk.o]);clear iU AP hG gk aF bG dF aP;go_wp2;go_ret2;refine⟨_,_,rfl,?_,λl h=> ?_,hb.o⟩
   ·rw[Hv.o];by_cases h:i<=4096
    ·rw[Vaf h];simp;omega
    ·rw[Vad h];simp;omega
   ·rw[Hv.o] at h;split at h
    ·injection h with h;subst h;exact aI.o
    ·cases h
def CV (c:Clk):Value:=.agg #[.int .i64 c.st,.int .i64 c.f,.int .i64 c.s,.int .i64 c.n]
def inD (c:Clk):Prop:=0<=c.st/\c.st<=1099511627776/\1<=c.f/\c.f<=1099511627776/\1<=c.s/\c.s<=1099511627776
theorem ZiA {c:Clk} (h:inC c):inD c:=⟨h.2.2.1,h.2.2.2.1,h.2.2.2.2.1,h.2.2.2.2.2.1,h.2.2.2.2.2.2.1,h.2.2.2.2.2.2.2⟩
theorem Zh6 {k:Nat} {f:Int} (hk:k<=3000) (h1:1<=f) (h2:f<=1099511627776):0<=(k:Int)*f/\(k:Int)*f<=3298534883328000:=by
  constructor
  · exact Int.mul_nonneg (Int.natCast_nonneg k) (by omega)
  · calc (k : Int) * f <= 3000 * f := Int.mul_le_mul_of_nonneg_right (by omega) (by omega)
      _<=3298534883328000:=by omega
theorem Z6x {c:Clk} (hc:inD c) (i:Nat) (hi:i<=5000) (w:World):
  Calls Tryz.prog 72 #[CV c,.int .i64 (i:Int)] w λx w'=>x=.returned (.int .i64 (atC c i))/\Below w.heap.size w w':=by
 obtain⟨h1,h2,h3,h4,h5,h6⟩:=hc;obtain⟨st,f,s,n⟩:=c;simp only at*;have an:atC ⟨st,f,s,n⟩ i=st+((i+1)/2:Nat)*f+(i/2:Nat)*s:=rfl;obtain⟨k1,bk⟩:∃k,(i+1)/2=k:=⟨_,rfl⟩;obtain⟨k2,cK⟩:∃k,i/2=k:=⟨_,rfl⟩;rw[bk,cK] at an;obtain⟨m1,m2⟩:=Zh6 (k:=k1) (by omega) h3 h4;obtain⟨m3,m4⟩:=Zh6 (k:=k2) (by omega) h5 h6;have e1:((i:Int)+1)/2=(k1:Int):=(by omega);have e2:(i:Int)/2=(k2:Int):=(by omega);obtain⟨P1,SW⟩:∃P,(k1:Int)*f=P:=⟨_,rfl⟩;obtain⟨P2,SX⟩:∃P,(k2:Int)*s=P:=⟨_,rfl⟩;rw[SW] at m1 m2 an;rw[SX] at m3 m4 an;have bJ:=h_ an;clear bk cK an;unfold CV;simp only;go_enter Tryz.func72,Tryz.ntmps72;go_wp2;go_ret;exact⟨by rw[bJ.o];rfl,(Vae w.heap.size w).alloc UZz _⟩
theorem Z43 (n a b:Int) (w:World):
  Calls Tryz.prog 160 #[.int .i64 n,.int .i64 a,.int .i64 b] w λx w'=>x=.returned (.bool (decide (a<=n)&&decide (n<=b)))/\w=w':=by
 by_cases h1:a<=n
 ·by_cases h2:n<=b
  ·go_enter Tryz.func160,Tryz.ntmps160;go_wp2;go_ret;exact⟨Z2 (by simp[h1,h2]),rfl⟩
  ·go_enter Tryz.func160,Tryz.ntmps160;go_wp2;go_ret;exact⟨Z2 (by rw[eq_comm,Vbq];omega),rfl⟩
 ·go_enter Tryz.func160,Tryz.ntmps160;go_wp2;go_ret;exact⟨Z2 (by rw[eq_comm,Vdc,Vbq,Vbq];omega),rfl⟩
theorem Zcm (c:Clk) (w:World):
  Calls Tryz.prog 116 #[CV c] w λx w'=>x=.returned (.bool (vclk c))/\Below w.heap.size w w':=by
 obtain⟨b1,a7⟩:∃b,(decide (1<=c.n)&&decide (c.n<=4096))=b:=⟨_,rfl⟩;obtain⟨b2,a8⟩:∃b,(decide (0<=c.st)&&decide (c.st<=1099511627776))=b:=⟨_,rfl⟩;obtain⟨b3,af⟩:∃b,(decide (1<=c.f)&&decide (c.f<=1099511627776))=b:=⟨_,rfl⟩;obtain⟨b4,au⟩:∃b,(decide (1<=c.s)&&decide (c.s<=1099511627776))=b:=⟨_,rfl⟩;have H1:=h_ (λW=>Z43 c.n 1 4096 W);have H2:=h_ (λW=>Z43 c.st 0 1099511627776 W);have H3:=h_ (λW=>Z43 c.f 1 1099511627776 W);have H4:=h_ (λW=>Z43 c.s 1 1099511627776 W);rw[a7] at H1;rw[a8] at H2;rw[af] at H3;rw[au] at H4
 have hv:vclk c=(b1&&b2&&b3&&b4&&decide (atC c (c.n-1).toNat<=1099511627776)):=by
  unfold vclk;congr 1;rw[<-a7,<-a8,<-af,<-au,Vbl,Vaq];unfold inC;simp[and_assoc]
 have mZ:=h_ ((Vae w.heap.size w).alloc UZz (.cells #[.int .i64 c.st,.int .i64 c.f,.int .i64 c.s,.int .i64 c.n] 96));by_cases ao:b1=true/\b2=true/\b3=true/\b4=true
 ·obtain⟨rfl,rfl,rfl,rfl⟩:=ao
  have aO:inC c:=by
   simp at a7 a8 af au;exact⟨a7.1,a7.2,a8.1,a8.2,af.1,af.2,au.1,au.2⟩
  have n1:=aO.1;have n2:=aO.2.1;have bJ:=h_ (λW=>Z6x (ZiA aO) (c.n-1).toNat (by omega) W);obtain⟨m,hm⟩:∃m,(c.n-1).toNat=m:=⟨_,rfl⟩;have VN:c.n-1=(m:Int):=(by omega);rw[hm] at bJ hv;obtain⟨T,hT⟩:∃T,atC c m=T:=⟨_,rfl⟩;rw[hT] at bJ hv;have Hv:=h_ hv;clear a7 a8 af au hv aO hm hT;obtain⟨st,f,s,n⟩:=c;simp only at*;unfold CV at bJ⊢;simp only at bJ⊢;go_enter Tryz.func116,Tryz.ntmps116;go_wp2_with fail;refine(H1.o _).mono ?_;rintro x w1 ⟨rfl,rfl⟩;go_wp2_with fail;refine(H2.o _).mono ?_;rintro x w1 ⟨rfl,rfl⟩;go_wp2_with fail;refine(H3.o _).mono ?_;rintro x w1 ⟨rfl,rfl⟩;go_wp2_with fail;refine(H4.o _).mono ?_;rintro x w1 ⟨rfl,rfl⟩;go_wp2_with fail;refine(bJ.o _).mono ?_;rintro x w1 ⟨rfl,hb⟩;have ak:=h_ (mZ.o.trans (hb.mono mZ.o.size));clear hb;go_wp2;go_ret;exact⟨Z2 (by rw[Hv.o];simp),ak.o⟩
 ·have Hv:Hid (vclk c=false):=h_ (by
   rw[hv];cases b1<;>cases b2<;>cases b3<;>cases b4<;>simp at ao<;>rfl)
  clear a7 a8 af au hv;obtain⟨st,f,s,n⟩:=c;simp only at*;unfold CV;simp only;cases b1 with
  |false=>
   clear ao;go_enter Tryz.func116,Tryz.ntmps116;go_wp2_with fail;refine(H1.o _).mono ?_;rintro x w1 ⟨rfl,rfl⟩;go_wp2;go_ret;exact⟨Z2 Hv.o.symm,mZ.o⟩
  |true=>
   cases b2 with
   |false=>
    clear ao;go_enter Tryz.func116,Tryz.ntmps116;go_wp2_with fail;refine(H1.o _).mono ?_;rintro x w1 ⟨rfl,rfl⟩;go_wp2_with fail;refine(H2.o _).mono ?_;rintro x w1 ⟨rfl,rfl⟩;go_wp2;go_ret;exact⟨Z2 Hv.o.symm,mZ.o⟩
   |true=>
    cases b3 with
    |false=>
     clear ao;go_enter Tryz.func116,Tryz.ntmps116;go_wp2_with fail;refine(H1.o _).mono ?_;rintro x w1 ⟨rfl,rfl⟩;go_wp2_with fail;refine(H2.o _).mono ?_;rintro x w1 ⟨rfl,rfl⟩;go_wp2_with fail;refine(H3.o _).mono ?_;rintro x w1 ⟨rfl,rfl⟩;go_wp2;go_ret;exact⟨Z2 Hv.o.symm,mZ.o⟩
    |true=>
     obtain rfl:b4=false:=(by cases b4<;>simp at ao⊢);clear ao;go_enter Tryz.func116,Tryz.ntmps116;go_wp2_with fail;refine(H1.o _).mono ?_;rintro x w1 ⟨rfl,rfl⟩;go_wp2_with fail;refine(H2.o _).mono ?_;rintro x w1 ⟨rfl,rfl⟩;go_wp2_with fail;refine(H3.o _).mono ?_;rintro x w1 ⟨rfl,rfl⟩;go_wp2_with fail;refine(H4.o _).mono ?_;rintro x w1 ⟨rfl,rfl⟩;go_wp2;go_ret;exact⟨Z2 Hv.o.symm,mZ.o⟩
def Z44 (w:World) (c:Clk) (x:Ending) (w':World):Prop:=if vclk c=true then(∃g,x=.returned (.tuple #[.slice (some ⟨g,0,none⟩) c.n.toNat c.n.toNat,.int .i64 0])/\Bk w' g 3 (ica (ZD c))/\w.heap.size<=g/\Below w.heap.size w w') else(x=.returned (.tuple #[.slice none 0 0,.int .i64 1])/\Below w.heap.size w w')
theorem Z32 (c:Clk) (w:World):
  Calls Tryz.prog 73 #[CV c] w λx w'=>Z44 w c x w':=by
 have Hv:=h_ (λW=>Zcm c W);cases hv:vclk c with
 |false=>
  rw[hv] at Hv;have lq:Hid (∀x w',Z44 w c x w'↔(x=.returned (.tuple #[.slice none 0 0,.int .i64 1])/\Below w.heap.size w w')):=h_ (λx w'=>by unfold Z44;rw[Vad (by rw[hv];simp)]);have mZ:=h_ ((Vae w.heap.size w).alloc UZz (.cells #[.int .i64 c.st,.int .i64 c.f,.int .i64 c.s,.int .i64 c.n] 96));clear hv;obtain⟨st,f,s,n⟩:=c;unfold CV at Hv⊢;simp only at Hv mZ⊢;go_enter Tryz.func73,Tryz.ntmps73;go_wp2_with fail;refine(Hv.o _).mono ?_;rintro x w1 ⟨rfl,hb⟩;have ak:=h_ (mZ.o.trans (hb.mono mZ.o.size));clear hb;go_wp2;go_ret2;exact(lq.o _ _).2 ⟨rfl,ak.o⟩
 |true=>
  rw[hv] at Hv;have lq:Hid (∀x w',Z44 w c x w'↔(∃g,x=.returned (.tuple #[.slice (some ⟨g,0,none⟩) c.n.toNat c.n.toNat,.int .i64 0])/\Bk w' g 3 (ica (ZD c))/\w.heap.size<=g/\Below w.heap.size w w')):=h_ (λx w'=>by unfold Z44;rw[Vaf hv]);obtain⟨aO,_⟩:=Yw.1 hv;have n1:=aO.1;have n2:=aO.2.1;have bJ:=h_ (λ(i:Nat) (hi:i<=5000) W=>Z6x (ZiA aO) i hi W);have eZ:=Z06 c
  have n5:∀i (h:i<c.n.toNat),ZD c=(ZD c).take i++atC c i::(ZD c).drop (i+1):=λi h=>by
   have h1:i<(ZD c).length:=(by rw[eZ];exact h);have h2:(ZD c)[i]=atC c i:=(by simp[ZD]);rw[<-h2,<-Va4 h1,Vcc]
  obtain⟨N,hN⟩:∃N,c.n.toNat=N:=⟨_,rfl⟩;have Gf:c.n=(N:Int):=(by omega);rw[hN] at lq eZ n5;obtain⟨TL,AQ⟩:∃TL,ZD c=TL:=⟨_,rfl⟩;rw[AQ] at lq eZ n5;have MH:=h_ n5;have sE:=h_ eZ;have mZ:=h_ ((Vae w.heap.size w).alloc UZz (.cells #[.int .i64 c.st,.int .i64 c.f,.int .i64 c.s,.int .i64 c.n] 96));have nN:=h_ (Bk.new w 96 #[.int .i64 c.st,.int .i64 c.f,.int .i64 c.s,.int .i64 c.n]);obtain⟨I5,qe⟩:∃a,atC c=a:=⟨_,rfl⟩;rw[qe] at bJ MH;clear hv aO eZ n5 AQ qe hN;obtain⟨st,f,s,n⟩:=c;simp only at Gf;subst Gf;unfold CV at Hv bJ⊢;simp only at*;have zX:N<=4096:=(by omega);have VO:1<=N:=(by omega);clear n1 n2;go_enter Tryz.func73,Tryz.ntmps73;go_wp2_with fail;refine(Hv.o _).mono ?_;rintro x w1 ⟨rfl,hb⟩;have al:=h_ (mZ.o.trans (hb.mono mZ.o.size));have ft:=h_ (nN.o.below hb nN.o.lt);clear hb mZ nN Hv;have bG:=Yi (P:=Tryz.prog) 31 3 _ _ Tryz.underlying31 ZS rfl (N:Int) N rfl (by omega) (by omega) w1;rw[XP] at bG;have dF:=h_ (Bk.new w1 3 (ica (List.replicate N 0)));have aP:=h_ (al.o.alloc al.o.size (.cells (ica (List.replicate N 0)) 3));have I6:=h_ (ft.o.alloc (.cells (ica (List.replicate N 0)) 3));have ig:=h_ al.o.size;have k0:=ft.o.cell 0;have k1:=ft.o.cell 1;have k2:=ft.o.cell 2;have k3:=ft.o.cell 3;have MJ:=ft.o.lt;have iW:=h_ MJ;simp at k0 k1 k2 k3;go_wp2;clear k0 k1 k2 k3 MJ bG ft al;go_loopw [14] (λjk wr=>∃i:Nat,i<=N/\jk=.int .i64 (i:Int)/\Hid (Bk wr w1.heap.size 3 (ica (TL.take i++List.replicate (N-i) 0)))/\Hid (Bk wr w.heap.size 96 #[.int .i64 st,.int .i64 f,.int .i64 s,.int .i64 (N:Int)])/\Hid (Below w.heap.size w wr)) (λjk _=>(N-intOf jk).toNat);case atStart=>exact⟨0,Var _,rfl,h_ (by simpa using dF.o),I6,aP⟩
  case round=>
   obtain⟨i,hi,rfl,aF,ry,hb⟩:=hrel;by_cases ab:i<N
   ·have dw:(i:Int)<(N:Int):=(by omega);have AT:=h_ (bJ.o i (by omega));obtain⟨T,hT⟩:∃T,I5 i=T:=⟨_,rfl⟩;have I7:=MH.o i ab;rw[hT] at AT I7
    have aT:TL.take (i+1)=TL.take i++[T]:=by
     have hl:(TL.take i).length=i:=(by rw[Vau,sE.o];omega);conv=>lhs;rw[I7]
     rw[List.take_append,hl,show i+1-i=1 by omega,Vai (by rw[hl];omega)];rfl
    have k0:=ry.o.cell 0;have k1:=ry.o.cell 1;have k2:=ry.o.cell 2;have k3:=ry.o.cell 3;simp at k0 k1 k2 k3;have aS:=h_ aT;clear I7 hT aT;go_wp2_with fail;refine(AT.o _).mono ?_;rintro x w2 ⟨rfl,a8⟩;have dK:=aF.o.below a8 aF.o.lt;have AU:=ry.o.below a8 ry.o.lt;have jh:=hb.o.trans (a8.mono hb.o.size);have aj:=dK.put i (.int .i64 T);have hl:(TL.take i).length=i:=(by rw[Vau,sE.o];omega);rw[Z6w,show N-i=(N-(i+1))+1 by omega,Vbg,Va8 _ _ (by rw[hl];exact UZz),hl,Va7,List.set_cons_zero] at aj;have az:Hid (Bk (w2.setCell ⟨w1.heap.size,i,none⟩ (.int .i64 T)) w1.heap.size 3 (ica (TL.take (i+1)++List.replicate (N-(i+1)) 0))):=h_ (by rw[aS.o,Vay];exact aj);have sB:=h_ (jh.setCell (p:=⟨w1.heap.size,i,none⟩) ig.o (.int .i64 T));have sq:=h_ (AU.off (p:=⟨w1.heap.size,i,none⟩) (by show w.heap.size≠w1.heap.size;have:=iW.o;omega) (.int .i64 T));obtain⟨y0,tx⟩:∃y:Int,w2.cell? ⟨w1.heap.size,i,none⟩=some (.int .i64 y):=⟨_,by rw[dK.cell,Z6v _ _ (by rw[Vab,hl,Vaw];omega)]⟩;have mO:=dK.frozen i;clear k0 k1 k2 k3 aj dK AU jh a8 aF ry hb hl;go_wp2;refine⟨⟨i+1,ab,by go_num,az,sq,sB⟩,?_⟩;simp[intOf]<;>omega
   ·have mw:i=N:=(by omega);subst mw
    have bU:Hid (Bk wr w1.heap.size 3 (ica TL)):=h_ (by
     have:=aF.o;rw[Va7,List.replicate_zero,Va3,Vai (by rw[sE.o];exact UZz)] at this;exact this)
    clear aF;go_wp2;go_ret2;exact(lq.o _ _).2 ⟨_,rfl,bU.o,ig.o,hb.o⟩
theorem QS {w:World} {A:Option Addr} {l:List Int} (ha:At w A (ivs l)) (n cap:Nat) (hn:n=l.length) (bf:n<=1000000) (hs:l.Pairwise (· <·)) (x:Int):
  Calls Tryz.prog 74 #[.slice A n cap,.int .i64 x] w λe w'=>(∃p:Int,e=.returned (.tuple #[.int .i64 p,.bool (l.contains x)]))/\∃q,w'=w.drewN q:=by
 by_cases h0:n=0
 ·subst h0;have hl:l=[]:=Vak hn.symm;subst hl;exact(Tryz.slices_BinarySearch_int_empty A cap x w).mono λe w' ⟨h1,h2⟩=>⟨⟨0,h1⟩,0,h2⟩
 ·obtain⟨b,o,rfl,hb,_⟩:=ha 0 (by simp[ivs];omega);refine(Tryz.slices_BinarySearch_int b o n cap l x w (by omega) (by omega) (λj hj=> ?_) ?_).mono λe w' ⟨h1,h2⟩=>⟨⟨_,by rw[Vai (by omega)] at h1;exact h1⟩,h2⟩
  ·obtain⟨b',o',hA,eR,hc⟩:=ha j (by simpa [ivs] using hj);injection hA with hA;injection hA with ll dR;subst ll;subst dR;rw[hc];simp[ivs,iv,hj]
  ·rw[Vai (by omega)];exact hs.imp (λh=>Int.le_of_lt h)
def Zlk (w:World) (r:Option (List Int×List Int)) (x:Ending) (w':World):Prop:=match r with
 |some (m,f)=>∃v1 v2,x=.returned (.tuple #[v1,v2,.int .i64 0])/\IRes w' v1 m/\IRes w' v2 f/\Below w.heap.size w w'
 |none=>x=.returned (.tuple #[.slice none 0 0,.slice none 0 0,.int .i64 1])/\Below w.heap.size w w'
def Z5k (c:Clk) (l:List Int) (i:Nat):List Int:=((List.range i).filter (λi=> !l.contains (atC c i))).map Int.ofNat
theorem Z9e (c:Clk) (l:List Int) (i:Nat):Z5k c l (i+1)=if l.contains (atC c i)=true then Z5k c l i else Z5k c l i++[(i:Int)]:=by
 unfold Z5k;rw[Vcp,List.filter_append,Vbk];by_cases h:l.contains (atC c i)=true
 ·rw[Vaf h,List.filter_cons,h];simp
 ·rw[Vad h];simp only[Bool.not_eq_true] at h;rw[List.filter_cons,h];rfl
theorem Zcn (c:Clk) (l:List Int) (i:Nat):(Z5k c l i).length<=i:=by
 unfold Z5k;rw[Vag];have h1:=List.length_filter_le (λi=> !l.contains (atC c i)) (List.range i);rw[Vbv] at h1;exact h1
theorem ZfL {w:World} {base n:Nat} {v:Value} {l:List Int} (h:w.ownsRow base 3 1 v n (ivs l)) (hn:n=l.length):IRes w v l:=by
 obtain⟨A,cap,hv,an⟩:=Zm h;exact⟨A,cap,by rw[hv,hn],an⟩
theorem IRes.bel {w w':World} {v:Value} {l:List Int} (h:IRes w v l) (hb:Below w.heap.size w w'):IRes w' v l:=by
 obtain⟨A,cap,hv,an⟩:=h;exact⟨A,cap,hv,an.below hb⟩
theorem ZfM {w:World} {A:Option Addr} {l:List Int} (c:Clk) (ha:At w A (ivs l)) (n cap:Nat) (hn:n=l.length) (bf:n<=9223372036854775807):
  Calls Tryz.prog 53 #[CV c,.slice A n cap] w λx w'=>Zlk w (excT c l) x w':=by
 have Ht:=h_ (λW=>Z32 c W);have Ha:=h_ ha;have Hn:=h_ hn;have aP:=h_ ((Vae w.heap.size w).alloc UZz (.cells #[.int .i64 c.st,.int .i64 c.f,.int .i64 c.s,.int .i64 c.n] 96));have hex:excT c l=if vclk c=true/\Ze l=true then some (XY c l,furL c l) else none:=rfl
 cases hv:vclk c with
 |false=>
  rw[hv,Vad (by simp)] at hex;rw[hex];have rz:Hid (∀W,Calls Tryz.prog 73 #[CV c] W λx w'=>x=.returned (.tuple #[.slice none 0 0,.int .i64 1])/\Below W.heap.size W w'):=h_ (λW=>(Ht.o W).mono λx w' h=>by unfold Z44 at h;rw[Vad (by rw[hv];simp)] at h;exact h);clear hex hv Ht ha hn;obtain⟨st,f,s,cn⟩:=c;unfold CV at rz⊢;simp only at*;go_enter Tryz.func53,Tryz.ntmps53;go_wp2_with fail;refine(rz.o _).mono ?_;rintro x w1 ⟨rfl,hb⟩;have al:=h_ (aP.o.trans (hb.mono aP.o.size));clear hb;go_wp2;go_ret3;exact⟨rfl,al.o⟩
 |true=>
  obtain⟨aO,_⟩:=Yw.1 hv;have rz:Hid (∀W,Calls Tryz.prog 73 #[CV c] W λx w'=>(∃g,x=.returned (.tuple #[.slice (some ⟨g,0,none⟩) c.n.toNat c.n.toNat,.int .i64 0])/\Bk w' g 3 (ica (ZD c))/\W.heap.size<=g/\Below W.heap.size W w')):=h_ (λW=>(Ht.o W).mono λx w' h=>by unfold Z44 at h;rw[Vaf hv] at h;exact h);have n1:=aO.1;have n2:=aO.2.1;have eZ:=Z06 c;have cj:=Z07 aO;have rA:∀i,i<c.n.toNat->(ZD c)[i]? =some (atC c i):=λi h=>(by simp[ZD,h]);have zN:XY c l=Z5k c l c.n.toNat:=rfl;have e9:=h_ (λW (h:Below w.heap.size w W)=>Z0M (ha.below h) n cap hn bf);cases hl:Ze l with
  |false=>
   rw[hv,hl,Vad (by simp)] at hex;rw[hex];rw[hl] at e9;clear hex hv Ht ha hn aO hl eZ cj rA zN;obtain⟨st,f,s,cn⟩:=c;unfold CV at rz⊢;simp only at*;go_enter Tryz.func53,Tryz.ntmps53;go_wp2_with fail;refine(rz.o _).mono ?_;rintro x w1 ⟨g,rfl,hg,I8,hb⟩;have al:=h_ (aP.o.trans (hb.mono aP.o.size));clear hb hg I8;go_wp2_with fail;refine(e9.o _ al.o).mono ?_;rintro x w2 ⟨rfl,rfl⟩;go_wp2;go_ret3;exact⟨rfl,al.o⟩
  |true=>
   rw[hv,hl,Vaf ⟨rfl,rfl⟩,zN] at hex;rw[hex];rw[hl] at e9;obtain⟨v1,v2,v3⟩:=Z9.1 hl;have Dy:n<=4096:=(by omega);have fZ:=λi=>Z9e c l i;have eS:=λi=>Zcn c l i;have AY:furL c l=l.filter (λt=> !(ZD c).contains t):=rfl;rw[AY];obtain⟨N,hN⟩:∃N,c.n.toNat=N:=⟨_,rfl⟩;rw[hN] at eZ rA rz⊢;obtain⟨TL,AQ⟩:∃TL,ZD c=TL:=⟨_,rfl⟩;rw[AQ] at eZ cj rA rz⊢;obtain⟨mp,I9⟩:∃mp,Z5k c l=mp:=⟨_,rfl⟩;rw[I9] at fZ eS⊢;obtain⟨I5,qe⟩:∃a,atC c=a:=⟨_,rfl⟩;rw[qe] at fZ rA;have eW:mp 0=[]:=(by rw[<-I9];rfl);have y9:=h_ eW;have tK:=h_ fZ;have oi:=h_ eS;have sE:=h_ eZ;have Ia:=h_ cj;have AZ:=h_ rA;have B0:=h_ v1;have zX:N<=4096:=(by omega);clear hex hv Ht ha hn aO hl eZ cj rA zN v1 v2 v3 fZ eS AY hN AQ I9 qe eW n1 n2;obtain⟨st,f,s,cn⟩:=c;unfold CV at rz⊢;simp only at*;go_enter Tryz.func53,Tryz.ntmps53;go_wp2_with fail;refine(rz.o _).mono ?_;rintro x w1 ⟨g,rfl,hg,I8,hb⟩;have al:=h_ (aP.o.trans (hb.mono aP.o.size));have fy:=h_ (Z7W hg);clear hb hg I8 aP;go_wp2_with fail;refine(e9.o _ al.o).mono ?_;rintro x w2 ⟨rfl,rfl⟩;have MK:=h_ (Ha.o.below al.o);clear e9 rz;go_upto_region 5 with fail;go_wp2;go_loopw [9,33] (λs9 Ib wr=>∃i:Nat,i<=N/\Ib=.int .i64 (i:Int)/\Hid (wr.ownsRow w1.heap.size 3 1 s9 (mp i).length (ivs (mp i)))/\Hid (Below w1.heap.size w1 wr)) (λ_ Ib _=>(N-intOf Ib).toNat);case atStart=>exact⟨0,Var _,rfl,h_ (by rw[y9.o];exact Zk),h_ (Vae _ _)⟩
   case round=>
    obtain⟨i,hi,rfl,aa,eo⟩:=hrel;have bL:=fy.o.below eo.o;have qf:=MK.o.below eo.o;by_cases ab:i<N
    ·have n5:=AZ.o i ab;obtain⟨T,hT⟩:∃T,I5 i=T:=⟨_,rfl⟩;have fZ:=tK.o i;rw[hT] at n5 fZ;have iH:(ivs TL)[i]? =some (.int .i64 T):=(by unfold ivs;rw[Vbc,n5];rfl);obtain⟨b',o',hA,eR,hc⟩:=bL.get i _ iH;injection hA with hA;injection hA with ll dR;subst ll;subst dR;rw[Vbo] at hc;have kH:=h_ (QS qf n cap Hn.o (by omega) B0.o T);have dw:(i:Int)<(N:Int):=(by omega);have eS:=oi.o i;have av:=h_ eS;cases fh:l.contains T with
     |true=>
      rw[fh] at kH fZ;rw[Vaf rfl] at fZ;have mA:=h_ fZ;clear n5 hT fZ iH bL qf eR eS fh;go_wp2_with fail;refine(kH.o).mono ?_;rintro x w3 ⟨⟨p,rfl⟩,q,rfl⟩;go_wp2;refine⟨⟨i+1,ab,by go_num,h_ (by rw[mA.o];exact aa.o),h_ (bdN eo.o q)⟩,?_⟩;simp[intOf]<;>omega
     |false=>
      rw[fh] at kH fZ;rw[Vad (by simp)] at fZ;have mA:=h_ fZ;clear n5 hT fZ iH bL qf eR fh;go_wp2_with fail;refine(kH.o).mono ?_;rintro x w3 ⟨⟨p,rfl⟩,q,rfl⟩;obtain⟨v',w4,ag,ah,aC,_⟩:=Yr (P:=Tryz.prog) 31 3 _ _ Tryz.underlying31 ZS rfl (w:=wr.drewN q) aa.o (bdN eo.o q) eo.o.size (.int .i64 (i:Int)) rfl (by unfold maxLen;omega) (by omega);have ar:=h_ ag
      have aJ:Hid (w4.ownsRow w1.heap.size 3 1 v' (mp (i+1)).length (ivs (mp (i+1)))):=h_ (by
       rw[mA.o,Vab,Qw];exact ah)
      have cS:=h_ aC;clear ag ah aC aa eo eS
      go_wp2_with (
       at_builtin;refine Z4 (by with_reducible rfl) rfl _ _ _ rfl _ _ (by rfl) (by rfl) ar.o ?_)
      refine⟨⟨i+1,ab,by go_num,aJ,cS⟩,?_⟩;simp[intOf]<;>omega
    ·have mw:i=N:=(by omega);subst mw;obtain⟨W5,rfl⟩:∃W,W=wr:=⟨_,rfl⟩;obtain⟨A9,iF,qg,fA⟩:=Zm aa.o;subst qg;have lr:=h_ fA;have Ic:=h_ qf;have kT:=h_ bL;have jX:=h_ (al.o.trans (eo.o.mono al.o.size));have SY:=h_ (show l.filter (λt=> !TL.contains t)=(l.take n).filter (λt=> !TL.contains t) by rw[Vai (by rw[Hn.o];exact UZz)]);clear fA qf bL aa eo fy MK al y9 tK AZ oi;go_wp2;go_loopw [10,53] (λlh B4 wx=>∃k:Nat,k<=n/\B4=.int .i64 (k:Int)/\Hid (wx.ownsRow W5.heap.size 3 1 lh ((l.take k).filter (λt=> !TL.contains t)).length (ivs ((l.take k).filter (λt=> !TL.contains t))))/\Hid (Below W5.heap.size W5 wx)) (λ_ B4 _=>(n-intOf B4).toNat);case atStart=>exact⟨0,Var _,rfl,h_ Zk,h_ (Vae _ _)⟩
     case round=>
      obtain⟨k,hk,rfl,aa,gS⟩:=hrel;have cD:=kT.o.below gS.o;have sF:=Ic.o.below gS.o;by_cases ab:k<n
      ·have bh:k<l.length:=(by rw[<-Hn.o];exact ab);have bu:=Z5j l k bh;have jY:l.take (k+1)=l.take k++[l[k]]:=Vac bh;obtain⟨T,hT⟩:∃T,l[k]=T:=⟨_,rfl⟩;rw[hT] at bu jY;obtain⟨b',o',hA,eR,hc⟩:=sF.get k _ bu;subst hA;have kH:=h_ (QS cD i i sE.o.symm (by omega) Ia.o T);have dw:(k:Int)<(n:Int):=(by omega)
       have GU:Hid (((l.take k).filter (λt=> !TL.contains t)).length<=4096):=h_ (by
        have h1:=List.length_filter_le (λt=> !TL.contains t) (l.take k);rw[Vau] at h1;omega)
       cases fh:TL.contains T with
       |true=>
        rw[fh] at kH
        have mA:Hid ((l.take (k+1)).filter (λt=> !TL.contains t)=(l.take k).filter (λt=> !TL.contains t)):=h_ (by
         rw[jY,List.filter_append,List.filter_cons,fh];simp)
        clear hT bu jY cD sF eR fh bh;go_wp2_with fail;refine(kH.o).mono ?_;rintro x w3 ⟨⟨p,rfl⟩,q,rfl⟩;go_wp2;refine⟨⟨k+1,ab,by go_num,h_ (by rw[mA.o];exact aa.o),h_ (bdN gS.o q)⟩,?_⟩;simp[intOf]<;>omega
       |false=>
        rw[fh] at kH
        have mA:Hid ((l.take (k+1)).filter (λt=> !TL.contains t)=(l.take k).filter (λt=> !TL.contains t)++[T]):=h_ (by
         rw[jY,List.filter_append,List.filter_cons,fh];rfl)
        clear hT bu jY cD sF eR fh bh;go_wp2_with fail;refine(kH.o).mono ?_;rintro x w3 ⟨⟨p,rfl⟩,q,rfl⟩;have fD:=GU.o;obtain⟨v',w4,ag,ah,aC,_⟩:=Yr (P:=Tryz.prog) 31 3 _ _ Tryz.underlying31 ZS rfl (w:=wr.drewN q) aa.o (bdN gS.o q) gS.o.size (.int .i64 T) rfl (by unfold maxLen;omega) (by omega);have ar:=h_ ag
        have aJ:Hid (w4.ownsRow W5.heap.size 3 1 v' ((l.take (k+1)).filter (λt=> !TL.contains t)).length (ivs ((l.take (k+1)).filter (λt=> !TL.contains t)))):=h_ (by
         rw[mA.o,Vab,Qw];exact ah)
        have cS:=h_ aC;clear ag ah aC aa gS fD
        go_wp2_with (
         at_builtin;refine Z4 (by with_reducible rfl) rfl _ _ _ rfl _ _ (by rfl) (by rfl) ar.o ?_)
        refine⟨⟨k+1,ab,by go_num,aJ,cS⟩,?_⟩;simp[intOf]<;>omega
      ·have dY:k=n:=(by omega);subst dY;have fG:=h_ (ZfL aa.o rfl);have rk:Hid (IRes wr (.slice A9 (mp i).length iF) (mp i)):=h_ ⟨A9,iF,rfl,lr.o.below gS.o⟩;have SZ:=h_ (jX.o.trans (gS.o.mono jX.o.size));clear cD sF aa gS;go_wp2;go_ret3;exact⟨_,_,rfl,rk.o,by rw[SY.o];exact fG.o,SZ.o⟩
def cvs (c:Clk):Array Value:= #[.int .i64 c.st,.int .i64 c.f,.int .i64 c.s,.int .i64 c.n]
structure DtSt (w wx:World) (c:Clk):Prop where
 kc:Bk wx (w.heap.size+1) 96 (cvs c)
 kr:Bk wx w.heap.size 96 (cvs Z61)
 bel:Below w.heap.size w wx
theorem DtSt.below {w W W':World} {c:Clk} (h:DtSt w W c) (hb:Below W.heap.size W W'):DtSt w W' c:=⟨h.kc.below hb h.kc.lt,h.kr.below hb h.kr.lt,h.bel.trans (hb.mono h.bel.size)⟩
theorem DtSt.put {w W:World} {c:Clk} (h:DtSt w W c) (i:Nat) (x:Int) (c':Clk) (hc:cvs c'=(cvs c).setIfInBounds i (.int .i64 x)):DtSt w (W.setCell ⟨w.heap.size+1,i,none⟩ (.int .i64 x)) c':=
 ⟨by rw[hc];exact h.kc.put i _,h.kr.off (p:=⟨w.heap.size+1,i,none⟩) (by show w.heap.size≠w.heap.size+1;omega) _,h.bel.setCell (p:=⟨w.heap.size+1,i,none⟩) (by show w.heap.size<=w.heap.size+1;omega) _⟩
theorem DtSt.start (w:World) (c:Clk):DtSt w ((w.alloc (.cells (cvs Z61) 96)).alloc (.cells (cvs c) 96)) c where
 kc:=by
  have:=Bk.new (w.alloc (.cells (cvs Z61) 96)) 96 (cvs c);rw[World.size_alloc] at this;exact this
 kr:=(Bk.new w _ _).alloc _
 bel:=((Vae w.heap.size w).alloc UZz _).alloc (by simp) _
def DtS (w:World) (st f s n:Int) (p:Addr) (m:Int) (W:World):Prop:=
 W.cell? ⟨w.heap.size+1,0,none⟩=some (.int .i64 st)/\W.cell? ⟨w.heap.size+1,1,none⟩=some (.int .i64 f)/\W.cell? ⟨w.heap.size+1,2,none⟩=some (.int .i64 s)/\W.cell? ⟨w.heap.size+1,3,none⟩=some (.int .i64 n)/\W.cell? p=some (.int .i64 m)/\DtSt w W ⟨st,f,s,n⟩
theorem DtS.of {w W:World} {st f s n:Int} {p:Addr} {m:Int} (h:DtSt w W ⟨st,f,s,n⟩) (hp:W.cell? p=some (.int .i64 m)):DtS w st f s n p m W:=⟨h.kc.cell 0,h.kc.cell 1,h.kc.cell 2,h.kc.cell 3,hp,h⟩
theorem DtS.st {w W:World} {st f s n:Int} {p:Addr} {m:Int} (h:DtS w st f s n p m W):DtSt w W ⟨st,f,s,n⟩:=h.2.2.2.2.2
theorem DtS.below {w W W':World} {st f s n:Int} {p:Addr} {m:Int} (h:DtS w st f s n p m W) (hb:Below W.heap.size W W'):DtS w st f s n p m W':=DtS.of (h.st.below hb) ((hb.cell (World.block_lt_of_cell? W p h.2.2.2.2.1)).trans h.2.2.2.2.1)
def dmu (r:Nat) (w:World):Nat:=match w.cell? ⟨r,3,none⟩ with
 |some (.int _ n)=>(4096-n).toNat
 |_=>0
theorem Zh7 {w W:World} {c:Clk} (h:DtSt w W c):dmu (w.heap.size+1) W=(4096-c.n).toNat:=by
 have:=h.kc.cell 3;simp[cvs] at this;unfold dmu;rw[this]
theorem Zks {w W:World} {c:Clk} (h:DtSt w W c):
  ∃WF,((((W.setCell ⟨w.heap.size,0,none⟩ (.int .i64 c.st)).setCell ⟨w.heap.size,1,none⟩ (.int .i64 c.f)).setCell ⟨w.heap.size,2,none⟩ (.int .i64 c.s)).setCell ⟨w.heap.size,3,none⟩ (.int .i64 c.n))=WF/\WF.cell? ⟨w.heap.size,0,none⟩=some (.int .i64 c.st)/\WF.cell? ⟨w.heap.size,1,none⟩=some (.int .i64 c.f)/\WF.cell? ⟨w.heap.size,2,none⟩=some (.int .i64 c.s)/\WF.cell? ⟨w.heap.size,3,none⟩=some (.int .i64 c.n)/\Below w.heap.size w WF:=by
 have hk:=(((h.kr.put 0 (.int .i64 c.st)).put 1 (.int .i64 c.f)).put 2 (.int .i64 c.s)).put 3 (.int .i64 c.n);refine⟨_,rfl,hk.cell 0,hk.cell 1,hk.cell 2,hk.cell 3,?_⟩;exact(((h.bel.setCell (p:=⟨w.heap.size,0,none⟩) UZz _).setCell (p:=⟨w.heap.size,1,none⟩) UZz _).setCell (p:=⟨w.heap.size,2,none⟩) UZz _).setCell (p:=⟨w.heap.size,3,none⟩) UZz _
theorem Zco {a b:Int} {r:List Int} (h:Ze (a::b::r)=true):Zn (a::b::r)= { detF a b r with n:=(cntC (detF a b r) ((a::b::r).getLast (by simp)) 4096 1:Nat) } :=by
 show(if _ then _ else _)=_;rw[Vaf h]
theorem Z33 {l:List Int} (h:l.length<2\/Ze l=false):Zn l=Z61:=by
 match l,h with
 |[],_=>rfl
 |[_],_=>rfl
 |a::b::r,h=>
  show(if _ then _ else _)=_;rw[Vad];rcases h with h|h
  ·simp at h;omega
  ·rw[h];simp
theorem Z6y {w:World} {A:Option Addr} {l:List Int} (ha:At w A (ivs l)) (n cap:Nat) (hn:n=l.length) (bf:n<=9223372036854775807):
  Calls Tryz.prog 52 #[.slice A n cap] w λx w'=>x=.returned (CV (Zn l))/\Below w.heap.size w w':=by
 have e9:=h_ (λW (h:Below w.heap.size w W)=>Z0M (ha.below h) n cap hn bf);have aP:=h_ ((Vae w.heap.size w).alloc UZz (.cells #[.int .i64 0,.int .i64 0,.int .i64 0,.int .i64 0] 96));by_cases h2:n<2
 ·rw[Z33 (.inl (by omega))];have tW:(n:Int)<2:=(by omega);clear ha hn e9;go_enter Tryz.func52,Tryz.ntmps52;go_wp2;refine bodyPost_ret (by simp[results,Tryz.results52,go_sem];try rfl) rfl ?_;exact⟨rfl,aP.o⟩
 ·have tW:¬(n:Int)<2:=(by omega);cases hv:Ze l with
  |false=>
   rw[Z33 (.inr hv)];rw[hv] at e9;clear ha hn hv;go_enter Tryz.func52,Tryz.ntmps52;go_wp2_with fail;refine(e9.o _ aP.o).mono ?_;rintro x w1 ⟨rfl,rfl⟩;go_wp2;refine bodyPost_ret (by simp[results,Tryz.results52,go_sem];try rfl) rfl ?_;exact⟨rfl,aP.o⟩
  |true=>
   rw[hv] at e9
   obtain⟨a,b,r,rfl⟩:∃a b r,l=a::b::r:=by
    match l,hn with
    |[],hn=>simp at hn;omega
    |[_],hn=>simp at hn;omega
    |a::b::r,_=>exact⟨a,b,r,rfl⟩
   have hd:=Zco hv;have me:=(Yw.1 (XJ hv (by simp))).1;obtain⟨v1,v2,v3⟩:=Z9.1 hv;have fK:r.length=n-2:=(by rw[hn];simp);obtain⟨m,hm⟩:∃m,(a::b::r).getLast (by simp)=m:=⟨_,rfl⟩
   have ML:(ivs (a::b::r))[n-1]? =some (.int .i64 m):=by
    have h1:n-1<(a::b::r).length:=(by rw[<-hn];omega);rw[Z5j _ _ h1,<-hm,List.getLast_eq_getElem];congr 3;rw[hn]
   rw[hm] at hd;have eO:=v2 a Vap;have VP:=v2 b (Vat _ Vap);have kS:=v2 m (by rw[<-hm];exact List.getLast_mem _);obtain⟨F,hF⟩:∃F,detF a b r=F:=⟨_,rfl⟩;have qh:F=⟨a,b-a,match r with|[]=>b-a|t::_=>t-b,1⟩:=hF.symm;rw[hF] at hd
   have MM:inD F:=by
    rw[hd] at me;exact ZiA (c:= { F with n:=(cntC F m 4096 1:Nat) }) me
   obtain⟨K,hK⟩:∃K,cntC F m 4096 1=K:=⟨_,rfl⟩;rw[hK] at hd;rw[hd];obtain⟨bA,oA,rfl,eD,bP⟩:=ha 0 (by simp[ivs]);simp[ivs,iv] at bP;obtain⟨b1,o1,ll,a7,cq⟩:=ha 1 (by simp[ivs]);injection ll with ll;injection ll with ll dR;subst ll;subst dR;simp[ivs,iv] at cq;obtain⟨b2,o2,dR,a8,lX⟩:=ha.get (n-1) _ ML;injection dR with dR;injection dR with dR vp;subst dR;subst vp;obtain⟨m1,dH⟩:∃k,n-1=k:=⟨_,rfl⟩;rw[dH] at lX;have qi:(n:Int)-1=(m1:Int):=(by omega);have T7:(m1:Int)<(n:Int):=(by omega);have Dy:n<=4096:=(by omega)
   have Hr:=h_ (show(r=[]/\n=2)\/(∃t q,r=t::q/\2<n/\w.cell? ⟨bA,oA+2,none⟩=some (.int .i64 t)/\0<=t/\t<=1099511627776) by
    match r,fK with
    |[],fK=>exact .inl ⟨rfl,by simp at fK;omega⟩
    |t::q,fK=>
     obtain⟨b3,o3,hA,_,hc⟩:=ha 2 (by simp[ivs]);injection hA with hA;injection hA with ll dR;subst ll;subst dR;simp[ivs,iv] at hc;have:=v2 t (Vat _ (Vat _ Vap));exact .inr ⟨t,q,rfl,by simp at fK;omega,hc,this.1,this.2⟩)
   have vS:=h_ qh;have tZ:=h_ MM;have HK:=h_ hK;have MN:=h_ (show(w.alloc (.cells #[.int .i64 0,.int .i64 0,.int .i64 0,.int .i64 0] 96)).cell? ⟨bA,oA,none⟩=some (.int .i64 a) from(aP.o.cell (p:=⟨bA,oA,none⟩) eD).trans bP);have MO:=h_ (show(w.alloc (.cells #[.int .i64 0,.int .i64 0,.int .i64 0,.int .i64 0] 96)).cell? ⟨bA,oA+1,none⟩=some (.int .i64 b) from(aP.o.cell (p:=⟨bA,oA+1,none⟩) eD).trans cq);have gU:=h_ (λc=>DtSt.start w c);have ym:=h_ lX;have fL:=h_ cq;have sG:(2:Int)<=(n:Int):=(by omega);clear ha hn hv hd me v1 v2 v3 fK hm ML hF qh MM hK bP cq lX a7 a8 h2 dH;go_enter Tryz.func52,Tryz.ntmps52;go_wp2_with fail;refine(e9.o _ aP.o).mono ?_;rintro x w1 ⟨rfl,rfl⟩;have w0:=MN.o;have T8:=MO.o;have Ie:bA<(w.alloc (.cells #[.int .i64 0,.int .i64 0,.int .i64 0,.int .i64 0] 96)).heap.size:=(by simp;omega);go_upto_region 3 with fail;go_cut [3] (λs3 wx=>s3=.pointer (some ⟨w.heap.size+1,0,none⟩)/\DtSt w wx ⟨a,b-a,0,1⟩)
   case first=>
    clear Hr vS tZ HK ym e9;go_region
    all_goals
     go_wp2;go_meet;case rel=>exact⟨rfl,(gU.o ⟨a,b-a,0,1⟩).below ((Vae _ _).drew)⟩
   case rest=>
    obtain⟨rfl,aT⟩:=hcut;have aS:=h_ aT;clear aT w0 T8 Ie e9 MN MO gU aP;obtain⟨c0,c1,c2,c3,_⟩:=DtS.of (p:=⟨bA,oA+m1,none⟩) (m:=m) aS.o ((aS.o.bel.cell (p:=⟨bA,oA+m1,none⟩) (by first|exact eD|(have:=aS.o.bel.size;omega))).trans ym.o);have f2:=aS.o.kc.frozen 2;have gl:=h_ (aS.o.put 2 (b-a) ⟨a,b-a,b-a,1⟩ rfl);go_upto_region 5 with fail;clear c0 c1 c2 c3 f2 aS;obtain⟨W1,MP⟩:∃W,wc.setCell ⟨w.heap.size+1,2,none⟩ (.int .i64 (b-a))=W:=⟨_,rfl⟩;rw[MP] at gl⊢;clear MP;go_upto_if 29 with fail;go_cut [] (λwx=>DtSt w wx F)
    case first=>
     rcases Hr.o with ⟨fP,jt⟩|⟨t,q,fP,jt,jw,n6,ru⟩
     ·have B5:F=⟨a,b-a,b-a,1⟩:=(by rw[vS.o,fP]);have sG:¬(2:Int)<(n:Int):=(by omega);have Hf:=h_ (show DtSt w W1 F by rw[B5];exact gl.o);clear Hr fP jt B5 vS tZ HK gl;go_wp2;go_meet;case rel=>exact Hf.o
     ·have B5:F=⟨a,b-a,t-b,1⟩:=(by rw[vS.o,fP]);have sG:(2:Int)<(n:Int):=(by omega);have If:bA<W1.heap.size:=(by have:=gl.o.bel.size;omega);have ct:=(gl.o.bel.cell (p:=⟨bA,oA+2,none⟩) eD).trans jw;have cb:=(gl.o.bel.cell (p:=⟨bA,oA+1,none⟩) eD).trans fL.o;have f2:=gl.o.kc.frozen 2;have c2:=gl.o.kc.cell 2;simp[cvs] at c2
      have Hf:=h_ (λ(q:Nat)=>(show DtSt w ((W1.drewN q).setCell ⟨w.heap.size+1,2,none⟩ (.int .i64 (t-b))) F by
       rw[B5];exact DtSt.put (W:=W1.drewN q) ⟨gl.o.kc,gl.o.kr,bdN gl.o.bel q⟩ 2 (t-b) ⟨a,b-a,t-b,1⟩ rfl))
      have ay:w.heap.size+1≠bA:=(by omega);clear Hr fP jt B5 vS tZ HK gl jw;go_wp2;go_region
      all_goals
       go_wp2;go_meet;case rel=>exact Hf.o 1
    case rest=>
     have cE:=h_ hcut;clear hcut gl Hr;have MQ:F.n=1:=(by rw[vS.o]);have B6:=h_ MQ;clear MQ vS;obtain⟨Fs,Ff,F2,F4⟩:=F;simp only at*;go_wp2;go_loopw [] (λwr=>∃k:Nat,1<=k/\k<=4096/\Hid (cntC ⟨Fs,Ff,F2,F4⟩ m (4097-k) k=K)/\Hid (DtSt w wr ⟨Fs,Ff,F2,(k:Int)⟩)) (λwr=>dmu (w.heap.size+1) wr)
     case atStart=>
      refine⟨1,UZz,by omega,HK,h_ ?_⟩;have:=cE.o;rw[B6.o] at this;exact this
     case round=>
      obtain⟨k,bk,cK,hK,aT⟩:=hrel;have ye:=h_ (Zh7 aT.o);have B7:wr.cell? ⟨bA,oA+m1,none⟩=some (.int .i64 m):=(aT.o.bel.cell (p:=⟨bA,oA+m1,none⟩) eD).trans ym.o;have Ba:inD ⟨Fs,Ff,F2,(k:Int)⟩:=tZ.o;obtain⟨T,hT⟩:∃T,atC ⟨Fs,Ff,F2,F4⟩ k=T:=⟨_,rfl⟩;have bJ:=h_ (λW=>Z6x Ba k (by omega) W);have Bb:atC ⟨Fs,Ff,F2,(k:Int)⟩ k=T:=hT;rw[Bb] at bJ;obtain⟨B,hB⟩:∃B,decide (k<4096/\T<=m)=B:=⟨_,rfl⟩;have HB:=h_ hB;have HT:=h_ hT;have aS:=aT;have Bd:=h_ B7;clear aT B7 Ba hT Bb hB;unfold CV at bJ;simp only at bJ;go_upto_region 7 with fail;go_cut [53] (λB4 wx=>B4=.bool B/\DtSt w wx ⟨Fs,Ff,F2,(k:Int)⟩)
      case first=>
       clear cE ym fL hK;by_cases hk:k<4096
       ·have Be:(k:Int)<4096:=(by omega);have VQ:decide ((k:Int)<4096)=true:=(by simpa using Be);have eU:IntKind.i64.wrap ((n:Int)-1)=(m1:Int):=(by rw[IntWalk.i64_in _ (by omega),qi]);have gH:(0:Int)<=(m1:Int):=(by omega);have DF:IntKind.i64.wrap (m1:Int)=(m1:Int):=(by rw[IntWalk.i64_in _ (by omega)]);have H1:DtS w Fs Ff F2 (k:Int) ⟨bA,oA+m1,none⟩ m wr.drew:=DtS.of (aS.o.below ((Vae _ _).drew)) Bd.o;unfold DtS at H1;have u7:Hid (decide (T<=m)=B):=h_ (by rw[<-HB.o];simp[hk]);clear HB ye HT tZ B6 Bd aS hk
        go_region_held3 (λW=>W.cell? ⟨w.heap.size+1,0,none⟩=some (.int .i64 Fs)/\W.cell? ⟨w.heap.size+1,1,none⟩=some (.int .i64 Ff)/\W.cell? ⟨w.heap.size+1,2,none⟩=some (.int .i64 F2)/\W.cell? ⟨w.heap.size+1,3,none⟩=some (.int .i64 (k:Int))/\W.cell? ⟨bA,oA+m1,none⟩=some (.int .i64 m)/\DtSt w W ⟨Fs,Ff,F2,(k:Int)⟩) (first|exact H1|assumption|exact DtS.below (by assumption) (by assumption))
         (first|(go_at_call 72;with_reducible refine(bJ.o _).mono ?_;rintro r w' ⟨rfl,a8⟩))
        all_goals
         go_wp2;go_meet;case rel=>exact⟨by rw[u7.o],DtS.st (by assumption)⟩
       ·have Be:¬(k:Int)<4096:=(by omega);obtain⟨c0,c1,c2,c3,cm,_⟩:=DtS.of aS.o Bd.o;have u7:Hid (B=false):=h_ (by rw[<-HB.o];simp[hk]);clear HB ye HT tZ B6 Bd hk;go_quiet (fail);go_wp2;go_meet;case rel=>exact⟨by rw[u7.o],aS.o.below (by first|exact Vae _ _|exact bdN (Vae _ _) _)⟩
      case rest=>
       obtain⟨rfl,aT⟩:=hcut;have eB:=h_ aT;clear aT aS Bd;cases B with
       |true=>
        have a8:=HB.o;simp at a8;obtain⟨rW,MR⟩:=a8;have E9:=hK.o;rw[show 4097-k=(4096-k)+1 by omega,ZaG _ _ _ _ ⟨rW,by rw[HT.o];exact MR⟩,show 4096-k=4097-(k+1) by omega] at E9;have MS:=h_ E9;have c3:=eB.o.kc.cell 3;have f3:=eB.o.kc.frozen 3;simp[cvs] at c3;obtain⟨k',u9⟩:∃k',k+1=k':=⟨_,rfl⟩;rw[u9] at MS;have Be:(k:Int)+1=(k':Int):=(by omega);have rQ:1<=k':=(by omega);have Ig:k'<=4096:=(by omega);have Bf:=h_ (eB.o.put 3 (k':Int) ⟨Fs,Ff,F2,(k':Int)⟩ rfl);have Ih:=h_ (Zh7 Bf.o);have sq:=h_ (And.intro rW u9);clear hK E9 HB MR u9 eB HK ym fL cE HT tZ B6 bJ rW;go_wp2;refine⟨⟨k',rQ,Ig,MS,Bf⟩,?_⟩;rw[Ih.o,ye.o];obtain⟨x1,x2⟩:=sq.o;simp only;omega
       |false=>
        have a8:=HB.o
        have Ta:K=k:=by
         have:=hK.o;rw[ZaF _ _ _ _ (by rw[HT.o];simpa using a8)] at this;exact this.symm
        subst Ta;obtain⟨WF,gB,u0,u1,u2,u3,dD⟩:=Zks eB.o;have jR:=h_ gB;have fS:=h_ dD;have r0:=eB.o.kr.cell 0;have r1:=eB.o.kr.cell 1;have r2:=eB.o.kr.cell 2;have r3:=eB.o.kr.cell 3;have g0:=eB.o.kr.frozen 0;have g1:=eB.o.kr.frozen 1;have g2:=eB.o.kr.frozen 2;have g3:=eB.o.kr.frozen 3;have c0:=eB.o.kc.cell 0;have c1:=eB.o.kc.cell 1;have c2:=eB.o.kc.cell 2;have c3:=eB.o.kc.cell 3;simp[cvs,Z61] at r0 r1 r2 r3 c0 c1 c2 c3;simp only at jR u0 u1 u2 u3;clear gB dD a8 hK HB eB HK ym fL cE HT tZ B6 bJ ye;go_wp2_with ((with_reducible show bodyPost _ _ _ _ _ _);rw[jR.o];refine bodyPost_ret (v:=.agg #[.int .i64 Fs,.int .i64 Ff,.int .i64 F2,.int .i64 (K:Int)]) (by simp[results,Tryz.results52,go_sem,u0,u1,u2,u3];try rfl) rfl ?_;exact⟨rfl,fS.o⟩)
end Go.Proofs.YtchokmkfobandaaGreatDoor
