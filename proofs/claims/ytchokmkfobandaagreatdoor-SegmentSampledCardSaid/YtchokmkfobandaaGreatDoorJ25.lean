import Derived.Test.YtchokmkfobandaaGreatDoorJ21
set_option linter.unusedVariables false
set_option linter.unusedSimpArgs false
set_option maxRecDepth 100000
set_option maxHeartbeats 8000000
namespace Go.Proofs.YtchokmkfobandaaGreatDoor
open Go.RowKit Go.Proofs Wv Wv.Vi Wv.Rc Wv.Mo Wv.Ru Wv.Tm
def ica (l:List Int):Array Value:=(ivs l).toArray
theorem Z6s (l:List Int) (i:Nat) (h:i<l.length):(ica l)[i]? =some (.int .i64 l[i]):=by simp[ica,ivs,iv,h]
theorem Z6t (l:List Int) (i:Nat) (x:Int):(ica l).setIfInBounds i (.int .i64 x)=ica (l.set i x):=by
 apply Vbj.1;simp[ica,ivs,iv,List.map_set]
theorem XQ (n:Nat):Array.replicate n (.int .i64 0:Value)=ica (List.replicate n 0):=by
 apply Vbj.1;simp[ica,ivs,iv]
theorem Z7W {w:World} {g:Nat} {l:List Int} (h:Bk w g 3 (ica l)):At w (some ⟨g,0,none⟩) (ivs l):=by
 have:=h.at_;simpa [ica] using this
theorem Z5d (l:List Int) (i:Nat) (h:i<l.length):(ivs l)[i]? =some (.int .i64 l[i]):=by simp[ivs,iv,h]
theorem Z0K {w:World} {A:Option Addr} {l:List Int} (ha:At w A (ivs l)) (n cap:Nat) (hn:n=l.length) (bo:n<=9223372036854775807):
  Calls Tryz.prog 31 #[.slice A n cap] w λx w'=>x=.returned (.bool (Zf l))/\w=w':=by
 have Ha:=h_ ha;have Hn:=h_ hn;obtain⟨V,hV⟩:∃V,Zf l=V:=⟨_,rfl⟩;have HV:Hid (V=(tv (-1) l&&decide (l.length<=4096))):=h_ hV.symm;rw[hV];clear ha hn hV;go_enter Tryz.func31,Tryz.ntmps31;go_wp2;go_loopw [3,8] (λs3 s8 wr=>∃(i:Nat) (last:Int),i<=n/\s3=.int .i64 last/\s8=.int .i64 (i:Int)/\Hid (tv (-1) l=tv last (l.drop i))/\wr=w) (λ_ s8 _=>(n-intOf s8).toNat);case atStart=>exact⟨0,-1,Vat _,rfl,rfl,h_ rfl,rfl⟩
 case round=>
  obtain⟨i,last,hi,rfl,rfl,yg,rfl⟩:=hrel;by_cases ab:i<n
  ·have bu:i<l.length:=(by rw[<-Hn.o];exact ab);have hd:l.drop i=l[i]::l.drop (i+1):=Va4 bu;have bm:=Z5d l i bu;obtain⟨x,hx⟩:∃x,l[i]=x:=⟨_,rfl⟩;rw[hx] at hd bm;obtain⟨b,o,hA,hb,hc⟩:=Ha.o.get i _ bm;subst hA;have rq:=yg.o;rw[hd] at rq;have rr:tv (-1) l=(decide (last<x)&&decide (x<=1099511627776)&&tv x (l.drop (i+1))):=rq;have dp:(i:Int)<(n:Int):=(by omega);by_cases h1:x<=last
   ·have Hv:Hid (V=false):=h_ (by rw[HV.o,rr,Vai (show ¬last<x by omega)];rfl);clear bu hd bm hx rq rr yg;go_wp2;go_ret;exact⟨Z4 Hv.o.symm,rfl⟩
   ·by_cases h2:1099511627776<x
    ·have Hv:Hid (V=false):=h_ (by rw[HV.o,rr,Vai (show ¬x<=1099511627776 by omega),Bool.and_false];rfl);clear bu hd bm hx rq rr yg;go_wp2;go_ret;exact⟨Z4 Hv.o.symm,rfl⟩
    ·have Hv:Hid (tv (-1) l=tv x (l.drop (i+1))):=h_ (by rw[rr,Vao (show last<x by omega),Vao (show x<=1099511627776 by omega)];rfl);clear bu hd bm hx rq rr yg;go_wp2;refine⟨⟨i+1,x,ab,rfl,by go_num,Hv,by first|trivial|rfl⟩,?_⟩;simp[intOf]<;>omega
  ·have lp:i=n:=(by omega);have rq:=yg.o;rw[Vbf (by rw[<-Hn.o];omega)] at rq;have Hv:Hid (V=decide (n<=4096)):=h_ (by rw[HV.o,rq,Hn.o];rfl);subst lp;clear rq yg;go_wp2;go_ret;exact⟨Z4 (by rw[Hv.o];simp;omega),rfl⟩
theorem Z0k {w:World} {A:Option Addr} {l:List Int} (ha:At w A (ivs l)) (n cap:Nat) (hn:n=l.length) (hv:Zf l=true):
  Calls Tryz.prog 50 #[.slice A n cap] w λx w'=>∃v,x=.returned v/\IRes w' v (Z6 l)/\Below w.heap.size w w':=by
 obtain⟨v1,v2,v3⟩:=Z8.1 hv;have bo:n<=4096:=(by omega);have bG:=Yg (P:=Tryz.prog) 31 3 _ _ Tryz.underlying31 ZQ rfl (n:Int) n rfl (by omega) (by omega) w;rw[XQ] at bG;have dy:=h_ (Bk.new w 3 (ica (List.replicate n 0)));have aL:=h_ ((Vae w.heap.size w).alloc UZz (.cells (ica (List.replicate n 0)) 3));have Ha:=h_ ha;have Hn:=h_ hn;have eW:=h_ v2;have av:Hid ((Z6 l).length=n):=h_ (by unfold Z6;rw[ZV,hn]);clear ha hn hv v1 v2 v3;go_enter Tryz.func50,Tryz.ntmps50;go_wp2;go_loopw [3,12] (λs3 jR wr=>∃(i:Nat) (last:Int) (G:List Int),i<=n/\-1<=last/\last<=1099511627776/\s3=.int .i64 last/\jR=.int .i64 (i:Int)/\Hid (Z6 l=G++gp last (l.drop i))/\Hid (G.length=i)/\Hid (Bk wr w.heap.size 3 (ica (G++List.replicate (n-i) 0)))/\Hid (Below w.heap.size w wr)) (λ_ jR _=>(n-intOf jR).toNat);case atStart=>exact⟨0,-1,[],Vat _,by omega,by omega,rfl,rfl,h_ rfl,h_ rfl,h_ (by simpa using dy.o),aL⟩
 case round=>
  obtain⟨i,last,G,hi,cC,dt,rfl,rfl,hG,gl,aD,hb⟩:=hrel;by_cases ab:i<n
  ·have bu:i<l.length:=(by rw[<-Hn.o];exact ab);have hd:l.drop i=l[i]::l.drop (i+1):=Va4 bu;have bm:=Z5d l i bu;have cU:=eW.o l[i] (Vak _);obtain⟨x,hx⟩:∃x,l[i]=x:=⟨_,rfl⟩;rw[hx] at hd bm cU;obtain⟨b,o,hA,ez,bO⟩:=Ha.o.get i _ bm;subst hA;have hc:=(hb.o.cell (p:=⟨b,o+i,none⟩) ez).trans bO;obtain⟨oh,DJ⟩:=cU;have aj:=aD.o.put i (.int .i64 (x-last-1));rw[Z6t,show n-i=(n-(i+1))+1 by omega,Vbg,Va8 _ _ (by rw[gl.o];exact UZz),gl.o,Va7,List.set_cons_zero] at aj;have aA:Hid (Bk (wr.setCell ⟨w.heap.size,i,none⟩ (.int .i64 (x-last-1))) w.heap.size 3 (ica ((G++[x-last-1])++List.replicate (n-(i+1)) 0))):=h_ (by rw[Vay];exact aj);have sy:=h_ (hb.o.setCell (p:=⟨w.heap.size,i,none⟩) UZz (.int .i64 (x-last-1)));have HG:Hid (Z6 l=(G++[x-last-1])++gp x (l.drop (i+1))):=h_ (by rw[hG.o,hd,Vay];rfl);have E8:Hid ((G++[x-last-1]).length=i+1):=h_ (by rw[Vab,gl.o];rfl);obtain⟨y0,tw⟩:∃y:Int,wr.cell? ⟨w.heap.size,i,none⟩=some (.int .i64 y):=⟨_,by rw[aD.o.cell,Z6s _ _ (by rw[Vab,gl.o,Vaw];omega)]⟩;have mL:=aD.o.frozen i;have dp:(i:Int)<(n:Int):=(by omega);clear bu hd bm hx aj hG gl aD hb bG dy aL bO;go_wp2;refine⟨⟨i+1,x,_,ab,by omega,DJ,rfl,by go_num,HG,E8,aA,sy⟩,?_⟩;simp[intOf]<;>omega
  ·have lp:i=n:=(by omega);subst lp;have ja:=hG.o;rw[Vbf (by rw[<-Hn.o];exact UZz)] at ja;have AH:Z6 l=G:=(by rw[ja];exact Va3 _)
   have aG:Hid (IRes wr (.slice (some ⟨w.heap.size,0,none⟩) i i) (Z6 l)):=h_ ⟨_,i,by rw[av.o],by
    have:=Z7W aD.o;rw[Va7,List.replicate_zero,Va3] at this;rw[AH];exact this⟩
   clear ja AH hG gl aD bG dy aL;go_wp2;go_ret;exact⟨_,rfl,aG.o,hb.o⟩
def JRes (w:World) (r:Option (List Int)) (x:Ending) (w':World):Prop:=∃v ok,x=.returned (.tuple #[v,.bool ok])/\ok=r.isSome/\(∀l,r=some l->IRes w' v l)/\Below w.heap.size w w'
theorem X6 {w w':World} {r:Option (List Int)} {v:Value} (h:r=none) (hb:Below w.heap.size w w'):JRes w r (.returned (.tuple #[v,.bool false])) w':=⟨_,_,rfl,by rw[h];rfl,(λl h2=>by rw[h] at h2;cases h2),hb⟩
theorem Z0l {w:World} {A:Option Addr} {l:List Int} (ha:At w A (ivs l)) (n cap:Nat) (hn:n=l.length) (bo:n<=1000000):
  Calls Tryz.prog 93 #[.slice A n cap] w λx w'=>JRes w (jnL l) x w':=by
 have bG:=Yg (P:=Tryz.prog) 31 3 _ _ Tryz.underlying31 ZQ rfl (n:Int) n rfl (by omega) (by omega) w;rw[XQ] at bG;have dy:=h_ (Bk.new w 3 (ica (List.replicate n 0)));have aL:=h_ ((Vae w.heap.size w).alloc UZz (.cells (ica (List.replicate n 0)) 3));have Ha:=h_ ha;have Hn:=h_ hn;obtain⟨R,hR⟩:∃R,jnL l=R:=⟨_,rfl⟩;have HR:Hid (R=match jn (-1) l with|some r=>if r.length<=4096 then some r else none|none=>none):=h_ hR.symm;rw[hR];clear ha hn hR;go_enter Tryz.func93,Tryz.ntmps93;go_wp2;go_loopw [4,13] (λs4 nF wr=>∃(i:Nat) (last:Int) (G:List Int),i<=n/\-1<=last/\last<=1099511627776/\s4=.int .i64 last/\nF=.int .i64 (i:Int)/\Hid (jn (-1) l=(jn last (l.drop i)).map (G++·))/\Hid (G.length=i)/\Hid (Bk wr w.heap.size 3 (ica (G++List.replicate (n-i) 0)))/\Hid (Below w.heap.size w wr)) (λ_ nF _=>(n-intOf nF).toNat);case atStart=>exact⟨0,-1,[],Vat _,by omega,by omega,rfl,rfl,h_ (by simp),h_ rfl,h_ (by simpa using dy.o),aL⟩
 case round=>
  obtain⟨i,last,G,hi,cC,dt,rfl,rfl,hG,gl,aD,hb⟩:=hrel;by_cases ab:i<n
  ·have bu:i<l.length:=(by rw[<-Hn.o];exact ab);have hd:l.drop i=l[i]::l.drop (i+1):=Va4 bu;have bm:=Z5d l i bu;obtain⟨x,hx⟩:∃x,l[i]=x:=⟨_,rfl⟩;rw[hx] at hd bm;obtain⟨b,o,hA,ez,bO⟩:=Ha.o.get i _ bm;subst hA;have hc:=(hb.o.cell (p:=⟨b,o+i,none⟩) ez).trans bO;have hj:jn last (x::l.drop (i+1))=if x<0\/1099511627776<x\/1099511627776<last+x+1 then none else(jn (last+x+1) (l.drop (i+1))).map ((last+x+1)::·):=rfl
   have ja:=hG.o;rw[hd,hj] at ja;have dp:(i:Int)<(n:Int):=(by omega);by_cases h1:x<0
   ·have Hv:Hid (R=none):=h_ (by rw[HR.o,ja,Vaf (.inl h1)];rfl);clear bu hd bm hx hj ja hG gl aD bG dy aL bO;go_wp2;go_ret2;exact X6 Hv.o hb.o
   ·by_cases h2:1099511627776<x
    ·have Hv:Hid (R=none):=h_ (by rw[HR.o,ja,Vaf (.inr (.inl h2))];rfl);clear bu hd bm hx hj ja hG gl aD bG dy aL bO;go_wp2;go_ret2;exact X6 Hv.o hb.o
    ·have e1:last+(x+1)=last+x+1:=(by omega);obtain⟨y,hy⟩:∃y,last+x+1=y:=⟨_,rfl⟩;have aj:=aD.o.put i (.int .i64 y);rw[Z6t,show n-i=(n-(i+1))+1 by omega,Vbg,Va8 _ _ (by rw[gl.o];exact UZz),gl.o,Va7,List.set_cons_zero] at aj;have aA:Hid (Bk (wr.setCell ⟨w.heap.size,i,none⟩ (.int .i64 y)) w.heap.size 3 (ica ((G++[y])++List.replicate (n-(i+1)) 0))):=h_ (by rw[Vay];exact aj);have sy:=h_ (hb.o.setCell (p:=⟨w.heap.size,i,none⟩) UZz (.int .i64 y));have E8:Hid ((G++[y]).length=i+1):=h_ (by rw[Vab,gl.o];rfl);obtain⟨y0,tw⟩:∃y:Int,wr.cell? ⟨w.heap.size,i,none⟩=some (.int .i64 y):=⟨_,by rw[aD.o.cell,Z6s _ _ (by rw[Vab,gl.o,Vaw];omega)]⟩;have mL:=aD.o.frozen i;rw[hy] at ja;by_cases h3:1099511627776<y
     ·have Hv:Hid (R=none):=h_ (by rw[HR.o,ja,Vaf (.inr (.inr h3))];rfl);have Dp:last+(x+1)=y:=(by omega);clear bu hd bm hx hj ja hG gl aD hb bG dy aL bO aj e1 hy;go_wp2;go_ret2;exact X6 Hv.o sy.o
     ·have HG:Hid (jn (-1) l=(jn y (l.drop (i+1))).map ((G++[y])++·)):=h_ (by
       rw[ja,Vad (by omega),Option.map_map];congr 1;funext r;simp)
      have Dp:last+(x+1)=y:=(by omega);clear bu hd bm hx hj ja hG gl aD hb bG dy aL bO aj e1 hy;go_wp2;refine⟨⟨i+1,y,_,ab,by omega,by omega,rfl,by go_num,HG,E8,aA,sy⟩,?_⟩;simp[intOf]<;>omega
  ·have lp:i=n:=(by omega);subst lp;have ja:=hG.o;rw[Vbf (by rw[<-Hn.o];exact UZz)] at ja;have AH:jn (-1) l=some G:=(by rw[ja];simp[jn])
   have aG:Hid (IRes wr (.slice (some ⟨w.heap.size,0,none⟩) i i) G):=h_ ⟨_,i,by rw[gl.o],by
    have:=Z7W aD.o;rw[Va7,List.replicate_zero,Va3] at this;exact this⟩
   have Hv:Hid (R=if i<=4096 then some G else none):=h_ (by rw[HR.o,AH];simp only;rw[gl.o]);clear ja AH hG gl aD bG dy aL;go_wp2;go_ret2;refine⟨_,_,rfl,?_,λl h=> ?_,hb.o⟩
   ·rw[Hv.o];by_cases h:i<=4096
    ·rw[Vaf h];simp;omega
    ·rw[Vad h];simp;omega
   ·rw[Hv.o] at h;split at h
    ·injection h with h;subst h;exact aG.o
    ·cases h
def CV (c:Clk):Value:=.agg #[.int .i64 c.st,.int .i64 c.f,.int .i64 c.s,.int .i64 c.n]
def inD (c:Clk):Prop:=0<=c.st/\c.st<=1099511627776/\1<=c.f/\c.f<=1099511627776/\1<=c.s/\c.s<=1099511627776
theorem Ziv {c:Clk} (h:inC c):inD c:=⟨h.2.2.1,h.2.2.2.1,h.2.2.2.2.1,h.2.2.2.2.2.1,h.2.2.2.2.2.2.1,h.2.2.2.2.2.2.2⟩
theorem Zh2 {k:Nat} {f:Int} (hk:k<=3000) (h1:1<=f) (h2:f<=1099511627776):0<=(k:Int)*f/\(k:Int)*f<=3298534883328000:=by
  constructor
  · exact Int.mul_nonneg (Int.natCast_nonneg k) (by omega)
  · calc (k : Int) * f <= 3000 * f := Int.mul_le_mul_of_nonneg_right (by omega) (by omega)
      _<=3298534883328000:=by omega
theorem Z6u {c:Clk} (hc:inD c) (i:Nat) (hi:i<=5000) (w:World):
  Calls Tryz.prog 72 #[CV c,.int .i64 (i:Int)] w λx w'=>x=.returned (.int .i64 (atC c i))/\Below w.heap.size w w':=by
 obtain⟨h1,h2,h3,h4,h5,h6⟩:=hc;obtain⟨st,f,s,n⟩:=c;simp only at*;have ak:atC ⟨st,f,s,n⟩ i=st+((i+1)/2:Nat)*f+(i/2:Nat)*s:=rfl;obtain⟨k1,aZ⟩:∃k,(i+1)/2=k:=⟨_,rfl⟩;obtain⟨k2,cL⟩:∃k,i/2=k:=⟨_,rfl⟩;rw[aZ,cL] at ak;obtain⟨m1,m2⟩:=Zh2 (k:=k1) (by omega) h3 h4;obtain⟨m3,m4⟩:=Zh2 (k:=k2) (by omega) h5 h6;have e1:((i:Int)+1)/2=(k1:Int):=(by omega);have e2:(i:Int)/2=(k2:Int):=(by omega);obtain⟨P1,Te⟩:∃P,(k1:Int)*f=P:=⟨_,rfl⟩;obtain⟨P2,Tf⟩:∃P,(k2:Int)*s=P:=⟨_,rfl⟩;rw[Te] at m1 m2 ak;rw[Tf] at m3 m4 ak;have bD:=h_ ak;clear aZ cL ak;unfold CV;simp only;go_enter Tryz.func72,Tryz.ntmps72;go_wp2;go_ret;exact⟨by rw[bD.o];rfl,(Vae w.heap.size w).alloc UZz _⟩
theorem Z3W (n a b:Int) (w:World):
  Calls Tryz.prog 160 #[.int .i64 n,.int .i64 a,.int .i64 b] w λx w'=>x=.returned (.bool (decide (a<=n)&&decide (n<=b)))/\w=w':=by
 by_cases h1:a<=n
 ·by_cases h2:n<=b
  ·go_enter Tryz.func160,Tryz.ntmps160;go_wp2;go_ret;exact⟨Z4 (by simp[h1,h2]),rfl⟩
  ·go_enter Tryz.func160,Tryz.ntmps160;go_wp2;go_ret;exact⟨Z4 (by rw[eq_comm,Vbp];omega),rfl⟩
 ·go_enter Tryz.func160,Tryz.ntmps160;go_wp2;go_ret;exact⟨Z4 (by rw[eq_comm,Vda,Vbp,Vbp];omega),rfl⟩
theorem Zcm (c:Clk) (w:World):
  Calls Tryz.prog 116 #[CV c] w λx w'=>x=.returned (.bool (vclk c))/\Below w.heap.size w w':=by
 obtain⟨b1,a7⟩:∃b,(decide (1<=c.n)&&decide (c.n<=4096))=b:=⟨_,rfl⟩;obtain⟨b2,a8⟩:∃b,(decide (0<=c.st)&&decide (c.st<=1099511627776))=b:=⟨_,rfl⟩;obtain⟨b3,af⟩:∃b,(decide (1<=c.f)&&decide (c.f<=1099511627776))=b:=⟨_,rfl⟩;obtain⟨b4,ax⟩:∃b,(decide (1<=c.s)&&decide (c.s<=1099511627776))=b:=⟨_,rfl⟩;have H1:=h_ (λW=>Z3W c.n 1 4096 W);have H2:=h_ (λW=>Z3W c.st 0 1099511627776 W);have H3:=h_ (λW=>Z3W c.f 1 1099511627776 W);have H4:=h_ (λW=>Z3W c.s 1 1099511627776 W);rw[a7] at H1;rw[a8] at H2;rw[af] at H3;rw[ax] at H4
 have hv:vclk c=(b1&&b2&&b3&&b4&&decide (atC c (c.n-1).toNat<=1099511627776)):=by
  unfold vclk;congr 1;rw[<-a7,<-a8,<-af,<-ax,Vbl,Vas];unfold inC;simp[and_assoc]
 have mU:=h_ ((Vae w.heap.size w).alloc UZz (.cells #[.int .i64 c.st,.int .i64 c.f,.int .i64 c.s,.int .i64 c.n] 96));by_cases ar:b1=true/\b2=true/\b3=true/\b4=true
 ·obtain⟨rfl,rfl,rfl,rfl⟩:=ar
  have aU:inC c:=by
   simp at a7 a8 af ax;exact⟨a7.1,a7.2,a8.1,a8.2,af.1,af.2,ax.1,ax.2⟩
  have n1:=aU.1;have n2:=aU.2.1;have bD:=h_ (λW=>Z6u (Ziv aU) (c.n-1).toNat (by omega) W);obtain⟨m,hm⟩:∃m,(c.n-1).toNat=m:=⟨_,rfl⟩;have Wh:c.n-1=(m:Int):=(by omega);rw[hm] at bD hv;obtain⟨T,hT⟩:∃T,atC c m=T:=⟨_,rfl⟩;rw[hT] at bD hv;have Hv:=h_ hv;clear a7 a8 af ax hv aU hm hT;obtain⟨st,f,s,n⟩:=c;simp only at*;unfold CV at bD⊢;simp only at bD⊢;go_enter Tryz.func116,Tryz.ntmps116;go_wp2_with fail;refine(H1.o _).mono ?_;rintro x w1 ⟨rfl,rfl⟩;go_wp2_with fail;refine(H2.o _).mono ?_;rintro x w1 ⟨rfl,rfl⟩;go_wp2_with fail;refine(H3.o _).mono ?_;rintro x w1 ⟨rfl,rfl⟩;go_wp2_with fail;refine(H4.o _).mono ?_;rintro x w1 ⟨rfl,rfl⟩;go_wp2_with fail;refine(bD.o _).mono ?_;rintro x w1 ⟨rfl,hb⟩;have an:=h_ (mU.o.trans (hb.mono mU.o.size));clear hb;go_wp2;go_ret;exact⟨Z4 (by rw[Hv.o];simp),an.o⟩
 ·have Hv:Hid (vclk c=false):=h_ (by
   rw[hv];cases b1<;>cases b2<;>cases b3<;>cases b4<;>simp at ar<;>rfl)
  clear a7 a8 af ax hv;obtain⟨st,f,s,n⟩:=c;simp only at*;unfold CV;simp only;cases b1 with
  |false=>
   clear ar;go_enter Tryz.func116,Tryz.ntmps116;go_wp2_with fail;refine(H1.o _).mono ?_;rintro x w1 ⟨rfl,rfl⟩;go_wp2;go_ret;exact⟨Z4 Hv.o.symm,mU.o⟩
  |true=>
   cases b2 with
   |false=>
    clear ar;go_enter Tryz.func116,Tryz.ntmps116;go_wp2_with fail;refine(H1.o _).mono ?_;rintro x w1 ⟨rfl,rfl⟩;go_wp2_with fail;refine(H2.o _).mono ?_;rintro x w1 ⟨rfl,rfl⟩;go_wp2;go_ret;exact⟨Z4 Hv.o.symm,mU.o⟩
   |true=>
    cases b3 with
    |false=>
     clear ar;go_enter Tryz.func116,Tryz.ntmps116;go_wp2_with fail;refine(H1.o _).mono ?_;rintro x w1 ⟨rfl,rfl⟩;go_wp2_with fail;refine(H2.o _).mono ?_;rintro x w1 ⟨rfl,rfl⟩;go_wp2_with fail;refine(H3.o _).mono ?_;rintro x w1 ⟨rfl,rfl⟩;go_wp2;go_ret;exact⟨Z4 Hv.o.symm,mU.o⟩
    |true=>
     obtain rfl:b4=false:=(by cases b4<;>simp at ar⊢);clear ar;go_enter Tryz.func116,Tryz.ntmps116;go_wp2_with fail;refine(H1.o _).mono ?_;rintro x w1 ⟨rfl,rfl⟩;go_wp2_with fail;refine(H2.o _).mono ?_;rintro x w1 ⟨rfl,rfl⟩;go_wp2_with fail;refine(H3.o _).mono ?_;rintro x w1 ⟨rfl,rfl⟩;go_wp2_with fail;refine(H4.o _).mono ?_;rintro x w1 ⟨rfl,rfl⟩;go_wp2;go_ret;exact⟨Z4 Hv.o.symm,mU.o⟩
def Z3X (w:World) (c:Clk) (x:Ending) (w':World):Prop:=if vclk c=true then(∃g,x=.returned (.tuple #[.slice (some ⟨g,0,none⟩) c.n.toNat c.n.toNat,.int .i64 0])/\Bk w' g 3 (ica (ZE c))/\w.heap.size<=g/\Below w.heap.size w w') else(x=.returned (.tuple #[.slice none 0 0,.int .i64 1])/\Below w.heap.size w w')
theorem Z2V (c:Clk) (w:World):
  Calls Tryz.prog 73 #[CV c] w λx w'=>Z3X w c x w':=by
 have Hv:=h_ (λW=>Zcm c W);cases hv:vclk c with
 |false=>
  rw[hv] at Hv;have lu:Hid (∀x w',Z3X w c x w'↔(x=.returned (.tuple #[.slice none 0 0,.int .i64 1])/\Below w.heap.size w w')):=h_ (λx w'=>by unfold Z3X;rw[Vad (by rw[hv];simp)]);have mU:=h_ ((Vae w.heap.size w).alloc UZz (.cells #[.int .i64 c.st,.int .i64 c.f,.int .i64 c.s,.int .i64 c.n] 96));clear hv;obtain⟨st,f,s,n⟩:=c;unfold CV at Hv⊢;simp only at Hv mU⊢;go_enter Tryz.func73,Tryz.ntmps73;go_wp2_with fail;refine(Hv.o _).mono ?_;rintro x w1 ⟨rfl,hb⟩;have an:=h_ (mU.o.trans (hb.mono mU.o.size));clear hb;go_wp2;go_ret2;exact(lu.o _ _).2 ⟨rfl,an.o⟩
 |true=>
  rw[hv] at Hv;have lu:Hid (∀x w',Z3X w c x w'↔(∃g,x=.returned (.tuple #[.slice (some ⟨g,0,none⟩) c.n.toNat c.n.toNat,.int .i64 0])/\Bk w' g 3 (ica (ZE c))/\w.heap.size<=g/\Below w.heap.size w w')):=h_ (λx w'=>by unfold Z3X;rw[Vaf hv]);obtain⟨aU,_⟩:=Yv.1 hv;have n1:=aU.1;have n2:=aU.2.1;have bD:=h_ (λ(i:Nat) (hi:i<=5000) W=>Z6u (Ziv aU) i hi W);have fK:=Z03 c
  have mV:∀i (h:i<c.n.toNat),ZE c=(ZE c).take i++atC c i::(ZE c).drop (i+1):=λi h=>by
   have h1:i<(ZE c).length:=(by rw[fK];exact h);have h2:(ZE c)[i]=atC c i:=(by simp[ZE]);rw[<-h2,<-Va4 h1,Vcb]
  obtain⟨N,hN⟩:∃N,c.n.toNat=N:=⟨_,rfl⟩;have Gf:c.n=(N:Int):=(by omega);rw[hN] at lu fK mV;obtain⟨TL,AI⟩:∃TL,ZE c=TL:=⟨_,rfl⟩;rw[AI] at lu fK mV;have ML:=h_ mV;have sC:=h_ fK;have mU:=h_ ((Vae w.heap.size w).alloc UZz (.cells #[.int .i64 c.st,.int .i64 c.f,.int .i64 c.s,.int .i64 c.n] 96));have nG:=h_ (Bk.new w 96 #[.int .i64 c.st,.int .i64 c.f,.int .i64 c.s,.int .i64 c.n]);obtain⟨I5,qa⟩:∃a,atC c=a:=⟨_,rfl⟩;rw[qa] at bD ML;clear hv aU fK mV AI qa hN;obtain⟨st,f,s,n⟩:=c;simp only at Gf;subst Gf;unfold CV at Hv bD⊢;simp only at*;have zR:N<=4096:=(by omega);have Wj:1<=N:=(by omega);clear n1 n2;go_enter Tryz.func73,Tryz.ntmps73;go_wp2_with fail;refine(Hv.o _).mono ?_;rintro x w1 ⟨rfl,hb⟩;have ao:=h_ (mU.o.trans (hb.mono mU.o.size));have fo:=h_ (nG.o.below hb nG.o.lt);clear hb mU nG Hv;have bG:=Yg (P:=Tryz.prog) 31 3 _ _ Tryz.underlying31 ZQ rfl (N:Int) N rfl (by omega) (by omega) w1;rw[XQ] at bG;have dy:=h_ (Bk.new w1 3 (ica (List.replicate N 0)));have aL:=h_ (ao.o.alloc ao.o.size (.cells (ica (List.replicate N 0)) 3));have I6:=h_ (fo.o.alloc (.cells (ica (List.replicate N 0)) 3));have il:=h_ ao.o.size;have k0:=fo.o.cell 0;have k1:=fo.o.cell 1;have k2:=fo.o.cell 2;have k3:=fo.o.cell 3;have MM:=fo.o.lt;have je:=h_ MM;simp at k0 k1 k2 k3;go_wp2;clear k0 k1 k2 k3 MM bG fo ao;go_loopw [14] (λgm wr=>∃i:Nat,i<=N/\gm=.int .i64 (i:Int)/\Hid (Bk wr w1.heap.size 3 (ica (TL.take i++List.replicate (N-i) 0)))/\Hid (Bk wr w.heap.size 96 #[.int .i64 st,.int .i64 f,.int .i64 s,.int .i64 (N:Int)])/\Hid (Below w.heap.size w wr)) (λgm _=>(N-intOf gm).toNat);case atStart=>exact⟨0,Vat _,rfl,h_ (by simpa using dy.o),I6,aL⟩
  case round=>
   obtain⟨i,hi,rfl,aD,ru,hb⟩:=hrel;by_cases ab:i<N
   ·have dp:(i:Int)<(N:Int):=(by omega);have AJ:=h_ (bD.o i (by omega));obtain⟨T,hT⟩:∃T,I5 i=T:=⟨_,rfl⟩;have I7:=ML.o i ab;rw[hT] at AJ I7
    have aQ:TL.take (i+1)=TL.take i++[T]:=by
     have hl:(TL.take i).length=i:=(by rw[Vau,sC.o];omega);conv=>lhs;rw[I7]
     rw[List.take_append,hl,show i+1-i=1 by omega,Vah (by rw[hl];omega)];rfl
    have k0:=ru.o.cell 0;have k1:=ru.o.cell 1;have k2:=ru.o.cell 2;have k3:=ru.o.cell 3;simp at k0 k1 k2 k3;have aT:=h_ aQ;clear I7 hT aQ;go_wp2_with fail;refine(AJ.o _).mono ?_;rintro x w2 ⟨rfl,a8⟩;have dF:=aD.o.below a8 aD.o.lt;have AK:=ru.o.below a8 ru.o.lt;have jr:=hb.o.trans (a8.mono hb.o.size);have aj:=dF.put i (.int .i64 T);have hl:(TL.take i).length=i:=(by rw[Vau,sC.o];omega);rw[Z6t,show N-i=(N-(i+1))+1 by omega,Vbg,Va8 _ _ (by rw[hl];exact UZz),hl,Va7,List.set_cons_zero] at aj;have aA:Hid (Bk (w2.setCell ⟨w1.heap.size,i,none⟩ (.int .i64 T)) w1.heap.size 3 (ica (TL.take (i+1)++List.replicate (N-(i+1)) 0))):=h_ (by rw[aT.o,Vay];exact aj);have sy:=h_ (jr.setCell (p:=⟨w1.heap.size,i,none⟩) il.o (.int .i64 T));have sl:=h_ (AK.off (p:=⟨w1.heap.size,i,none⟩) (by show w.heap.size≠w1.heap.size;have:=je.o;omega) (.int .i64 T));obtain⟨y0,tw⟩:∃y:Int,w2.cell? ⟨w1.heap.size,i,none⟩=some (.int .i64 y):=⟨_,by rw[dF.cell,Z6s _ _ (by rw[Vab,hl,Vaw];omega)]⟩;have mL:=dF.frozen i;clear k0 k1 k2 k3 aj dF AK jr a8 aD ru hb hl;go_wp2;refine⟨⟨i+1,ab,by go_num,aA,sl,sy⟩,?_⟩;simp[intOf]<;>omega
   ·have lp:i=N:=(by omega);subst lp
    have bR:Hid (Bk wr w1.heap.size 3 (ica TL)):=h_ (by
     have:=aD.o;rw[Va7,List.replicate_zero,Va3,Vah (by rw[sC.o];exact UZz)] at this;exact this)
    clear aD;go_wp2;go_ret2;exact(lu.o _ _).2 ⟨_,rfl,bR.o,il.o,hb.o⟩
theorem QQ {w:World} {A:Option Addr} {l:List Int} (ha:At w A (ivs l)) (n cap:Nat) (hn:n=l.length) (bo:n<=1000000) (hs:l.Pairwise (· <·)) (x:Int):
  Calls Tryz.prog 74 #[.slice A n cap,.int .i64 x] w λe w'=>(∃p:Int,e=.returned (.tuple #[.int .i64 p,.bool (l.contains x)]))/\∃q,w'=w.drewN q:=by
 by_cases h0:n=0
 ·subst h0;have hl:l=[]:=Vaj hn.symm;subst hl;exact(Tryz.slices_BinarySearch_int_empty A cap x w).mono λe w' ⟨h1,h2⟩=>⟨⟨0,h1⟩,0,h2⟩
 ·obtain⟨b,o,rfl,hb,_⟩:=ha 0 (by simp[ivs];omega);refine(Tryz.slices_BinarySearch_int b o n cap l x w (by omega) (by omega) (λj hj=> ?_) ?_).mono λe w' ⟨h1,h2⟩=>⟨⟨_,by rw[Vah (by omega)] at h1;exact h1⟩,h2⟩
  ·obtain⟨b',o',hA,eQ,hc⟩:=ha j (by simpa [ivs] using hj);injection hA with hA;injection hA with ll dM;subst ll;subst dM;rw[hc];simp[ivs,iv,hj]
  ·rw[Vah (by omega)];exact hs.imp (λh=>Int.le_of_lt h)
def Zlh (w:World) (r:Option (List Int×List Int)) (x:Ending) (w':World):Prop:=match r with
 |some (m,f)=>∃v1 v2,x=.returned (.tuple #[v1,v2,.int .i64 0])/\IRes w' v1 m/\IRes w' v2 f/\Below w.heap.size w w'
 |none=>x=.returned (.tuple #[.slice none 0 0,.slice none 0 0,.int .i64 1])/\Below w.heap.size w w'
def Z5e (c:Clk) (l:List Int) (i:Nat):List Int:=((List.range i).filter (λi=> !l.contains (atC c i))).map Int.ofNat
theorem Z9e (c:Clk) (l:List Int) (i:Nat):Z5e c l (i+1)=if l.contains (atC c i)=true then Z5e c l i else Z5e c l i++[(i:Int)]:=by
 unfold Z5e;rw[Vcr,List.filter_append,Vbk];by_cases h:l.contains (atC c i)=true
 ·rw[Vaf h,List.filter_cons,h];simp
 ·rw[Vad h];simp only[Bool.not_eq_true] at h;rw[List.filter_cons,h];rfl
theorem Zcn (c:Clk) (l:List Int) (i:Nat):(Z5e c l i).length<=i:=by
 unfold Z5e;rw[Vag];have h1:=List.length_filter_le (λi=> !l.contains (atC c i)) (List.range i);rw[Vbu] at h1;exact h1
theorem ZfG {w:World} {base n:Nat} {v:Value} {l:List Int} (h:w.ownsRow base 3 1 v n (ivs l)) (hn:n=l.length):IRes w v l:=by
 obtain⟨A,cap,hv,ak⟩:=Zl h;exact⟨A,cap,by rw[hv,hn],ak⟩
theorem IRes.bel {w w':World} {v:Value} {l:List Int} (h:IRes w v l) (hb:Below w.heap.size w w'):IRes w' v l:=by
 obtain⟨A,cap,hv,ak⟩:=h;exact⟨A,cap,hv,ak.below hb⟩
theorem ZfH {w:World} {A:Option Addr} {l:List Int} (c:Clk) (ha:At w A (ivs l)) (n cap:Nat) (hn:n=l.length) (bo:n<=9223372036854775807):
  Calls Tryz.prog 53 #[CV c,.slice A n cap] w λx w'=>Zlh w (excT c l) x w':=by
 have Ht:=h_ (λW=>Z2V c W);have Ha:=h_ ha;have Hn:=h_ hn;have aL:=h_ ((Vae w.heap.size w).alloc UZz (.cells #[.int .i64 c.st,.int .i64 c.f,.int .i64 c.s,.int .i64 c.n] 96));have hex:excT c l=if vclk c=true/\Zf l=true then some (XW c l,furL c l) else none:=rfl
 cases hv:vclk c with
 |false=>
  rw[hv,Vad (by simp)] at hex;rw[hex];have rv:Hid (∀W,Calls Tryz.prog 73 #[CV c] W λx w'=>x=.returned (.tuple #[.slice none 0 0,.int .i64 1])/\Below W.heap.size W w'):=h_ (λW=>(Ht.o W).mono λx w' h=>by unfold Z3X at h;rw[Vad (by rw[hv];simp)] at h;exact h);clear hex hv Ht ha hn;obtain⟨st,f,s,cn⟩:=c;unfold CV at rv⊢;simp only at*;go_enter Tryz.func53,Tryz.ntmps53;go_wp2_with fail;refine(rv.o _).mono ?_;rintro x w1 ⟨rfl,hb⟩;have ao:=h_ (aL.o.trans (hb.mono aL.o.size));clear hb;go_wp2;go_ret3;exact⟨rfl,ao.o⟩
 |true=>
  obtain⟨aU,_⟩:=Yv.1 hv;have rv:Hid (∀W,Calls Tryz.prog 73 #[CV c] W λx w'=>(∃g,x=.returned (.tuple #[.slice (some ⟨g,0,none⟩) c.n.toNat c.n.toNat,.int .i64 0])/\Bk w' g 3 (ica (ZE c))/\W.heap.size<=g/\Below W.heap.size W w')):=h_ (λW=>(Ht.o W).mono λx w' h=>by unfold Z3X at h;rw[Vaf hv] at h;exact h);have n1:=aU.1;have n2:=aU.2.1;have fK:=Z03 c;have cZ:=Z04 aU;have ry:∀i,i<c.n.toNat->(ZE c)[i]? =some (atC c i):=λi h=>(by simp[ZE,h]);have zH:XW c l=Z5e c l c.n.toNat:=rfl;have dW:=h_ (λW (h:Below w.heap.size w W)=>Z0K (ha.below h) n cap hn bo);cases hl:Zf l with
  |false=>
   rw[hv,hl,Vad (by simp)] at hex;rw[hex];rw[hl] at dW;clear hex hv Ht ha hn aU hl fK cZ ry zH;obtain⟨st,f,s,cn⟩:=c;unfold CV at rv⊢;simp only at*;go_enter Tryz.func53,Tryz.ntmps53;go_wp2_with fail;refine(rv.o _).mono ?_;rintro x w1 ⟨g,rfl,hg,I8,hb⟩;have ao:=h_ (aL.o.trans (hb.mono aL.o.size));clear hb hg I8;go_wp2_with fail;refine(dW.o _ ao.o).mono ?_;rintro x w2 ⟨rfl,rfl⟩;go_wp2;go_ret3;exact⟨rfl,ao.o⟩
  |true=>
   rw[hv,hl,Vaf ⟨rfl,rfl⟩,zH] at hex;rw[hex];rw[hl] at dW;obtain⟨v1,v2,v3⟩:=Z8.1 hl;have Dw:n<=4096:=(by omega);have ga:=λi=>Z9e c l i;have eR:=λi=>Zcn c l i;have AL:furL c l=l.filter (λt=> !(ZE c).contains t):=rfl;rw[AL];obtain⟨N,hN⟩:∃N,c.n.toNat=N:=⟨_,rfl⟩;rw[hN] at fK ry rv⊢;obtain⟨TL,AI⟩:∃TL,ZE c=TL:=⟨_,rfl⟩;rw[AI] at fK cZ ry rv⊢;obtain⟨mp,I9⟩:∃mp,Z5e c l=mp:=⟨_,rfl⟩;rw[I9] at ga eR⊢;obtain⟨I5,qa⟩:∃a,atC c=a:=⟨_,rfl⟩;rw[qa] at ga ry;have eV:mp 0=[]:=(by rw[<-I9];rfl);have xW:=h_ eV;have tK:=h_ ga;have oe:=h_ eR;have sC:=h_ fK;have Ia:=h_ cZ;have AM:=h_ ry;have AN:=h_ v1;have zR:N<=4096:=(by omega);clear hex hv Ht ha hn aU hl fK cZ ry zH v1 v2 v3 ga eR AL hN AI I9 qa eV n1 n2;obtain⟨st,f,s,cn⟩:=c;unfold CV at rv⊢;simp only at*;go_enter Tryz.func53,Tryz.ntmps53;go_wp2_with fail;refine(rv.o _).mono ?_;rintro x w1 ⟨g,rfl,hg,I8,hb⟩;have ao:=h_ (aL.o.trans (hb.mono aL.o.size));have fw:=h_ (Z7W hg);clear hb hg I8 aL;go_wp2_with fail;refine(dW.o _ ao.o).mono ?_;rintro x w2 ⟨rfl,rfl⟩;have MN:=h_ (Ha.o.below ao.o);clear dW rv;go_upto_region 5 with fail;go_wp2;go_loopw [9,33] (λs9 Ib wr=>∃i:Nat,i<=N/\Ib=.int .i64 (i:Int)/\Hid (wr.ownsRow w1.heap.size 3 1 s9 (mp i).length (ivs (mp i)))/\Hid (Below w1.heap.size w1 wr)) (λ_ Ib _=>(N-intOf Ib).toNat);case atStart=>exact⟨0,Vat _,rfl,h_ (by rw[xW.o];exact Zk),h_ (Vae _ _)⟩
   case round=>
    obtain⟨i,hi,rfl,aa,ef⟩:=hrel;have bL:=fw.o.below ef.o;have qc:=MN.o.below ef.o;by_cases ab:i<N
    ·have mV:=AM.o i ab;obtain⟨T,hT⟩:∃T,I5 i=T:=⟨_,rfl⟩;have ga:=tK.o i;rw[hT] at mV ga;have iH:(ivs TL)[i]? =some (.int .i64 T):=(by unfold ivs;rw[Vbb,mV];rfl);obtain⟨b',o',hA,eQ,hc⟩:=bL.get i _ iH;injection hA with hA;injection hA with ll dM;subst ll;subst dM;rw[Vbo] at hc;have kK:=h_ (QQ qc n cap Hn.o (by omega) AN.o T);have dp:(i:Int)<(N:Int):=(by omega);have eR:=oe.o i;have av:=h_ eR;cases fg:l.contains T with
     |true=>
      rw[fg] at kK ga;rw[Vaf rfl] at ga;have mr:=h_ ga;clear mV hT ga iH bL qc eQ eR fg;go_wp2_with fail;refine(kK.o).mono ?_;rintro x w3 ⟨⟨p,rfl⟩,q,rfl⟩;go_wp2;refine⟨⟨i+1,ab,by go_num,h_ (by rw[mr.o];exact aa.o),h_ (bdN ef.o q)⟩,?_⟩;simp[intOf]<;>omega
     |false=>
      rw[fg] at kK ga;rw[Vad (by simp)] at ga;have mr:=h_ ga;clear mV hT ga iH bL qc eQ fg;go_wp2_with fail;refine(kK.o).mono ?_;rintro x w3 ⟨⟨p,rfl⟩,q,rfl⟩;obtain⟨v',w4,ag,ah,aC,_⟩:=Yq (P:=Tryz.prog) 31 3 _ _ Tryz.underlying31 ZQ rfl (w:=wr.drewN q) aa.o (bdN ef.o q) ef.o.size (.int .i64 (i:Int)) rfl (by unfold maxLen;omega) (by omega);have aq:=h_ ag
      have aI:Hid (w4.ownsRow w1.heap.size 3 1 v' (mp (i+1)).length (ivs (mp (i+1)))):=h_ (by
       rw[mr.o,Vab,Qu];exact ah)
      have cP:=h_ aC;clear ag ah aC aa ef eR
      go_wp2_with (
       at_builtin;refine Z3 (by with_reducible rfl) rfl _ _ _ rfl _ _ (by rfl) (by rfl) aq.o ?_)
      refine⟨⟨i+1,ab,by go_num,aI,cP⟩,?_⟩;simp[intOf]<;>omega
    ·have lp:i=N:=(by omega);subst lp;obtain⟨W5,rfl⟩:∃W,W=wr:=⟨_,rfl⟩;obtain⟨A9,iF,qd,fx⟩:=Zl aa.o;subst qd;have jt:=h_ fx;have Ic:=h_ qc;have kU:=h_ bL;have jb:=h_ (ao.o.trans (ef.o.mono ao.o.size));have Tg:=h_ (show l.filter (λt=> !TL.contains t)=(l.take n).filter (λt=> !TL.contains t) by rw[Vah (by rw[Hn.o];exact UZz)]);clear fx qc bL aa ef fw MN ao xW tK AM oe;go_wp2;go_loopw [10,53] (λlh AO wx=>∃k:Nat,k<=n/\AO=.int .i64 (k:Int)/\Hid (wx.ownsRow W5.heap.size 3 1 lh ((l.take k).filter (λt=> !TL.contains t)).length (ivs ((l.take k).filter (λt=> !TL.contains t))))/\Hid (Below W5.heap.size W5 wx)) (λ_ AO _=>(n-intOf AO).toNat);case atStart=>exact⟨0,Vat _,rfl,h_ Zk,h_ (Vae _ _)⟩
     case round=>
      obtain⟨k,hk,rfl,aa,gT⟩:=hrel;have bd:=kU.o.below gT.o;have sD:=Ic.o.below gT.o;by_cases ab:k<n
      ·have bK:k<l.length:=(by rw[<-Hn.o];exact ab);have bm:=Z5d l k bK;have mW:l.take (k+1)=l.take k++[l[k]]:=Vac bK;obtain⟨T,hT⟩:∃T,l[k]=T:=⟨_,rfl⟩;rw[hT] at bm mW;obtain⟨b',o',hA,eQ,hc⟩:=sD.get k _ bm;subst hA;have kK:=h_ (QQ bd i i sC.o.symm (by omega) Ia.o T);have dp:(k:Int)<(n:Int):=(by omega)
       have GU:Hid (((l.take k).filter (λt=> !TL.contains t)).length<=4096):=h_ (by
        have h1:=List.length_filter_le (λt=> !TL.contains t) (l.take k);rw[Vau] at h1;omega)
       cases fg:TL.contains T with
       |true=>
        rw[fg] at kK
        have mr:Hid ((l.take (k+1)).filter (λt=> !TL.contains t)=(l.take k).filter (λt=> !TL.contains t)):=h_ (by
         rw[mW,List.filter_append,List.filter_cons,fg];simp)
        clear hT bm mW bd sD eQ fg bK;go_wp2_with fail;refine(kK.o).mono ?_;rintro x w3 ⟨⟨p,rfl⟩,q,rfl⟩;go_wp2;refine⟨⟨k+1,ab,by go_num,h_ (by rw[mr.o];exact aa.o),h_ (bdN gT.o q)⟩,?_⟩;simp[intOf]<;>omega
       |false=>
        rw[fg] at kK
        have mr:Hid ((l.take (k+1)).filter (λt=> !TL.contains t)=(l.take k).filter (λt=> !TL.contains t)++[T]):=h_ (by
         rw[mW,List.filter_append,List.filter_cons,fg];rfl)
        clear hT bm mW bd sD eQ fg bK;go_wp2_with fail;refine(kK.o).mono ?_;rintro x w3 ⟨⟨p,rfl⟩,q,rfl⟩;have fD:=GU.o;obtain⟨v',w4,ag,ah,aC,_⟩:=Yq (P:=Tryz.prog) 31 3 _ _ Tryz.underlying31 ZQ rfl (w:=wr.drewN q) aa.o (bdN gT.o q) gT.o.size (.int .i64 T) rfl (by unfold maxLen;omega) (by omega);have aq:=h_ ag
        have aI:Hid (w4.ownsRow W5.heap.size 3 1 v' ((l.take (k+1)).filter (λt=> !TL.contains t)).length (ivs ((l.take (k+1)).filter (λt=> !TL.contains t)))):=h_ (by
         rw[mr.o,Vab,Qu];exact ah)
        have cP:=h_ aC;clear ag ah aC aa gT fD
        go_wp2_with (
         at_builtin;refine Z3 (by with_reducible rfl) rfl _ _ _ rfl _ _ (by rfl) (by rfl) aq.o ?_)
        refine⟨⟨k+1,ab,by go_num,aI,cP⟩,?_⟩;simp[intOf]<;>omega
      ·have eH:k=n:=(by omega);subst eH;have fG:=h_ (ZfG aa.o rfl);have rf:Hid (IRes wr (.slice A9 (mp i).length iF) (mp i)):=h_ ⟨A9,iF,rfl,jt.o.below gT.o⟩;have Th:=h_ (jb.o.trans (gT.o.mono jb.o.size));clear bd sD aa gT;go_wp2;go_ret3;exact⟨_,_,rfl,rf.o,by rw[Tg.o];exact fG.o,Th.o⟩
def cvs (c:Clk):Array Value:= #[.int .i64 c.st,.int .i64 c.f,.int .i64 c.s,.int .i64 c.n]
structure DtSt (w wx:World) (c:Clk):Prop where
 kc:Bk wx (w.heap.size+1) 96 (cvs c)
 kr:Bk wx w.heap.size 96 (cvs Z5X)
 bel:Below w.heap.size w wx
theorem DtSt.below {w W W':World} {c:Clk} (h:DtSt w W c) (hb:Below W.heap.size W W'):DtSt w W' c:=⟨h.kc.below hb h.kc.lt,h.kr.below hb h.kr.lt,h.bel.trans (hb.mono h.bel.size)⟩
theorem DtSt.put {w W:World} {c:Clk} (h:DtSt w W c) (i:Nat) (x:Int) (c':Clk) (hc:cvs c'=(cvs c).setIfInBounds i (.int .i64 x)):DtSt w (W.setCell ⟨w.heap.size+1,i,none⟩ (.int .i64 x)) c':=
 ⟨by rw[hc];exact h.kc.put i _,h.kr.off (p:=⟨w.heap.size+1,i,none⟩) (by show w.heap.size≠w.heap.size+1;omega) _,h.bel.setCell (p:=⟨w.heap.size+1,i,none⟩) (by show w.heap.size<=w.heap.size+1;omega) _⟩
theorem DtSt.start (w:World) (c:Clk):DtSt w ((w.alloc (.cells (cvs Z5X) 96)).alloc (.cells (cvs c) 96)) c where
 kc:=by
  have:=Bk.new (w.alloc (.cells (cvs Z5X) 96)) 96 (cvs c);rw[World.size_alloc] at this;exact this
 kr:=(Bk.new w _ _).alloc _
 bel:=((Vae w.heap.size w).alloc UZz _).alloc (by simp) _
def DtS (w:World) (st f s n:Int) (p:Addr) (m:Int) (W:World):Prop:=
 W.cell? ⟨w.heap.size+1,0,none⟩=some (.int .i64 st)/\W.cell? ⟨w.heap.size+1,1,none⟩=some (.int .i64 f)/\W.cell? ⟨w.heap.size+1,2,none⟩=some (.int .i64 s)/\W.cell? ⟨w.heap.size+1,3,none⟩=some (.int .i64 n)/\W.cell? p=some (.int .i64 m)/\DtSt w W ⟨st,f,s,n⟩
theorem DtS.of {w W:World} {st f s n:Int} {p:Addr} {m:Int} (h:DtSt w W ⟨st,f,s,n⟩) (hp:W.cell? p=some (.int .i64 m)):DtS w st f s n p m W:=⟨h.kc.cell 0,h.kc.cell 1,h.kc.cell 2,h.kc.cell 3,hp,h⟩
theorem DtS.st {w W:World} {st f s n:Int} {p:Addr} {m:Int} (h:DtS w st f s n p m W):DtSt w W ⟨st,f,s,n⟩:=h.2.2.2.2.2
theorem DtS.below {w W W':World} {st f s n:Int} {p:Addr} {m:Int} (h:DtS w st f s n p m W) (hb:Below W.heap.size W W'):DtS w st f s n p m W':=DtS.of (h.st.below hb) ((hb.cell (World.block_lt_of_cell? W p h.2.2.2.2.1)).trans h.2.2.2.2.1)
def dmu (r:Nat) (w:World):Nat:=match w.cell? ⟨r,3,none⟩ with
 |some (.int _ n)=>(4096-n).toNat
 |_=>0
theorem Zh3 {w W:World} {c:Clk} (h:DtSt w W c):dmu (w.heap.size+1) W=(4096-c.n).toNat:=by
 have:=h.kc.cell 3;simp[cvs] at this;unfold dmu;rw[this]
theorem Zko {w W:World} {c:Clk} (h:DtSt w W c):
  ∃WF,((((W.setCell ⟨w.heap.size,0,none⟩ (.int .i64 c.st)).setCell ⟨w.heap.size,1,none⟩ (.int .i64 c.f)).setCell ⟨w.heap.size,2,none⟩ (.int .i64 c.s)).setCell ⟨w.heap.size,3,none⟩ (.int .i64 c.n))=WF/\WF.cell? ⟨w.heap.size,0,none⟩=some (.int .i64 c.st)/\WF.cell? ⟨w.heap.size,1,none⟩=some (.int .i64 c.f)/\WF.cell? ⟨w.heap.size,2,none⟩=some (.int .i64 c.s)/\WF.cell? ⟨w.heap.size,3,none⟩=some (.int .i64 c.n)/\Below w.heap.size w WF:=by
 have hk:=(((h.kr.put 0 (.int .i64 c.st)).put 1 (.int .i64 c.f)).put 2 (.int .i64 c.s)).put 3 (.int .i64 c.n);refine⟨_,rfl,hk.cell 0,hk.cell 1,hk.cell 2,hk.cell 3,?_⟩;exact(((h.bel.setCell (p:=⟨w.heap.size,0,none⟩) UZz _).setCell (p:=⟨w.heap.size,1,none⟩) UZz _).setCell (p:=⟨w.heap.size,2,none⟩) UZz _).setCell (p:=⟨w.heap.size,3,none⟩) UZz _
theorem Zco {a b:Int} {r:List Int} (h:Zf (a::b::r)=true):Zm (a::b::r)= { detF a b r with n:=(cntC (detF a b r) ((a::b::r).getLast (by simp)) 4096 1:Nat) } :=by
 show(if _ then _ else _)=_;rw[Vaf h]
theorem Z2W {l:List Int} (h:l.length<2\/Zf l=false):Zm l=Z5X:=by
 match l,h with
 |[],_=>rfl
 |[_],_=>rfl
 |a::b::r,h=>
  show(if _ then _ else _)=_;rw[Vad];rcases h with h|h
  ·simp at h;omega
  ·rw[h];simp
theorem Z6v {w:World} {A:Option Addr} {l:List Int} (ha:At w A (ivs l)) (n cap:Nat) (hn:n=l.length) (bo:n<=9223372036854775807):
  Calls Tryz.prog 52 #[.slice A n cap] w λx w'=>x=.returned (CV (Zm l))/\Below w.heap.size w w':=by
 have dW:=h_ (λW (h:Below w.heap.size w W)=>Z0K (ha.below h) n cap hn bo);have aL:=h_ ((Vae w.heap.size w).alloc UZz (.cells #[.int .i64 0,.int .i64 0,.int .i64 0,.int .i64 0] 96));by_cases h2:n<2
 ·rw[Z2W (.inl (by omega))];have tU:(n:Int)<2:=(by omega);clear ha hn dW;go_enter Tryz.func52,Tryz.ntmps52;go_wp2;refine bodyPost_ret (by simp[results,Tryz.results52,go_sem];try rfl) rfl ?_;exact⟨rfl,aL.o⟩
 ·have tU:¬(n:Int)<2:=(by omega);cases hv:Zf l with
  |false=>
   rw[Z2W (.inr hv)];rw[hv] at dW;clear ha hn hv;go_enter Tryz.func52,Tryz.ntmps52;go_wp2_with fail;refine(dW.o _ aL.o).mono ?_;rintro x w1 ⟨rfl,rfl⟩;go_wp2;refine bodyPost_ret (by simp[results,Tryz.results52,go_sem];try rfl) rfl ?_;exact⟨rfl,aL.o⟩
  |true=>
   rw[hv] at dW
   obtain⟨a,b,r,rfl⟩:∃a b r,l=a::b::r:=by
    match l,hn with
    |[],hn=>simp at hn;omega
    |[_],hn=>simp at hn;omega
    |a::b::r,_=>exact⟨a,b,r,rfl⟩
   have hd:=Zco hv;have lZ:=(Yv.1 (XK hv (by simp))).1;obtain⟨v1,v2,v3⟩:=Z8.1 hv;have fJ:r.length=n-2:=(by rw[hn];simp);obtain⟨m,hm⟩:∃m,(a::b::r).getLast (by simp)=m:=⟨_,rfl⟩
   have MO:(ivs (a::b::r))[n-1]? =some (.int .i64 m):=by
    have h1:n-1<(a::b::r).length:=(by rw[<-hn];omega);rw[Z5d _ _ h1,<-hm,List.getLast_eq_getElem];congr 3;rw[hn]
   rw[hm] at hd;have eN:=v2 a Vap;have Wk:=v2 b (Var _ Vap);have kT:=v2 m (by rw[<-hm];exact List.getLast_mem _);obtain⟨F,hF⟩:∃F,detF a b r=F:=⟨_,rfl⟩;have lT:F=⟨a,b-a,match r with|[]=>b-a|t::_=>t-b,1⟩:=hF.symm;rw[hF] at hd
   have MP:inD F:=by
    rw[hd] at lZ;exact Ziv (c:= { F with n:=(cntC F m 4096 1:Nat) }) lZ
   obtain⟨K,hK⟩:∃K,cntC F m 4096 1=K:=⟨_,rfl⟩;rw[hK] at hd;rw[hd];obtain⟨bA,oA,rfl,ez,bO⟩:=ha 0 (by simp[ivs]);simp[ivs,iv] at bO;obtain⟨b1,o1,ll,a7,cq⟩:=ha 1 (by simp[ivs]);injection ll with ll;injection ll with ll dM;subst ll;subst dM;simp[ivs,iv] at cq;obtain⟨b2,o2,dM,a8,lV⟩:=ha.get (n-1) _ MO;injection dM with dM;injection dM with dM vq;subst dM;subst vq;obtain⟨m1,dC⟩:∃k,n-1=k:=⟨_,rfl⟩;rw[dC] at lV;have qe:(n:Int)-1=(m1:Int):=(by omega);have Ti:(m1:Int)<(n:Int):=(by omega);have Dw:n<=4096:=(by omega)
   have Hr:=h_ (show(r=[]/\n=2)\/(∃t q,r=t::q/\2<n/\w.cell? ⟨bA,oA+2,none⟩=some (.int .i64 t)/\0<=t/\t<=1099511627776) by
    match r,fJ with
    |[],fJ=>exact .inl ⟨rfl,by simp at fJ;omega⟩
    |t::q,fJ=>
     obtain⟨b3,o3,hA,_,hc⟩:=ha 2 (by simp[ivs]);injection hA with hA;injection hA with ll dM;subst ll;subst dM;simp[ivs,iv] at hc;have:=v2 t (Var _ (Var _ Vap));exact .inr ⟨t,q,rfl,by simp at fJ;omega,hc,this.1,this.2⟩)
   have rz:=h_ lT;have tX:=h_ MP;have HK:=h_ hK;have MQ:=h_ (show(w.alloc (.cells #[.int .i64 0,.int .i64 0,.int .i64 0,.int .i64 0] 96)).cell? ⟨bA,oA,none⟩=some (.int .i64 a) from(aL.o.cell (p:=⟨bA,oA,none⟩) ez).trans bO);have MR:=h_ (show(w.alloc (.cells #[.int .i64 0,.int .i64 0,.int .i64 0,.int .i64 0] 96)).cell? ⟨bA,oA+1,none⟩=some (.int .i64 b) from(aL.o.cell (p:=⟨bA,oA+1,none⟩) ez).trans cq);have gV:=h_ (λc=>DtSt.start w c);have yh:=h_ lV;have fL:=h_ cq;have sE:(2:Int)<=(n:Int):=(by omega);clear ha hn hv hd lZ v1 v2 v3 fJ hm MO hF lT MP hK bO cq lV a7 a8 h2 dC;go_enter Tryz.func52,Tryz.ntmps52;go_wp2_with fail;refine(dW.o _ aL.o).mono ?_;rintro x w1 ⟨rfl,rfl⟩;have w0:=MQ.o;have Tj:=MR.o;have Ie:bA<(w.alloc (.cells #[.int .i64 0,.int .i64 0,.int .i64 0,.int .i64 0] 96)).heap.size:=(by simp;omega);go_upto_region 3 with fail;go_cut [3] (λs3 wx=>s3=.pointer (some ⟨w.heap.size+1,0,none⟩)/\DtSt w wx ⟨a,b-a,0,1⟩)
   case first=>
    clear Hr rz tX HK yh dW;go_region
    all_goals
     go_wp2;go_meet;case rel=>exact⟨rfl,(gV.o ⟨a,b-a,0,1⟩).below ((Vae _ _).drew)⟩
   case rest=>
    obtain⟨rfl,aQ⟩:=hcut;have aT:=h_ aQ;clear aQ w0 Tj Ie dW MQ MR gV aL;obtain⟨c0,c1,c2,c3,_⟩:=DtS.of (p:=⟨bA,oA+m1,none⟩) (m:=m) aT.o ((aT.o.bel.cell (p:=⟨bA,oA+m1,none⟩) (by first|exact ez|(have:=aT.o.bel.size;omega))).trans yh.o);have f2:=aT.o.kc.frozen 2;have gq:=h_ (aT.o.put 2 (b-a) ⟨a,b-a,b-a,1⟩ rfl);go_upto_region 5 with fail;clear c0 c1 c2 c3 f2 aT;obtain⟨W1,MS⟩:∃W,wc.setCell ⟨w.heap.size+1,2,none⟩ (.int .i64 (b-a))=W:=⟨_,rfl⟩;rw[MS] at gq⊢;clear MS;go_upto_if 29 with fail;go_cut [] (λwx=>DtSt w wx F)
    case first=>
     rcases Hr.o with ⟨fQ,jz⟩|⟨t,q,fQ,jz,jC,iI,rq⟩
     ·have AP:F=⟨a,b-a,b-a,1⟩:=(by rw[rz.o,fQ]);have sE:¬(2:Int)<(n:Int):=(by omega);have Hf:=h_ (show DtSt w W1 F by rw[AP];exact gq.o);clear Hr fQ jz AP rz tX HK gq;go_wp2;go_meet;case rel=>exact Hf.o
     ·have AP:F=⟨a,b-a,t-b,1⟩:=(by rw[rz.o,fQ]);have sE:(2:Int)<(n:Int):=(by omega);have If:bA<W1.heap.size:=(by have:=gq.o.bel.size;omega);have ct:=(gq.o.bel.cell (p:=⟨bA,oA+2,none⟩) ez).trans jC;have cb:=(gq.o.bel.cell (p:=⟨bA,oA+1,none⟩) ez).trans fL.o;have f2:=gq.o.kc.frozen 2;have c2:=gq.o.kc.cell 2;simp[cvs] at c2
      have Hf:=h_ (λ(q:Nat)=>(show DtSt w ((W1.drewN q).setCell ⟨w.heap.size+1,2,none⟩ (.int .i64 (t-b))) F by
       rw[AP];exact DtSt.put (W:=W1.drewN q) ⟨gq.o.kc,gq.o.kr,bdN gq.o.bel q⟩ 2 (t-b) ⟨a,b-a,t-b,1⟩ rfl))
      have az:w.heap.size+1≠bA:=(by omega);clear Hr fQ jz AP rz tX HK gq jC;go_wp2;go_region
      all_goals
       go_wp2;go_meet;case rel=>exact Hf.o 1
    case rest=>
     have dz:=h_ hcut;clear hcut gq Hr;have MT:F.n=1:=(by rw[rz.o]);have AQ:=h_ MT;clear MT rz;obtain⟨Fs,Ff,F2,F4⟩:=F;simp only at*;go_wp2;go_loopw [] (λwr=>∃k:Nat,1<=k/\k<=4096/\Hid (cntC ⟨Fs,Ff,F2,F4⟩ m (4097-k) k=K)/\Hid (DtSt w wr ⟨Fs,Ff,F2,(k:Int)⟩)) (λwr=>dmu (w.heap.size+1) wr)
     case atStart=>
      refine⟨1,UZz,by omega,HK,h_ ?_⟩;have:=dz.o;rw[AQ.o] at this;exact this
     case round=>
      obtain⟨k,aZ,cL,hK,aQ⟩:=hrel;have y8:=h_ (Zh3 aQ.o);have AT:wr.cell? ⟨bA,oA+m1,none⟩=some (.int .i64 m):=(aQ.o.bel.cell (p:=⟨bA,oA+m1,none⟩) ez).trans yh.o;have AU:inD ⟨Fs,Ff,F2,(k:Int)⟩:=tX.o;obtain⟨T,hT⟩:∃T,atC ⟨Fs,Ff,F2,F4⟩ k=T:=⟨_,rfl⟩;have bD:=h_ (λW=>Z6u AU k (by omega) W);have AY:atC ⟨Fs,Ff,F2,(k:Int)⟩ k=T:=hT;rw[AY] at bD;obtain⟨B,hB⟩:∃B,decide (k<4096/\T<=m)=B:=⟨_,rfl⟩;have HB:=h_ hB;have HT:=h_ hT;have aT:=aQ;have AZ:=h_ AT;clear aQ AT AU hT AY hB;unfold CV at bD;simp only at bD;go_upto_region 7 with fail;go_cut [53] (λAO wx=>AO=.bool B/\DtSt w wx ⟨Fs,Ff,F2,(k:Int)⟩)
      case first=>
       clear dz yh fL hK;by_cases hk:k<4096
       ·have B0:(k:Int)<4096:=(by omega);have Wl:decide ((k:Int)<4096)=true:=(by simpa using B0);have eS:IntKind.i64.wrap ((n:Int)-1)=(m1:Int):=(by rw[IntWalk.i64_in _ (by omega),qe]);have gH:(0:Int)<=(m1:Int):=(by omega);have DC:IntKind.i64.wrap (m1:Int)=(m1:Int):=(by rw[IntWalk.i64_in _ (by omega)]);have H1:DtS w Fs Ff F2 (k:Int) ⟨bA,oA+m1,none⟩ m wr.drew:=DtS.of (aT.o.below ((Vae _ _).drew)) AZ.o;unfold DtS at H1;have tY:Hid (decide (T<=m)=B):=h_ (by rw[<-HB.o];simp[hk]);clear HB y8 HT tX AQ AZ aT hk
        go_region_held3 (λW=>W.cell? ⟨w.heap.size+1,0,none⟩=some (.int .i64 Fs)/\W.cell? ⟨w.heap.size+1,1,none⟩=some (.int .i64 Ff)/\W.cell? ⟨w.heap.size+1,2,none⟩=some (.int .i64 F2)/\W.cell? ⟨w.heap.size+1,3,none⟩=some (.int .i64 (k:Int))/\W.cell? ⟨bA,oA+m1,none⟩=some (.int .i64 m)/\DtSt w W ⟨Fs,Ff,F2,(k:Int)⟩) (first|exact H1|assumption|exact DtS.below (by assumption) (by assumption))
         (first|(go_at_call 72;with_reducible refine(bD.o _).mono ?_;rintro r w' ⟨rfl,a8⟩))
        all_goals
         go_wp2;go_meet;case rel=>exact⟨by rw[tY.o],DtS.st (by assumption)⟩
       ·have B0:¬(k:Int)<4096:=(by omega);obtain⟨c0,c1,c2,c3,cm,_⟩:=DtS.of aT.o AZ.o;have tY:Hid (B=false):=h_ (by rw[<-HB.o];simp[hk]);clear HB y8 HT tX AQ AZ hk;go_quiet (fail);go_wp2;go_meet;case rel=>exact⟨by rw[tY.o],aT.o.below (by first|exact Vae _ _|exact bdN (Vae _ _) _)⟩
      case rest=>
       obtain⟨rfl,aQ⟩:=hcut;have ev:=h_ aQ;clear aQ aT AZ;cases B with
       |true=>
        have a8:=HB.o;simp at a8;obtain⟨rV,MU⟩:=a8;have E9:=hK.o;rw[show 4097-k=(4096-k)+1 by omega,ZaF _ _ _ _ ⟨rV,by rw[HT.o];exact MU⟩,show 4096-k=4097-(k+1) by omega] at E9;have MV:=h_ E9;have c3:=ev.o.kc.cell 3;have f3:=ev.o.kc.frozen 3;simp[cvs] at c3;obtain⟨k',tZ⟩:∃k',k+1=k':=⟨_,rfl⟩;rw[tZ] at MV;have B0:(k:Int)+1=(k':Int):=(by omega);have rP:1<=k':=(by omega);have Ig:k'<=4096:=(by omega);have B4:=h_ (ev.o.put 3 (k':Int) ⟨Fs,Ff,F2,(k':Int)⟩ rfl);have Ih:=h_ (Zh3 B4.o);have sl:=h_ (And.intro rV tZ);clear hK E9 HB MU tZ ev HK yh fL dz HT tX AQ bD rV;go_wp2;refine⟨⟨k',rP,Ig,MV,B4⟩,?_⟩;rw[Ih.o,y8.o];obtain⟨x1,x2⟩:=sl.o;simp only;omega
       |false=>
        have a8:=HB.o
        have Tk:K=k:=by
         have:=hK.o;rw[ZaE _ _ _ _ (by rw[HT.o];simpa using a8)] at this;exact this.symm
        subst Tk;obtain⟨WF,gC,u0,u1,u2,u3,ey⟩:=Zko ev.o;have jY:=h_ gC;have gQ:=h_ ey;have r0:=ev.o.kr.cell 0;have r1:=ev.o.kr.cell 1;have r2:=ev.o.kr.cell 2;have r3:=ev.o.kr.cell 3;have g0:=ev.o.kr.frozen 0;have g1:=ev.o.kr.frozen 1;have g2:=ev.o.kr.frozen 2;have g3:=ev.o.kr.frozen 3;have c0:=ev.o.kc.cell 0;have c1:=ev.o.kc.cell 1;have c2:=ev.o.kc.cell 2;have c3:=ev.o.kc.cell 3;simp[cvs,Z5X] at r0 r1 r2 r3 c0 c1 c2 c3;simp only at jY u0 u1 u2 u3;clear gC ey a8 hK HB ev HK yh fL dz HT tX AQ bD y8;go_wp2_with ((with_reducible show bodyPost _ _ _ _ _ _);rw[jY.o];refine bodyPost_ret (v:=.agg #[.int .i64 Fs,.int .i64 Ff,.int .i64 F2,.int .i64 (K:Int)]) (by simp[results,Tryz.results52,go_sem,u0,u1,u2,u3];try rfl) rfl ?_;exact⟨rfl,gQ.o⟩)
end Go.Proofs.YtchokmkfobandaaGreatDoor
