import Derived.Test.YtchokmkfobandaaGreatDoorJ23
set_option linter.unusedVariables false
set_option linter.unusedSimpArgs false
set_option maxRecDepth 100000
set_option maxHeartbeats 8000000
namespace Go.Proofs.YtchokmkfobandaaGreatDoor
open Go.RowKit Go.Proofs Wv Wv.Vi Wv.Rc Wv.Mo Wv.Ru Wv.Tm
def ica (l:List Int):Array Value:=(ivs l).toArray
theorem Zao (l:List Int) (i:Nat) (h:i<l.length):(ica l)[i]? =some (.int .i64 l[i]):=by simp[ica,ivs,iv,h]
theorem Zap (l:List Int) (i:Nat) (x:Int):(ica l).setIfInBounds i (.int .i64 x)=ica (l.set i x):=by
 apply Array.toList_inj.1;simp[ica,ivs,iv,List.map_set]
theorem Z2R (n:Nat):Array.replicate n (.int .i64 0:Value)=ica (List.replicate n 0):=by
 apply Array.toList_inj.1;simp[ica,ivs,iv]
theorem ZbS {w:World} {g:Nat} {l:List Int} (h:Bk w g 3 (ica l)):At w (some ⟨g,0,none⟩) (ivs l):=by
 have:=h.at_;simpa [ica] using this
theorem Z9f (l:List Int) (i:Nat) (h:i<l.length):(ivs l)[i]? =some (.int .i64 l[i]):=by simp[ivs,iv,h]
theorem Z4K {w:World} {A:Option Addr} {l:List Int} (ha:At w A (ivs l)) (n cap:Nat) (hn:n=l.length) (bu:n<=9223372036854775807):
  Calls Tryz.prog 31 #[.slice A n cap] w λx w'=>x=.returned (.bool (Z0e l))/\w=w':=by
 have Ha:=h_ ha;have Hn:=h_ hn;obtain⟨V,hV⟩:∃V,Z0e l=V:=⟨_,rfl⟩;have HV:Hid (V=(tv (-1) l&&decide (l.length<=4096))):=h_ hV.symm;rw[hV];clear ha hn hV;go_enter Tryz.func31,Tryz.ntmps31;go_wp2;go_loopw [3,8] (λs3 s8 wr=>∃(i:Nat) (last:Int),i<=n/\s3=.int .i64 last/\s8=.int .i64 (i:Int)/\Hid (tv (-1) l=tv last (l.drop i))/\wr=w) (λ_ s8 _=>(n-intOf s8).toNat);case atStart=>exact⟨0,-1,Nat.zero_le _,rfl,rfl,h_ rfl,rfl⟩
 case round=>
  obtain⟨i,last,hi,rfl,rfl,xA,rfl⟩:=hrel;by_cases ab:i<n
  ·have bz:i<l.length:=(by rw[<-Hn.o];exact ab);have hd:l.drop i=l[i]::l.drop (i+1):=List.drop_eq_getElem_cons bz;have aY:=Z9f l i bz;obtain⟨x,hx⟩:∃x,l[i]=x:=⟨_,rfl⟩;rw[hx] at hd aY;obtain⟨b,o,hA,hb,hc⟩:=Ha.o.get i _ aY;subst hA;have qP:=xA.o;rw[hd] at qP;have qQ:tv (-1) l=(decide (last<x)&&decide (x<=1099511627776)&&tv x (l.drop (i+1))):=qP;have di:(i:Int)<(n:Int):=(by omega);by_cases h1:x<=last
   ·have Hv:Hid (V=false):=h_ (by rw[HV.o,qQ,decide_eq_false (show ¬last<x by omega)];rfl);clear bz hd aY hx qP qQ xA;go_wp2;go_ret;exact⟨Z03 Hv.o.symm,rfl⟩
   ·by_cases h2:1099511627776<x
    ·have Hv:Hid (V=false):=h_ (by rw[HV.o,qQ,decide_eq_false (show ¬x<=1099511627776 by omega),Bool.and_false];rfl);clear bz hd aY hx qP qQ xA;go_wp2;go_ret;exact⟨Z03 Hv.o.symm,rfl⟩
    ·have Hv:Hid (tv (-1) l=tv x (l.drop (i+1))):=h_ (by rw[qQ,decide_eq_true (show last<x by omega),decide_eq_true (show x<=1099511627776 by omega)];rfl);clear bz hd aY hx qP qQ xA;go_wp2;refine⟨⟨i+1,x,ab,rfl,by go_num,Hv,by first|trivial|rfl⟩,?_⟩;simp[intOf]<;>omega
  ·have kI:i=n:=(by omega);have qP:=xA.o;rw[List.drop_eq_nil_of_le (by rw[<-Hn.o];omega)] at qP;have Hv:Hid (V=decide (n<=4096)):=h_ (by rw[HV.o,qP,Hn.o];rfl);subst kI;clear qP xA;go_wp2;go_ret;exact⟨Z03 (by rw[Hv.o];simp;omega),rfl⟩
theorem Z4k {w:World} {A:Option Addr} {l:List Int} (ha:At w A (ivs l)) (n cap:Nat) (hn:n=l.length) (hv:Z0e l=true):
  Calls Tryz.prog 50 #[.slice A n cap] w λx w'=>∃v,x=.returned v/\IRes w' v (Z06 l)/\Below w.heap.size w w':=by
 obtain⟨v1,v2,v3⟩:=Z08.1 hv;have bu:n<=4096:=(by omega);have bE:=Z1g (P:=Tryz.prog) 31 3 _ _ Tryz.underlying31 Z0R rfl (n:Int) n rfl (by omega) (by omega) w;rw[Z2R] at bE;have dw:=h_ (Bk.new w 3 (ica (List.replicate n 0)));have aI:=h_ ((Below.refl w.heap.size w).alloc (Nat.le_refl _) (.cells (ica (List.replicate n 0)) 3));have Ha:=h_ ha;have Hn:=h_ hn;have eK:=h_ v2;have aq:Hid ((Z06 l).length=n):=h_ (by unfold Z06;rw[Z0W,hn]);clear ha hn hv v1 v2 v3;go_enter Tryz.func50,Tryz.ntmps50;go_wp2;go_loopw [3,12] (λs3 jD wr=>∃(i:Nat) (last:Int) (G:List Int),i<=n/\-1<=last/\last<=1099511627776/\s3=.int .i64 last/\jD=.int .i64 (i:Int)/\Hid (Z06 l=G++gp last (l.drop i))/\Hid (G.length=i)/\Hid (Bk wr w.heap.size 3 (ica (G++List.replicate (n-i) 0)))/\Hid (Below w.heap.size w wr)) (λ_ jD _=>(n-intOf jD).toNat);case atStart=>exact⟨0,-1,[],Nat.zero_le _,by omega,by omega,rfl,rfl,h_ rfl,h_ rfl,h_ (by simpa using dw.o),aI⟩
 case round=>
  obtain⟨i,last,G,hi,cj,cZ,rfl,rfl,hG,fW,aC,hb⟩:=hrel;by_cases ab:i<n
  ·have bz:i<l.length:=(by rw[<-Hn.o];exact ab);have hd:l.drop i=l[i]::l.drop (i+1):=List.drop_eq_getElem_cons bz;have aY:=Z9f l i bz;have dN:=eK.o l[i] (List.getElem_mem _);obtain⟨x,hx⟩:∃x,l[i]=x:=⟨_,rfl⟩;rw[hx] at hd aY dN;obtain⟨b,o,hA,ec,bN⟩:=Ha.o.get i _ aY;subst hA;have hc:=(hb.o.cell (p:=⟨b,o+i,none⟩) ec).trans bN;obtain⟨nS,CX⟩:=dN;have aj:=aC.o.put i (.int .i64 (x-last-1));rw[Zap,show n-i=(n-(i+1))+1 by omega,List.replicate_succ,List.set_append_right _ _ (by rw[fW.o];exact Nat.le_refl _),fW.o,Nat.sub_self,List.set_cons_zero] at aj;have av:Hid (Bk (wr.setCell ⟨w.heap.size,i,none⟩ (.int .i64 (x-last-1))) w.heap.size 3 (ica ((G++[x-last-1])++List.replicate (n-(i+1)) 0))):=h_ (by rw[List.append_assoc];exact aj);have rQ:=h_ (hb.o.setCell (p:=⟨w.heap.size,i,none⟩) (Nat.le_refl _) (.int .i64 (x-last-1)));have HG:Hid (Z06 l=(G++[x-last-1])++gp x (l.drop (i+1))):=h_ (by rw[hG.o,hd,List.append_assoc];rfl);have Do:Hid ((G++[x-last-1]).length=i+1):=h_ (by rw[List.length_append,fW.o];rfl);obtain⟨y0,sH⟩:∃y:Int,wr.cell? ⟨w.heap.size,i,none⟩=some (.int .i64 y):=⟨_,by rw[aC.o.cell,Zao _ _ (by rw[List.length_append,fW.o,List.length_replicate];omega)]⟩;have mi:=aC.o.frozen i;have di:(i:Int)<(n:Int):=(by omega);clear bz hd aY hx aj hG fW aC hb bE dw aI bN;go_wp2;refine⟨⟨i+1,x,_,ab,by omega,CX,rfl,by go_num,HG,Do,av,rQ⟩,?_⟩;simp[intOf]<;>omega
  ·have kI:i=n:=(by omega);subst kI;have iM:=hG.o;rw[List.drop_eq_nil_of_le (by rw[<-Hn.o];exact Nat.le_refl _)] at iM;have zP:Z06 l=G:=(by rw[iM];exact List.append_nil _)
   have aD:Hid (IRes wr (.slice (some ⟨w.heap.size,0,none⟩) i i) (Z06 l)):=h_ ⟨_,i,by rw[aq.o],by
    have:=ZbS aC.o;rw[Nat.sub_self,List.replicate_zero,List.append_nil] at this;rw[zP];exact this⟩
   clear iM zP hG fW aC bE dw aI;go_wp2;go_ret;exact⟨_,rfl,aD.o,hb.o⟩
def JRes (w:World) (r:Option (List Int)) (x:Ending) (w':World):Prop:=∃v ok,x=.returned (.tuple #[v,.bool ok])/\ok=r.isSome/\(∀l,r=some l->IRes w' v l)/\Below w.heap.size w w'
theorem Z22 {w w':World} {r:Option (List Int)} {v:Value} (h:r=none) (hb:Below w.heap.size w w'):JRes w r (.returned (.tuple #[v,.bool false])) w':=⟨_,_,rfl,by rw[h];rfl,(λl h2=>by rw[h] at h2;cases h2),hb⟩
theorem Z4l {w:World} {A:Option Addr} {l:List Int} (ha:At w A (ivs l)) (n cap:Nat) (hn:n=l.length) (bu:n<=1000000):
  Calls Tryz.prog 93 #[.slice A n cap] w λx w'=>JRes w (jnL l) x w':=by
 have bE:=Z1g (P:=Tryz.prog) 31 3 _ _ Tryz.underlying31 Z0R rfl (n:Int) n rfl (by omega) (by omega) w;rw[Z2R] at bE;have dw:=h_ (Bk.new w 3 (ica (List.replicate n 0)));have aI:=h_ ((Below.refl w.heap.size w).alloc (Nat.le_refl _) (.cells (ica (List.replicate n 0)) 3));have Ha:=h_ ha;have Hn:=h_ hn;obtain⟨R,hR⟩:∃R,jnL l=R:=⟨_,rfl⟩;have HR:Hid (R=match jn (-1) l with|some r=>if r.length<=4096 then some r else none|none=>none):=h_ hR.symm;rw[hR];clear ha hn hR;go_enter Tryz.func93,Tryz.ntmps93;go_wp2;go_loopw [4,13] (λs4 nj wr=>∃(i:Nat) (last:Int) (G:List Int),i<=n/\-1<=last/\last<=1099511627776/\s4=.int .i64 last/\nj=.int .i64 (i:Int)/\Hid (jn (-1) l=(jn last (l.drop i)).map (G++·))/\Hid (G.length=i)/\Hid (Bk wr w.heap.size 3 (ica (G++List.replicate (n-i) 0)))/\Hid (Below w.heap.size w wr)) (λ_ nj _=>(n-intOf nj).toNat);case atStart=>exact⟨0,-1,[],Nat.zero_le _,by omega,by omega,rfl,rfl,h_ (by simp),h_ rfl,h_ (by simpa using dw.o),aI⟩
 case round=>
  obtain⟨i,last,G,hi,cj,cZ,rfl,rfl,hG,fW,aC,hb⟩:=hrel;by_cases ab:i<n
  ·have bz:i<l.length:=(by rw[<-Hn.o];exact ab);have hd:l.drop i=l[i]::l.drop (i+1):=List.drop_eq_getElem_cons bz;have aY:=Z9f l i bz;obtain⟨x,hx⟩:∃x,l[i]=x:=⟨_,rfl⟩;rw[hx] at hd aY;obtain⟨b,o,hA,ec,bN⟩:=Ha.o.get i _ aY;subst hA;have hc:=(hb.o.cell (p:=⟨b,o+i,none⟩) ec).trans bN;have hj:jn last (x::l.drop (i+1))=if x<0\/1099511627776<x\/1099511627776<last+x+1 then none else(jn (last+x+1) (l.drop (i+1))).map ((last+x+1)::·):=rfl
   have iM:=hG.o;rw[hd,hj] at iM;have di:(i:Int)<(n:Int):=(by omega);by_cases h1:x<0
   ·have Hv:Hid (R=none):=h_ (by rw[HR.o,iM,if_pos (.inl h1)];rfl);clear bz hd aY hx hj iM hG fW aC bE dw aI bN;go_wp2;go_ret2;exact Z22 Hv.o hb.o
   ·by_cases h2:1099511627776<x
    ·have Hv:Hid (R=none):=h_ (by rw[HR.o,iM,if_pos (.inr (.inl h2))];rfl);clear bz hd aY hx hj iM hG fW aC bE dw aI bN;go_wp2;go_ret2;exact Z22 Hv.o hb.o
    ·have e1:last+(x+1)=last+x+1:=(by omega);obtain⟨y,hy⟩:∃y,last+x+1=y:=⟨_,rfl⟩;have aj:=aC.o.put i (.int .i64 y);rw[Zap,show n-i=(n-(i+1))+1 by omega,List.replicate_succ,List.set_append_right _ _ (by rw[fW.o];exact Nat.le_refl _),fW.o,Nat.sub_self,List.set_cons_zero] at aj;have av:Hid (Bk (wr.setCell ⟨w.heap.size,i,none⟩ (.int .i64 y)) w.heap.size 3 (ica ((G++[y])++List.replicate (n-(i+1)) 0))):=h_ (by rw[List.append_assoc];exact aj);have rQ:=h_ (hb.o.setCell (p:=⟨w.heap.size,i,none⟩) (Nat.le_refl _) (.int .i64 y));have Do:Hid ((G++[y]).length=i+1):=h_ (by rw[List.length_append,fW.o];rfl);obtain⟨y0,sH⟩:∃y:Int,wr.cell? ⟨w.heap.size,i,none⟩=some (.int .i64 y):=⟨_,by rw[aC.o.cell,Zao _ _ (by rw[List.length_append,fW.o,List.length_replicate];omega)]⟩;have mi:=aC.o.frozen i;rw[hy] at iM;by_cases h3:1099511627776<y
     ·have Hv:Hid (R=none):=h_ (by rw[HR.o,iM,if_pos (.inr (.inr h3))];rfl);have CC:last+(x+1)=y:=(by omega);clear bz hd aY hx hj iM hG fW aC hb bE dw aI bN aj e1 hy;go_wp2;go_ret2;exact Z22 Hv.o rQ.o
     ·have HG:Hid (jn (-1) l=(jn y (l.drop (i+1))).map ((G++[y])++·)):=h_ (by
       rw[iM,if_neg (by omega),Option.map_map];congr 1;funext r;simp)
      have CC:last+(x+1)=y:=(by omega);clear bz hd aY hx hj iM hG fW aC hb bE dw aI bN aj e1 hy;go_wp2;refine⟨⟨i+1,y,_,ab,by omega,by omega,rfl,by go_num,HG,Do,av,rQ⟩,?_⟩;simp[intOf]<;>omega
  ·have kI:i=n:=(by omega);subst kI;have iM:=hG.o;rw[List.drop_eq_nil_of_le (by rw[<-Hn.o];exact Nat.le_refl _)] at iM;have zP:jn (-1) l=some G:=(by rw[iM];simp[jn])
   have aD:Hid (IRes wr (.slice (some ⟨w.heap.size,0,none⟩) i i) G):=h_ ⟨_,i,by rw[fW.o],by
    have:=ZbS aC.o;rw[Nat.sub_self,List.replicate_zero,List.append_nil] at this;exact this⟩
   have Hv:Hid (R=if i<=4096 then some G else none):=h_ (by rw[HR.o,zP];simp only;rw[fW.o]);clear iM zP hG fW aC bE dw aI;go_wp2;go_ret2;refine⟨_,_,rfl,?_,λl h=> ?_,hb.o⟩
   ·rw[Hv.o];by_cases h:i<=4096
    ·rw[if_pos h];simp;omega
    ·rw[if_neg h];simp;omega
   ·rw[Hv.o] at h;split at h
    ·injection h with h;subst h;exact aD.o
    ·cases h
def CV (c:Clk):Value:=.agg #[.int .i64 c.st,.int .i64 c.f,.int .i64 c.s,.int .i64 c.n]
def inD (c:Clk):Prop:=0<=c.st/\c.st<=1099511627776/\1<=c.f/\c.f<=1099511627776/\1<=c.s/\c.s<=1099511627776
theorem Zm7 {c:Clk} (h:inC c):inD c:=⟨h.2.2.1,h.2.2.2.1,h.2.2.2.2.1,h.2.2.2.2.2.1,h.2.2.2.2.2.2.1,h.2.2.2.2.2.2.2⟩
theorem ZkC {k:Nat} {f:Int} (hk:k<=3000) (h1:1<=f) (h2:f<=1099511627776):0<=(k:Int)*f/\(k:Int)*f<=3298534883328000:=by
  constructor
  · exact Int.mul_nonneg (Int.natCast_nonneg k) (by omega)
  · calc (k : Int) * f <= 3000 * f := Int.mul_le_mul_of_nonneg_right (by omega) (by omega)
      _<=3298534883328000:=by omega
theorem Zaq {c:Clk} (hc:inD c) (i:Nat) (hi:i<=5000) (w:World):
  Calls Tryz.prog 72 #[CV c,.int .i64 (i:Int)] w λx w'=>x=.returned (.int .i64 (atC c i))/\Below w.heap.size w w':=by
 obtain⟨h1,h2,h3,h4,h5,h6⟩:=hc;obtain⟨st,f,s,n⟩:=c;simp only at*;have ak:atC ⟨st,f,s,n⟩ i=st+((i+1)/2:Nat)*f+(i/2:Nat)*s:=rfl;obtain⟨k1,aP⟩:∃k,(i+1)/2=k:=⟨_,rfl⟩;obtain⟨k2,cE⟩:∃k,i/2=k:=⟨_,rfl⟩;rw[aP,cE] at ak;obtain⟨m1,m2⟩:=ZkC (k:=k1) (by omega) h3 h4;obtain⟨m3,m4⟩:=ZkC (k:=k2) (by omega) h5 h6;have e1:((i:Int)+1)/2=(k1:Int):=(by omega);have e2:(i:Int)/2=(k2:Int):=(by omega);obtain⟨P1,R9⟩:∃P,(k1:Int)*f=P:=⟨_,rfl⟩;obtain⟨P2,Ra⟩:∃P,(k2:Int)*s=P:=⟨_,rfl⟩;rw[R9] at m1 m2 ak;rw[Ra] at m3 m4 ak;have bd:=h_ ak;clear aP cE ak;unfold CV;simp only;go_enter Tryz.func72,Tryz.ntmps72;go_wp2;go_ret;exact⟨by rw[bd.o];rfl,(Below.refl w.heap.size w).alloc (Nat.le_refl _) _⟩
theorem Z7V (n a b:Int) (w:World):
  Calls Tryz.prog 160 #[.int .i64 n,.int .i64 a,.int .i64 b] w λx w'=>x=.returned (.bool (decide (a<=n)&&decide (n<=b)))/\w=w':=by
 by_cases h1:a<=n
 ·by_cases h2:n<=b
  ·go_enter Tryz.func160,Tryz.ntmps160;go_wp2;go_ret;exact⟨Z03 (by simp[h1,h2]),rfl⟩
  ·go_enter Tryz.func160,Tryz.ntmps160;go_wp2;go_ret;exact⟨Z03 (by rw[eq_comm,decide_eq_false_iff_not];omega),rfl⟩
 ·go_enter Tryz.func160,Tryz.ntmps160;go_wp2;go_ret;exact⟨Z03 (by rw[eq_comm,Bool.and_eq_false_iff,decide_eq_false_iff_not,decide_eq_false_iff_not];omega),rfl⟩
theorem Zgi (c:Clk) (w:World):
  Calls Tryz.prog 116 #[CV c] w λx w'=>x=.returned (.bool (vclk c))/\Below w.heap.size w w':=by
 obtain⟨b1,a7⟩:∃b,(decide (1<=c.n)&&decide (c.n<=4096))=b:=⟨_,rfl⟩;obtain⟨b2,a8⟩:∃b,(decide (0<=c.st)&&decide (c.st<=1099511627776))=b:=⟨_,rfl⟩;obtain⟨b3,ae⟩:∃b,(decide (1<=c.f)&&decide (c.f<=1099511627776))=b:=⟨_,rfl⟩;obtain⟨b4,aw⟩:∃b,(decide (1<=c.s)&&decide (c.s<=1099511627776))=b:=⟨_,rfl⟩;have H1:=h_ (λW=>Z7V c.n 1 4096 W);have H2:=h_ (λW=>Z7V c.st 0 1099511627776 W);have H3:=h_ (λW=>Z7V c.f 1 1099511627776 W);have H4:=h_ (λW=>Z7V c.s 1 1099511627776 W);rw[a7] at H1;rw[a8] at H2;rw[ae] at H3;rw[aw] at H4
 have hv:vclk c=(b1&&b2&&b3&&b4&&decide (atC c (c.n-1).toNat<=1099511627776)):=by
  unfold vclk;congr 1;rw[<-a7,<-a8,<-ae,<-aw,Bool.eq_iff_iff,decide_eq_true_iff];unfold inC;simp[and_assoc]
 have mA:=h_ ((Below.refl w.heap.size w).alloc (Nat.le_refl _) (.cells #[.int .i64 c.st,.int .i64 c.f,.int .i64 c.s,.int .i64 c.n] 96));by_cases ar:b1=true/\b2=true/\b3=true/\b4=true
 ·obtain⟨rfl,rfl,rfl,rfl⟩:=ar
  have aX:inC c:=by
   simp at a7 a8 ae aw;exact⟨a7.1,a7.2,a8.1,a8.2,ae.1,ae.2,aw.1,aw.2⟩
  have n1:=aX.1;have n2:=aX.2.1;have bd:=h_ (λW=>Zaq (Zm7 aX) (c.n-1).toNat (by omega) W);obtain⟨m,hm⟩:∃m,(c.n-1).toNat=m:=⟨_,rfl⟩;have UC:c.n-1=(m:Int):=(by omega);rw[hm] at bd hv;obtain⟨T,hT⟩:∃T,atC c m=T:=⟨_,rfl⟩;rw[hT] at bd hv;have Hv:=h_ hv;clear a7 a8 ae aw hv aX hm hT;obtain⟨st,f,s,n⟩:=c;simp only at*;unfold CV at bd⊢;simp only at bd⊢;go_enter Tryz.func116,Tryz.ntmps116;go_wp2_with fail;refine(H1.o _).mono ?_;rintro x w1 ⟨rfl,rfl⟩;go_wp2_with fail;refine(H2.o _).mono ?_;rintro x w1 ⟨rfl,rfl⟩;go_wp2_with fail;refine(H3.o _).mono ?_;rintro x w1 ⟨rfl,rfl⟩;go_wp2_with fail;refine(H4.o _).mono ?_;rintro x w1 ⟨rfl,rfl⟩;go_wp2_with fail;refine(bd.o _).mono ?_;rintro x w1 ⟨rfl,hb⟩;have al:=h_ (mA.o.trans (hb.mono mA.o.size));clear hb;go_wp2;go_ret;exact⟨Z03 (by rw[Hv.o];simp),al.o⟩
 ·have Hv:Hid (vclk c=false):=h_ (by
   rw[hv];cases b1<;>cases b2<;>cases b3<;>cases b4<;>simp at ar<;>rfl)
  clear a7 a8 ae aw hv;obtain⟨st,f,s,n⟩:=c;simp only at*;unfold CV;simp only;cases b1 with
  |false=>
   clear ar;go_enter Tryz.func116,Tryz.ntmps116;go_wp2_with fail;refine(H1.o _).mono ?_;rintro x w1 ⟨rfl,rfl⟩;go_wp2;go_ret;exact⟨Z03 Hv.o.symm,mA.o⟩
  |true=>
   cases b2 with
   |false=>
    clear ar;go_enter Tryz.func116,Tryz.ntmps116;go_wp2_with fail;refine(H1.o _).mono ?_;rintro x w1 ⟨rfl,rfl⟩;go_wp2_with fail;refine(H2.o _).mono ?_;rintro x w1 ⟨rfl,rfl⟩;go_wp2;go_ret;exact⟨Z03 Hv.o.symm,mA.o⟩
   |true=>
    cases b3 with
    |false=>
     clear ar;go_enter Tryz.func116,Tryz.ntmps116;go_wp2_with fail;refine(H1.o _).mono ?_;rintro x w1 ⟨rfl,rfl⟩;go_wp2_with fail;refine(H2.o _).mono ?_;rintro x w1 ⟨rfl,rfl⟩;go_wp2_with fail;refine(H3.o _).mono ?_;rintro x w1 ⟨rfl,rfl⟩;go_wp2;go_ret;exact⟨Z03 Hv.o.symm,mA.o⟩
    |true=>
     obtain rfl:b4=false:=(by cases b4<;>simp at ar⊢);clear ar;go_enter Tryz.func116,Tryz.ntmps116;go_wp2_with fail;refine(H1.o _).mono ?_;rintro x w1 ⟨rfl,rfl⟩;go_wp2_with fail;refine(H2.o _).mono ?_;rintro x w1 ⟨rfl,rfl⟩;go_wp2_with fail;refine(H3.o _).mono ?_;rintro x w1 ⟨rfl,rfl⟩;go_wp2_with fail;refine(H4.o _).mono ?_;rintro x w1 ⟨rfl,rfl⟩;go_wp2;go_ret;exact⟨Z03 Hv.o.symm,mA.o⟩
def Z7W (w:World) (c:Clk) (x:Ending) (w':World):Prop:=if vclk c=true then(∃g,x=.returned (.tuple #[.slice (some ⟨g,0,none⟩) c.n.toNat c.n.toNat,.int .i64 0])/\Bk w' g 3 (ica (Z0E c))/\w.heap.size<=g/\Below w.heap.size w w') else(x=.returned (.tuple #[.slice none 0 0,.int .i64 1])/\Below w.heap.size w w')
theorem Z6P (c:Clk) (w:World):
  Calls Tryz.prog 73 #[CV c] w λx w'=>Z7W w c x w':=by
 have Hv:=h_ (λW=>Zgi c W);cases hv:vclk c with
 |false=>
  rw[hv] at Hv;have kL:Hid (∀x w',Z7W w c x w'↔(x=.returned (.tuple #[.slice none 0 0,.int .i64 1])/\Below w.heap.size w w')):=h_ (λx w'=>by unfold Z7W;rw[if_neg (by rw[hv];simp)]);have mA:=h_ ((Below.refl w.heap.size w).alloc (Nat.le_refl _) (.cells #[.int .i64 c.st,.int .i64 c.f,.int .i64 c.s,.int .i64 c.n] 96));clear hv;obtain⟨st,f,s,n⟩:=c;unfold CV at Hv⊢;simp only at Hv mA⊢;go_enter Tryz.func73,Tryz.ntmps73;go_wp2_with fail;refine(Hv.o _).mono ?_;rintro x w1 ⟨rfl,hb⟩;have al:=h_ (mA.o.trans (hb.mono mA.o.size));clear hb;go_wp2;go_ret2;exact(kL.o _ _).2 ⟨rfl,al.o⟩
 |true=>
  rw[hv] at Hv;have kL:Hid (∀x w',Z7W w c x w'↔(∃g,x=.returned (.tuple #[.slice (some ⟨g,0,none⟩) c.n.toNat c.n.toNat,.int .i64 0])/\Bk w' g 3 (ica (Z0E c))/\w.heap.size<=g/\Below w.heap.size w w')):=h_ (λx w'=>by unfold Z7W;rw[if_pos hv]);obtain⟨aX,_⟩:=Z1r.1 hv;have n1:=aX.1;have n2:=aX.2.1;have bd:=h_ (λ(i:Nat) (hi:i<=5000) W=>Zaq (Zm7 aX) i hi W);have fw:=Z42 c
  have mB:∀i (h:i<c.n.toNat),Z0E c=(Z0E c).take i++atC c i::(Z0E c).drop (i+1):=λi h=>by
   have h1:i<(Z0E c).length:=(by rw[fw];exact h);have h2:(Z0E c)[i]=atC c i:=(by simp[Z0E]);rw[<-h2,<-List.drop_eq_getElem_cons h1,List.take_append_drop]
  obtain⟨N,hN⟩:∃N,c.n.toNat=N:=⟨_,rfl⟩;have Fx:c.n=(N:Int):=(by omega);rw[hN] at kL fw mB;obtain⟨TL,zQ⟩:∃TL,Z0E c=TL:=⟨_,rfl⟩;rw[zQ] at kL fw mB;have Mr:=h_ mB;have rU:=h_ fw;have mA:=h_ ((Below.refl w.heap.size w).alloc (Nat.le_refl _) (.cells #[.int .i64 c.st,.int .i64 c.f,.int .i64 c.s,.int .i64 c.n] 96));have nk:=h_ (Bk.new w 96 #[.int .i64 c.st,.int .i64 c.f,.int .i64 c.s,.int .i64 c.n]);obtain⟨Gz,pI⟩:∃a,atC c=a:=⟨_,rfl⟩;rw[pI] at bd Mr;clear hv aX fw mB zQ pI hN;obtain⟨st,f,s,n⟩:=c;simp only at Fx;subst Fx;unfold CV at Hv bd⊢;simp only at*;have ze:N<=4096:=(by omega);have UD:1<=N:=(by omega);clear n1 n2;go_enter Tryz.func73,Tryz.ntmps73;go_wp2_with fail;refine(Hv.o _).mono ?_;rintro x w1 ⟨rfl,hb⟩;have an:=h_ (mA.o.trans (hb.mono mA.o.size));have fP:=h_ (nk.o.below hb nk.o.lt);clear hb mA nk Hv;have bE:=Z1g (P:=Tryz.prog) 31 3 _ _ Tryz.underlying31 Z0R rfl (N:Int) N rfl (by omega) (by omega) w1;rw[Z2R] at bE;have dw:=h_ (Bk.new w1 3 (ica (List.replicate N 0)));have aI:=h_ (an.o.alloc an.o.size (.cells (ica (List.replicate N 0)) 3));have GA:=h_ (fP.o.alloc (.cells (ica (List.replicate N 0)) 3));have gW:=h_ an.o.size;have k0:=fP.o.cell 0;have k1:=fP.o.cell 1;have k2:=fP.o.cell 2;have k3:=fP.o.cell 3;have Mt:=fP.o.lt;have iO:=h_ Mt;simp at k0 k1 k2 k3;go_wp2;clear k0 k1 k2 k3 Mt bE fP an;go_loopw [14] (λfX wr=>∃i:Nat,i<=N/\fX=.int .i64 (i:Int)/\Hid (Bk wr w1.heap.size 3 (ica (TL.take i++List.replicate (N-i) 0)))/\Hid (Bk wr w.heap.size 96 #[.int .i64 st,.int .i64 f,.int .i64 s,.int .i64 (N:Int)])/\Hid (Below w.heap.size w wr)) (λfX _=>(N-intOf fX).toNat);case atStart=>exact⟨0,Nat.zero_le _,rfl,h_ (by simpa using dw.o),GA,aI⟩
  case round=>
   obtain⟨i,hi,rfl,aC,qR,hb⟩:=hrel;by_cases ab:i<N
   ·have di:(i:Int)<(N:Int):=(by omega);have zR:=h_ (bd.o i (by omega));obtain⟨T,hT⟩:∃T,Gz i=T:=⟨_,rfl⟩;have GB:=Mr.o i ab;rw[hT] at zR GB
    have aN:TL.take (i+1)=TL.take i++[T]:=by
     have hl:(TL.take i).length=i:=(by rw[List.length_take,rU.o];omega);conv=>lhs;rw[GB]
     rw[List.take_append,hl,show i+1-i=1 by omega,List.take_of_length_le (by rw[hl];omega)];rfl
    have k0:=qR.o.cell 0;have k1:=qR.o.cell 1;have k2:=qR.o.cell 2;have k3:=qR.o.cell 3;simp at k0 k1 k2 k3;have aR:=h_ aN;clear GB hT aN;go_wp2_with fail;refine(zR.o _).mono ?_;rintro x w2 ⟨rfl,a8⟩;have dC:=aC.o.below a8 aC.o.lt;have zS:=qR.o.below a8 qR.o.lt;have iZ:=hb.o.trans (a8.mono hb.o.size);have aj:=dC.put i (.int .i64 T);have hl:(TL.take i).length=i:=(by rw[List.length_take,rU.o];omega);rw[Zap,show N-i=(N-(i+1))+1 by omega,List.replicate_succ,List.set_append_right _ _ (by rw[hl];exact Nat.le_refl _),hl,Nat.sub_self,List.set_cons_zero] at aj;have av:Hid (Bk (w2.setCell ⟨w1.heap.size,i,none⟩ (.int .i64 T)) w1.heap.size 3 (ica (TL.take (i+1)++List.replicate (N-(i+1)) 0))):=h_ (by rw[aR.o,List.append_assoc];exact aj);have rQ:=h_ (iZ.setCell (p:=⟨w1.heap.size,i,none⟩) gW.o (.int .i64 T));have rJ:=h_ (zS.off (p:=⟨w1.heap.size,i,none⟩) (by show w.heap.size≠w1.heap.size;have:=iO.o;omega) (.int .i64 T));obtain⟨y0,sH⟩:∃y:Int,w2.cell? ⟨w1.heap.size,i,none⟩=some (.int .i64 y):=⟨_,by rw[dC.cell,Zao _ _ (by rw[List.length_append,hl,List.length_replicate];omega)]⟩;have mi:=dC.frozen i;clear k0 k1 k2 k3 aj dC zS iZ a8 aC qR hb hl;go_wp2;refine⟨⟨i+1,ab,by go_num,av,rJ,rQ⟩,?_⟩;simp[intOf]<;>omega
   ·have kI:i=N:=(by omega);subst kI
    have cq:Hid (Bk wr w1.heap.size 3 (ica TL)):=h_ (by
     have:=aC.o;rw[Nat.sub_self,List.replicate_zero,List.append_nil,List.take_of_length_le (by rw[rU.o];exact Nat.le_refl _)] at this;exact this)
    clear aC;go_wp2;go_ret2;exact(kL.o _ _).2 ⟨_,rfl,cq.o,gW.o,hb.o⟩
theorem Z3Q {w:World} {A:Option Addr} {l:List Int} (ha:At w A (ivs l)) (n cap:Nat) (hn:n=l.length) (bu:n<=1000000) (hs:l.Pairwise (· <·)) (x:Int):
  Calls Tryz.prog 74 #[.slice A n cap,.int .i64 x] w λe w'=>(∃p:Int,e=.returned (.tuple #[.int .i64 p,.bool (l.contains x)]))/\∃q,w'=w.drewN q:=by
 by_cases h0:n=0
 ·subst h0;have hl:l=[]:=List.eq_nil_of_length_eq_zero hn.symm;subst hl;exact(Tryz.slices_BinarySearch_int_empty A cap x w).mono λe w' ⟨h1,h2⟩=>⟨⟨0,h1⟩,0,h2⟩
 ·obtain⟨b,o,rfl,hb,_⟩:=ha 0 (by simp[ivs];omega);refine(Tryz.slices_BinarySearch_int b o n cap l x w (by omega) (by omega) (λj hj=> ?_) ?_).mono λe w' ⟨h1,h2⟩=>⟨⟨_,by rw[List.take_of_length_le (by omega)] at h1;exact h1⟩,h2⟩
  ·obtain⟨b',o',hA,eH,hc⟩:=ha j (by simpa [ivs] using hj);injection hA with hA;injection hA with kH eh;subst kH;subst eh;rw[hc];simp[ivs,iv,hj]
  ·rw[List.take_of_length_le (by omega)];exact hs.imp (λh=>Int.le_of_lt h)
def ZoR (w:World) (r:Option (List Int×List Int)) (x:Ending) (w':World):Prop:=match r with
 |some (m,f)=>∃v1 v2,x=.returned (.tuple #[v1,v2,.int .i64 0])/\IRes w' v1 m/\IRes w' v2 f/\Below w.heap.size w w'
 |none=>x=.returned (.tuple #[.slice none 0 0,.slice none 0 0,.int .i64 1])/\Below w.heap.size w w'
def Z9g (c:Clk) (l:List Int) (i:Nat):List Int:=((List.range i).filter (λi=> !l.contains (atC c i))).map Int.ofNat
theorem Zd6 (c:Clk) (l:List Int) (i:Nat):Z9g c l (i+1)=if l.contains (atC c i)=true then Z9g c l i else Z9g c l i++[(i:Int)]:=by
 unfold Z9g;rw[List.range_succ,List.filter_append,List.map_append];by_cases h:l.contains (atC c i)=true
 ·rw[if_pos h,List.filter_cons,h];simp
 ·rw[if_neg h];simp only[Bool.not_eq_true] at h;rw[List.filter_cons,h];rfl
theorem Zgj (c:Clk) (l:List Int) (i:Nat):(Z9g c l i).length<=i:=by
 unfold Z9g;rw[List.length_map];have h1:=List.length_filter_le (λi=> !l.contains (atC c i)) (List.range i);rw[List.length_range] at h1;exact h1
theorem Zjp {w:World} {base n:Nat} {v:Value} {l:List Int} (h:w.ownsRow base 3 1 v n (ivs l)) (hn:n=l.length):IRes w v l:=by
 obtain⟨A,cap,hv,ak⟩:=Z0q h;exact⟨A,cap,by rw[hv,hn],ak⟩
theorem IRes.bel {w w':World} {v:Value} {l:List Int} (h:IRes w v l) (hb:Below w.heap.size w w'):IRes w' v l:=by
 obtain⟨A,cap,hv,ak⟩:=h;exact⟨A,cap,hv,ak.below hb⟩
theorem Zjq {w:World} {A:Option Addr} {l:List Int} (c:Clk) (ha:At w A (ivs l)) (n cap:Nat) (hn:n=l.length) (bu:n<=9223372036854775807):
  Calls Tryz.prog 53 #[CV c,.slice A n cap] w λx w'=>ZoR w (excT c l) x w':=by
 have Ht:=h_ (λW=>Z6P c W);have Ha:=h_ ha;have Hn:=h_ hn;have aI:=h_ ((Below.refl w.heap.size w).alloc (Nat.le_refl _) (.cells #[.int .i64 c.st,.int .i64 c.f,.int .i64 c.s,.int .i64 c.n] 96));have hex:excT c l=if vclk c=true/\Z0e l=true then some (Z2X c l,furL c l) else none:=rfl
 cases hv:vclk c with
 |false=>
  rw[hv,if_neg (by simp)] at hex;rw[hex];have qS:Hid (∀W,Calls Tryz.prog 73 #[CV c] W λx w'=>x=.returned (.tuple #[.slice none 0 0,.int .i64 1])/\Below W.heap.size W w'):=h_ (λW=>(Ht.o W).mono λx w' h=>by unfold Z7W at h;rw[if_neg (by rw[hv];simp)] at h;exact h);clear hex hv Ht ha hn;obtain⟨st,f,s,cn⟩:=c;unfold CV at qS⊢;simp only at*;go_enter Tryz.func53,Tryz.ntmps53;go_wp2_with fail;refine(qS.o _).mono ?_;rintro x w1 ⟨rfl,hb⟩;have an:=h_ (aI.o.trans (hb.mono aI.o.size));clear hb;go_wp2;go_ret3;exact⟨rfl,an.o⟩
 |true=>
  obtain⟨aX,_⟩:=Z1r.1 hv;have qS:Hid (∀W,Calls Tryz.prog 73 #[CV c] W λx w'=>(∃g,x=.returned (.tuple #[.slice (some ⟨g,0,none⟩) c.n.toNat c.n.toNat,.int .i64 0])/\Bk w' g 3 (ica (Z0E c))/\W.heap.size<=g/\Below W.heap.size W w')):=h_ (λW=>(Ht.o W).mono λx w' h=>by unfold Z7W at h;rw[if_pos hv] at h;exact h);have n1:=aX.1;have n2:=aX.2.1;have fw:=Z42 c;have cR:=Z43 aX;have qT:∀i,i<c.n.toNat->(Z0E c)[i]? =some (atC c i):=λi h=>(by simp[Z0E,h]);have yV:Z2X c l=Z9g c l c.n.toNat:=rfl;have dQ:=h_ (λW (h:Below w.heap.size w W)=>Z4K (ha.below h) n cap hn bu);cases hl:Z0e l with
  |false=>
   rw[hv,hl,if_neg (by simp)] at hex;rw[hex];rw[hl] at dQ;clear hex hv Ht ha hn aX hl fw cR qT yV;obtain⟨st,f,s,cn⟩:=c;unfold CV at qS⊢;simp only at*;go_enter Tryz.func53,Tryz.ntmps53;go_wp2_with fail;refine(qS.o _).mono ?_;rintro x w1 ⟨g,rfl,hg,GC,hb⟩;have an:=h_ (aI.o.trans (hb.mono aI.o.size));clear hb hg GC;go_wp2_with fail;refine(dQ.o _ an.o).mono ?_;rintro x w2 ⟨rfl,rfl⟩;go_wp2;go_ret3;exact⟨rfl,an.o⟩
  |true=>
   rw[hv,hl,if_pos ⟨rfl,rfl⟩,yV] at hex;rw[hex];rw[hl] at dQ;obtain⟨v1,v2,v3⟩:=Z08.1 hl;have CK:n<=4096:=(by omega);have fO:=λi=>Zd6 c l i;have eN:=λi=>Zgj c l i;have zT:furL c l=l.filter (λt=> !(Z0E c).contains t):=rfl;rw[zT];obtain⟨N,hN⟩:∃N,c.n.toNat=N:=⟨_,rfl⟩;rw[hN] at fw qT qS⊢;obtain⟨TL,zQ⟩:∃TL,Z0E c=TL:=⟨_,rfl⟩;rw[zQ] at fw cR qT qS⊢;obtain⟨mp,GD⟩:∃mp,Z9g c l=mp:=⟨_,rfl⟩;rw[GD] at fO eN⊢;obtain⟨Gz,pI⟩:∃a,atC c=a:=⟨_,rfl⟩;rw[pI] at fO qT;have gh:mp 0=[]:=(by rw[<-GD];rfl);have xk:=h_ gh;have sT:=h_ fO;have nQ:=h_ eN;have rU:=h_ fw;have GE:=h_ cR;have zU:=h_ qT;have zV:=h_ v1;have ze:N<=4096:=(by omega);clear hex hv Ht ha hn aX hl fw cR qT yV v1 v2 v3 fO eN zT hN zQ GD pI gh n1 n2;obtain⟨st,f,s,cn⟩:=c;unfold CV at qS⊢;simp only at*;go_enter Tryz.func53,Tryz.ntmps53;go_wp2_with fail;refine(qS.o _).mono ?_;rintro x w1 ⟨g,rfl,hg,GC,hb⟩;have an:=h_ (aI.o.trans (hb.mono aI.o.size));have ff:=h_ (ZbS hg);clear hb hg GC aI;go_wp2_with fail;refine(dQ.o _ an.o).mono ?_;rintro x w2 ⟨rfl,rfl⟩;have Mu:=h_ (Ha.o.below an.o);clear dQ qS;go_upto_region 5 with fail;go_wp2;go_loopw [9,33] (λs9 GF wr=>∃i:Nat,i<=N/\GF=.int .i64 (i:Int)/\Hid (wr.ownsRow w1.heap.size 3 1 s9 (mp i).length (ivs (mp i)))/\Hid (Below w1.heap.size w1 wr)) (λ_ GF _=>(N-intOf GF).toNat);case atStart=>exact⟨0,Nat.zero_le _,rfl,h_ (by rw[xk.o];exact Z0p),h_ (Below.refl _ _)⟩
   case round=>
    obtain⟨i,hi,rfl,aa,dV⟩:=hrel;have bL:=ff.o.below dV.o;have pJ:=Mu.o.below dV.o;by_cases ab:i<N
    ·have mB:=zU.o i ab;obtain⟨T,hT⟩:∃T,Gz i=T:=⟨_,rfl⟩;have fO:=sT.o i;rw[hT] at mB fO;have iA:(ivs TL)[i]? =some (.int .i64 T):=(by unfold ivs;rw[List.getElem?_map,mB];rfl);obtain⟨b',o',hA,eH,hc⟩:=bL.get i _ iA;injection hA with hA;injection hA with kH eh;subst kH;subst eh;rw[Nat.zero_add] at hc;have ki:=h_ (Z3Q pJ n cap Hn.o (by omega) zV.o T);have di:(i:Int)<(N:Int):=(by omega);have eN:=nQ.o i;have aq:=h_ eN;cases eR:l.contains T with
     |true=>
      rw[eR] at ki fO;rw[if_pos rfl] at fO;have lS:=h_ fO;clear mB hT fO iA bL pJ eH eN eR;go_wp2_with fail;refine(ki.o).mono ?_;rintro x w3 ⟨⟨p,rfl⟩,q,rfl⟩;go_wp2;refine⟨⟨i+1,ab,by go_num,h_ (by rw[lS.o];exact aa.o),h_ (bdN dV.o q)⟩,?_⟩;simp[intOf]<;>omega
     |false=>
      rw[eR] at ki fO;rw[if_neg (by simp)] at fO;have lS:=h_ fO;clear mB hT fO iA bL pJ eH eR;go_wp2_with fail;refine(ki.o).mono ?_;rintro x w3 ⟨⟨p,rfl⟩,q,rfl⟩;obtain⟨v',w4,ag,ai,aB,_⟩:=Z1X (P:=Tryz.prog) 31 3 _ _ Tryz.underlying31 Z0R rfl (w:=wr.drewN q) aa.o (bdN dV.o q) dV.o.size (.int .i64 (i:Int)) rfl (by unfold maxLen;omega) (by omega);have ao:=h_ ag
      have aE:Hid (w4.ownsRow w1.heap.size 3 1 v' (mp (i+1)).length (ivs (mp (i+1)))):=h_ (by
       rw[lS.o,List.length_append,Z3t];exact ai)
      have cG:=h_ aB;clear ag ai aB aa dV eN
      go_wp2_with (
       at_builtin;refine Z04 (by with_reducible rfl) rfl _ _ _ rfl _ _ (by rfl) (by rfl) ao.o ?_)
      refine⟨⟨i+1,ab,by go_num,aE,cG⟩,?_⟩;simp[intOf]<;>omega
    ·have kI:i=N:=(by omega);subst kI;obtain⟨W5,rfl⟩:∃W,W=wr:=⟨_,rfl⟩;obtain⟨A9,iw,pK,fg⟩:=Z0q aa.o;subst pK;have kM:=h_ fg;have GH:=h_ pJ;have kx:=h_ bL;have kN:=h_ (an.o.trans (dV.o.mono an.o.size));have Rb:=h_ (show l.filter (λt=> !TL.contains t)=(l.take n).filter (λt=> !TL.contains t) by rw[List.take_of_length_le (by rw[Hn.o];exact Nat.le_refl _)]);clear fg pJ bL aa dV ff Mu an xk sT zU nQ;go_wp2;go_loopw [10,53] (λkG zW wx=>∃k:Nat,k<=n/\zW=.int .i64 (k:Int)/\Hid (wx.ownsRow W5.heap.size 3 1 kG ((l.take k).filter (λt=> !TL.contains t)).length (ivs ((l.take k).filter (λt=> !TL.contains t))))/\Hid (Below W5.heap.size W5 wx)) (λ_ zW _=>(n-intOf zW).toNat);case atStart=>exact⟨0,Nat.zero_le _,rfl,h_ Z0p,h_ (Below.refl _ _)⟩
     case round=>
      obtain⟨k,hk,rfl,aa,gH⟩:=hrel;have bH:=kx.o.below gH.o;have rV:=GH.o.below gH.o;by_cases ab:k<n
      ·have bD:k<l.length:=(by rw[<-Hn.o];exact ab);have aY:=Z9f l k bD;have mC:l.take (k+1)=l.take k++[l[k]]:=List.take_succ_eq_append_getElem bD;obtain⟨T,hT⟩:∃T,l[k]=T:=⟨_,rfl⟩;rw[hT] at aY mC;obtain⟨b',o',hA,eH,hc⟩:=rV.get k _ aY;subst hA;have ki:=h_ (Z3Q bH i i rU.o.symm (by omega) GE.o T);have di:(k:Int)<(n:Int):=(by omega)
       have Gf:Hid (((l.take k).filter (λt=> !TL.contains t)).length<=4096):=h_ (by
        have h1:=List.length_filter_le (λt=> !TL.contains t) (l.take k);rw[List.length_take] at h1;omega)
       cases eR:TL.contains T with
       |true=>
        rw[eR] at ki
        have lS:Hid ((l.take (k+1)).filter (λt=> !TL.contains t)=(l.take k).filter (λt=> !TL.contains t)):=h_ (by
         rw[mC,List.filter_append,List.filter_cons,eR];simp)
        clear hT aY mC bH rV eH eR bD;go_wp2_with fail;refine(ki.o).mono ?_;rintro x w3 ⟨⟨p,rfl⟩,q,rfl⟩;go_wp2;refine⟨⟨k+1,ab,by go_num,h_ (by rw[lS.o];exact aa.o),h_ (bdN gH.o q)⟩,?_⟩;simp[intOf]<;>omega
       |false=>
        rw[eR] at ki
        have lS:Hid ((l.take (k+1)).filter (λt=> !TL.contains t)=(l.take k).filter (λt=> !TL.contains t)++[T]):=h_ (by
         rw[mC,List.filter_append,List.filter_cons,eR];rfl)
        clear hT aY mC bH rV eH eR bD;go_wp2_with fail;refine(ki.o).mono ?_;rintro x w3 ⟨⟨p,rfl⟩,q,rfl⟩;have fk:=Gf.o;obtain⟨v',w4,ag,ai,aB,_⟩:=Z1X (P:=Tryz.prog) 31 3 _ _ Tryz.underlying31 Z0R rfl (w:=wr.drewN q) aa.o (bdN gH.o q) gH.o.size (.int .i64 T) rfl (by unfold maxLen;omega) (by omega);have ao:=h_ ag
        have aE:Hid (w4.ownsRow W5.heap.size 3 1 v' ((l.take (k+1)).filter (λt=> !TL.contains t)).length (ivs ((l.take (k+1)).filter (λt=> !TL.contains t)))):=h_ (by
         rw[lS.o,List.length_append,Z3t];exact ai)
        have cG:=h_ aB;clear ag ai aB aa gH fk
        go_wp2_with (
         at_builtin;refine Z04 (by with_reducible rfl) rfl _ _ _ rfl _ _ (by rfl) (by rfl) ao.o ?_)
        refine⟨⟨k+1,ab,by go_num,aE,cG⟩,?_⟩;simp[intOf]<;>omega
      ·have ef:k=n:=(by omega);subst ef;have fp:=h_ (Zjp aa.o rfl);have qJ:Hid (IRes wr (.slice A9 (mp i).length iw) (mp i)):=h_ ⟨A9,iw,rfl,kM.o.below gH.o⟩;have Re:=h_ (kN.o.trans (gH.o.mono kN.o.size));clear bH rV aa gH;go_wp2;go_ret3;exact⟨_,_,rfl,qJ.o,by rw[Rb.o];exact fp.o,Re.o⟩
def cvs (c:Clk):Array Value:= #[.int .i64 c.st,.int .i64 c.f,.int .i64 c.s,.int .i64 c.n]
structure DtSt (w wx:World) (c:Clk):Prop where
 kc:Bk wx (w.heap.size+1) 96 (cvs c)
 kr:Bk wx w.heap.size 96 (cvs Z9T)
 bel:Below w.heap.size w wx
theorem DtSt.below {w W W':World} {c:Clk} (h:DtSt w W c) (hb:Below W.heap.size W W'):DtSt w W' c:=⟨h.kc.below hb h.kc.lt,h.kr.below hb h.kr.lt,h.bel.trans (hb.mono h.bel.size)⟩
theorem DtSt.put {w W:World} {c:Clk} (h:DtSt w W c) (i:Nat) (x:Int) (c':Clk) (hc:cvs c'=(cvs c).setIfInBounds i (.int .i64 x)):DtSt w (W.setCell ⟨w.heap.size+1,i,none⟩ (.int .i64 x)) c':=
 ⟨by rw[hc];exact h.kc.put i _,h.kr.off (p:=⟨w.heap.size+1,i,none⟩) (by show w.heap.size≠w.heap.size+1;omega) _,h.bel.setCell (p:=⟨w.heap.size+1,i,none⟩) (by show w.heap.size<=w.heap.size+1;omega) _⟩
theorem DtSt.start (w:World) (c:Clk):DtSt w ((w.alloc (.cells (cvs Z9T) 96)).alloc (.cells (cvs c) 96)) c where
 kc:=by
  have:=Bk.new (w.alloc (.cells (cvs Z9T) 96)) 96 (cvs c);rw[World.size_alloc] at this;exact this
 kr:=(Bk.new w _ _).alloc _
 bel:=((Below.refl w.heap.size w).alloc (Nat.le_refl _) _).alloc (by simp) _
def DtS (w:World) (st f s n:Int) (p:Addr) (m:Int) (W:World):Prop:=
 W.cell? ⟨w.heap.size+1,0,none⟩=some (.int .i64 st)/\W.cell? ⟨w.heap.size+1,1,none⟩=some (.int .i64 f)/\W.cell? ⟨w.heap.size+1,2,none⟩=some (.int .i64 s)/\W.cell? ⟨w.heap.size+1,3,none⟩=some (.int .i64 n)/\W.cell? p=some (.int .i64 m)/\DtSt w W ⟨st,f,s,n⟩
theorem DtS.of {w W:World} {st f s n:Int} {p:Addr} {m:Int} (h:DtSt w W ⟨st,f,s,n⟩) (hp:W.cell? p=some (.int .i64 m)):DtS w st f s n p m W:=⟨h.kc.cell 0,h.kc.cell 1,h.kc.cell 2,h.kc.cell 3,hp,h⟩
theorem DtS.st {w W:World} {st f s n:Int} {p:Addr} {m:Int} (h:DtS w st f s n p m W):DtSt w W ⟨st,f,s,n⟩:=h.2.2.2.2.2
theorem DtS.below {w W W':World} {st f s n:Int} {p:Addr} {m:Int} (h:DtS w st f s n p m W) (hb:Below W.heap.size W W'):DtS w st f s n p m W':=DtS.of (h.st.below hb) ((hb.cell (World.block_lt_of_cell? W p h.2.2.2.2.1)).trans h.2.2.2.2.1)
def dmu (r:Nat) (w:World):Nat:=match w.cell? ⟨r,3,none⟩ with
 |some (.int _ n)=>(4096-n).toNat
 |_=>0
theorem ZkD {w W:World} {c:Clk} (h:DtSt w W c):dmu (w.heap.size+1) W=(4096-c.n).toNat:=by
 have:=h.kc.cell 3;simp[cvs] at this;unfold dmu;rw[this]
theorem ZnW {w W:World} {c:Clk} (h:DtSt w W c):
  ∃WF,((((W.setCell ⟨w.heap.size,0,none⟩ (.int .i64 c.st)).setCell ⟨w.heap.size,1,none⟩ (.int .i64 c.f)).setCell ⟨w.heap.size,2,none⟩ (.int .i64 c.s)).setCell ⟨w.heap.size,3,none⟩ (.int .i64 c.n))=WF/\WF.cell? ⟨w.heap.size,0,none⟩=some (.int .i64 c.st)/\WF.cell? ⟨w.heap.size,1,none⟩=some (.int .i64 c.f)/\WF.cell? ⟨w.heap.size,2,none⟩=some (.int .i64 c.s)/\WF.cell? ⟨w.heap.size,3,none⟩=some (.int .i64 c.n)/\Below w.heap.size w WF:=by
 have hk:=(((h.kr.put 0 (.int .i64 c.st)).put 1 (.int .i64 c.f)).put 2 (.int .i64 c.s)).put 3 (.int .i64 c.n);refine⟨_,rfl,hk.cell 0,hk.cell 1,hk.cell 2,hk.cell 3,?_⟩;exact(((h.bel.setCell (p:=⟨w.heap.size,0,none⟩) (Nat.le_refl _) _).setCell (p:=⟨w.heap.size,1,none⟩) (Nat.le_refl _) _).setCell (p:=⟨w.heap.size,2,none⟩) (Nat.le_refl _) _).setCell (p:=⟨w.heap.size,3,none⟩) (Nat.le_refl _) _
theorem Zgk {a b:Int} {r:List Int} (h:Z0e (a::b::r)=true):Z0j (a::b::r)= { detF a b r with n:=(cntC (detF a b r) ((a::b::r).getLast (by simp)) 4096 1:Nat) } :=by
 show(if _ then _ else _)=_;rw[if_pos h]
theorem Z6Q {l:List Int} (h:l.length<2\/Z0e l=false):Z0j l=Z9T:=by
 match l,h with
 |[],_=>rfl
 |[_],_=>rfl
 |a::b::r,h=>
  show(if _ then _ else _)=_;rw[if_neg];rcases h with h|h
  ·simp at h;omega
  ·rw[h];simp
theorem Zar {w:World} {A:Option Addr} {l:List Int} (ha:At w A (ivs l)) (n cap:Nat) (hn:n=l.length) (bu:n<=9223372036854775807):
  Calls Tryz.prog 52 #[.slice A n cap] w λx w'=>x=.returned (CV (Z0j l))/\Below w.heap.size w w':=by
 have dQ:=h_ (λW (h:Below w.heap.size w W)=>Z4K (ha.below h) n cap hn bu);have aI:=h_ ((Below.refl w.heap.size w).alloc (Nat.le_refl _) (.cells #[.int .i64 0,.int .i64 0,.int .i64 0,.int .i64 0] 96));by_cases h2:n<2
 ·rw[Z6Q (.inl (by omega))];have tj:(n:Int)<2:=(by omega);clear ha hn dQ;go_enter Tryz.func52,Tryz.ntmps52;go_wp2;refine bodyPost_ret (by simp[results,Tryz.results52,go_sem];try rfl) rfl ?_;exact⟨rfl,aI.o⟩
 ·have tj:¬(n:Int)<2:=(by omega);cases hv:Z0e l with
  |false=>
   rw[Z6Q (.inr hv)];rw[hv] at dQ;clear ha hn hv;go_enter Tryz.func52,Tryz.ntmps52;go_wp2_with fail;refine(dQ.o _ aI.o).mono ?_;rintro x w1 ⟨rfl,rfl⟩;go_wp2;refine bodyPost_ret (by simp[results,Tryz.results52,go_sem];try rfl) rfl ?_;exact⟨rfl,aI.o⟩
  |true=>
   rw[hv] at dQ
   obtain⟨a,b,r,rfl⟩:∃a b r,l=a::b::r:=by
    match l,hn with
    |[],hn=>simp at hn;omega
    |[_],hn=>simp at hn;omega
    |a::b::r,_=>exact⟨a,b,r,rfl⟩
   have hd:=Zgk hv;have lF:=(Z1r.1 (Z2L hv (by simp))).1;obtain⟨v1,v2,v3⟩:=Z08.1 hv;have gT:r.length=n-2:=(by rw[hn];simp);obtain⟨m,hm⟩:∃m,(a::b::r).getLast (by simp)=m:=⟨_,rfl⟩
   have Mv:(ivs (a::b::r))[n-1]? =some (.int .i64 m):=by
    have h1:n-1<(a::b::r).length:=(by rw[<-hn];omega);rw[Z9f _ _ h1,<-hm,List.getLast_eq_getElem];congr 3;rw[hn]
   rw[hm] at hd;have eE:=v2 a List.mem_cons_self;have UE:=v2 b (List.mem_cons_of_mem _ List.mem_cons_self);have mW:=v2 m (by rw[<-hm];exact List.getLast_mem _);obtain⟨F,hF⟩:∃F,detF a b r=F:=⟨_,rfl⟩;have lx:F=⟨a,b-a,match r with|[]=>b-a|t::_=>t-b,1⟩:=hF.symm;rw[hF] at hd
   have Mw:inD F:=by
    rw[hd] at lF;exact Zm7 (c:= { F with n:=(cntC F m 4096 1:Nat) }) lF
   obtain⟨K,hK⟩:∃K,cntC F m 4096 1=K:=⟨_,rfl⟩;rw[hK] at hd;rw[hd];obtain⟨bA,oA,rfl,ec,bN⟩:=ha 0 (by simp[ivs]);simp[ivs,iv] at bN;obtain⟨b1,o1,kH,a7,bY⟩:=ha 1 (by simp[ivs]);injection kH with kH;injection kH with kH eh;subst kH;subst eh;simp[ivs,iv] at bY;obtain⟨b2,o2,eh,a8,lB⟩:=ha.get (n-1) _ Mv;injection eh with eh;injection eh with eh uD;subst eh;subst uD;obtain⟨m1,dh⟩:∃k,n-1=k:=⟨_,rfl⟩;rw[dh] at lB;have pL:(n:Int)-1=(m1:Int):=(by omega);have Rf:(m1:Int)<(n:Int):=(by omega);have CK:n<=4096:=(by omega)
   have Hr:=h_ (show(r=[]/\n=2)\/(∃t q,r=t::q/\2<n/\w.cell? ⟨bA,oA+2,none⟩=some (.int .i64 t)/\0<=t/\t<=1099511627776) by
    match r,gT with
    |[],gT=>exact .inl ⟨rfl,by simp at gT;omega⟩
    |t::q,gT=>
     obtain⟨b3,o3,hA,_,hc⟩:=ha 2 (by simp[ivs]);injection hA with hA;injection hA with kH eh;subst kH;subst eh;simp[ivs,iv] at hc;have:=v2 t (List.mem_cons_of_mem _ (List.mem_cons_of_mem _ List.mem_cons_self));exact .inr ⟨t,q,rfl,by simp at gT;omega,hc,this.1,this.2⟩)
   have qU:=h_ lx;have tp:=h_ Mw;have HK:=h_ hK;have Mx:=h_ (show(w.alloc (.cells #[.int .i64 0,.int .i64 0,.int .i64 0,.int .i64 0] 96)).cell? ⟨bA,oA,none⟩=some (.int .i64 a) from(aI.o.cell (p:=⟨bA,oA,none⟩) ec).trans bN);have My:=h_ (show(w.alloc (.cells #[.int .i64 0,.int .i64 0,.int .i64 0,.int .i64 0] 96)).cell? ⟨bA,oA+1,none⟩=some (.int .i64 b) from(aI.o.cell (p:=⟨bA,oA+1,none⟩) ec).trans bY);have gJ:=h_ (λc=>DtSt.start w c);have xB:=h_ lB;have fy:=h_ bY;have rW:(2:Int)<=(n:Int):=(by omega);clear ha hn hv hd lF v1 v2 v3 gT hm Mv hF lx Mw hK bN bY lB a7 a8 h2 dh;go_enter Tryz.func52,Tryz.ntmps52;go_wp2_with fail;refine(dQ.o _ aI.o).mono ?_;rintro x w1 ⟨rfl,rfl⟩;have w0:=Mx.o;have Rg:=My.o;have GI:bA<(w.alloc (.cells #[.int .i64 0,.int .i64 0,.int .i64 0,.int .i64 0] 96)).heap.size:=(by simp;omega);go_upto_region 3 with fail;go_cut [3] (λs3 wx=>s3=.pointer (some ⟨w.heap.size+1,0,none⟩)/\DtSt w wx ⟨a,b-a,0,1⟩)
   case first=>
    clear Hr qU tp HK xB dQ;go_region
    all_goals
     go_wp2;go_meet;case rel=>exact⟨rfl,(gJ.o ⟨a,b-a,0,1⟩).below ((Below.refl _ _).drew)⟩
   case rest=>
    obtain⟨rfl,aN⟩:=hcut;have aR:=h_ aN;clear aN w0 Rg GI dQ Mx My gJ aI;obtain⟨c0,c1,c2,c3,_⟩:=DtS.of (p:=⟨bA,oA+m1,none⟩) (m:=m) aR.o ((aR.o.bel.cell (p:=⟨bA,oA+m1,none⟩) (by first|exact ec|(have:=aR.o.bel.size;omega))).trans xB.o);have f2:=aR.o.kc.frozen 2;have fY:=h_ (aR.o.put 2 (b-a) ⟨a,b-a,b-a,1⟩ rfl);go_upto_region 5 with fail;clear c0 c1 c2 c3 f2 aR;obtain⟨W1,Mz⟩:∃W,wc.setCell ⟨w.heap.size+1,2,none⟩ (.int .i64 (b-a))=W:=⟨_,rfl⟩;rw[Mz] at fY⊢;clear Mz;go_upto_if 29 with fail;go_cut [] (λwx=>DtSt w wx F)
    case first=>
     rcases Hr.o with ⟨fE,jj⟩|⟨t,q,fE,jj,jl,iB,qP⟩
     ·have zX:F=⟨a,b-a,b-a,1⟩:=(by rw[qU.o,fE]);have rW:¬(2:Int)<(n:Int):=(by omega);have Hf:=h_ (show DtSt w W1 F by rw[zX];exact fY.o);clear Hr fE jj zX qU tp HK fY;go_wp2;go_meet;case rel=>exact Hf.o
     ·have zX:F=⟨a,b-a,t-b,1⟩:=(by rw[qU.o,fE]);have rW:(2:Int)<(n:Int):=(by omega);have GJ:bA<W1.heap.size:=(by have:=fY.o.bel.size;omega);have ct:=(fY.o.bel.cell (p:=⟨bA,oA+2,none⟩) ec).trans jl;have cb:=(fY.o.bel.cell (p:=⟨bA,oA+1,none⟩) ec).trans fy.o;have f2:=fY.o.kc.frozen 2;have c2:=fY.o.kc.cell 2;simp[cvs] at c2
      have Hf:=h_ (λ(q:Nat)=>(show DtSt w ((W1.drewN q).setCell ⟨w.heap.size+1,2,none⟩ (.int .i64 (t-b))) F by
       rw[zX];exact DtSt.put (W:=W1.drewN q) ⟨fY.o.kc,fY.o.kr,bdN fY.o.bel q⟩ 2 (t-b) ⟨a,b-a,t-b,1⟩ rfl))
      have ay:w.heap.size+1≠bA:=(by omega);clear Hr fE jj zX qU tp HK fY jl;go_wp2;go_region
      all_goals
       go_wp2;go_meet;case rel=>exact Hf.o 1
    case rest=>
     have dx:=h_ hcut;clear hcut fY Hr;have MA:F.n=1:=(by rw[qU.o]);have zY:=h_ MA;clear MA qU;obtain⟨Fs,Ff,F2,F4⟩:=F;simp only at*;go_wp2;go_loopw [] (λwr=>∃k:Nat,1<=k/\k<=4096/\Hid (cntC ⟨Fs,Ff,F2,F4⟩ m (4097-k) k=K)/\Hid (DtSt w wr ⟨Fs,Ff,F2,(k:Int)⟩)) (λwr=>dmu (w.heap.size+1) wr)
     case atStart=>
      refine⟨1,Nat.le_refl _,by omega,HK,h_ ?_⟩;have:=dx.o;rw[zY.o] at this;exact this
     case round=>
      obtain⟨k,aP,cE,hK,aN⟩:=hrel;have xr:=h_ (ZkD aN.o);have zZ:wr.cell? ⟨bA,oA+m1,none⟩=some (.int .i64 m):=(aN.o.bel.cell (p:=⟨bA,oA+m1,none⟩) ec).trans xB.o;have Aa:inD ⟨Fs,Ff,F2,(k:Int)⟩:=tp.o;obtain⟨T,hT⟩:∃T,atC ⟨Fs,Ff,F2,F4⟩ k=T:=⟨_,rfl⟩;have bd:=h_ (λW=>Zaq Aa k (by omega) W);have Ab:atC ⟨Fs,Ff,F2,(k:Int)⟩ k=T:=hT;rw[Ab] at bd;obtain⟨B,hB⟩:∃B,decide (k<4096/\T<=m)=B:=⟨_,rfl⟩;have HB:=h_ hB;have HT:=h_ hT;have aR:=aN;have Ac:=h_ zZ;clear aN zZ Aa hT Ab hB;unfold CV at bd;simp only at bd;go_upto_region 7 with fail;go_cut [53] (λzW wx=>zW=.bool B/\DtSt w wx ⟨Fs,Ff,F2,(k:Int)⟩)
      case first=>
       clear dx xB fy hK;by_cases hk:k<4096
       ·have Ad:(k:Int)<4096:=(by omega);have UF:decide ((k:Int)<4096)=true:=(by simpa using Ad);have eI:IntKind.i64.wrap ((n:Int)-1)=(m1:Int):=(by rw[IntWalk.i64_in _ (by omega),pL]);have gr:(0:Int)<=(m1:Int):=(by omega);have CP:IntKind.i64.wrap (m1:Int)=(m1:Int):=(by rw[IntWalk.i64_in _ (by omega)]);have H1:DtS w Fs Ff F2 (k:Int) ⟨bA,oA+m1,none⟩ m wr.drew:=DtS.of (aR.o.below ((Below.refl _ _).drew)) Ac.o;unfold DtS at H1;have tq:Hid (decide (T<=m)=B):=h_ (by rw[<-HB.o];simp[hk]);clear HB xr HT tp zY Ac aR hk
        go_region_held3 (λW=>W.cell? ⟨w.heap.size+1,0,none⟩=some (.int .i64 Fs)/\W.cell? ⟨w.heap.size+1,1,none⟩=some (.int .i64 Ff)/\W.cell? ⟨w.heap.size+1,2,none⟩=some (.int .i64 F2)/\W.cell? ⟨w.heap.size+1,3,none⟩=some (.int .i64 (k:Int))/\W.cell? ⟨bA,oA+m1,none⟩=some (.int .i64 m)/\DtSt w W ⟨Fs,Ff,F2,(k:Int)⟩) (first|exact H1|assumption|exact DtS.below (by assumption) (by assumption))
         (first|(go_at_call 72;with_reducible refine(bd.o _).mono ?_;rintro r w' ⟨rfl,a8⟩))
        all_goals
         go_wp2;go_meet;case rel=>exact⟨by rw[tq.o],DtS.st (by assumption)⟩
       ·have Ad:¬(k:Int)<4096:=(by omega);obtain⟨c0,c1,c2,c3,cm,_⟩:=DtS.of aR.o Ac.o;have tq:Hid (B=false):=h_ (by rw[<-HB.o];simp[hk]);clear HB xr HT tp zY Ac hk;go_quiet (fail);go_wp2;go_meet;case rel=>exact⟨by rw[tq.o],aR.o.below (by first|exact Below.refl _ _|exact bdN (Below.refl _ _) _)⟩
      case rest=>
       obtain⟨rfl,aN⟩:=hcut;have ei:=h_ aN;clear aN aR Ac;cases B with
       |true=>
        have a8:=HB.o;simp at a8;obtain⟨rv,MB⟩:=a8;have Dp:=hK.o;rw[show 4097-k=(4096-k)+1 by omega,Zez _ _ _ _ ⟨rv,by rw[HT.o];exact MB⟩,show 4096-k=4097-(k+1) by omega] at Dp;have MD:=h_ Dp;have c3:=ei.o.kc.cell 3;have f3:=ei.o.kc.frozen 3;simp[cvs] at c3;obtain⟨k',tr⟩:∃k',k+1=k':=⟨_,rfl⟩;rw[tr] at MD;have Ad:(k:Int)+1=(k':Int):=(by omega);have rl:1<=k':=(by omega);have GK:k'<=4096:=(by omega);have Ae:=h_ (ei.o.put 3 (k':Int) ⟨Fs,Ff,F2,(k':Int)⟩ rfl);have GL:=h_ (ZkD Ae.o);have rJ:=h_ (And.intro rv tr);clear hK Dp HB MB tr ei HK xB fy dx HT tp zY bd rv;go_wp2;refine⟨⟨k',rl,GK,MD,Ae⟩,?_⟩;rw[GL.o,xr.o];obtain⟨x1,x2⟩:=rJ.o;simp only;omega
       |false=>
        have a8:=HB.o
        have Rh:K=k:=by
         have:=hK.o;rw[Zey _ _ _ _ (by rw[HT.o];simpa using a8)] at this;exact this.symm
        subst Rh;obtain⟨WF,gj,u0,u1,u2,u3,eo⟩:=ZnW ei.o;have jK:=h_ gj;have gD:=h_ eo;have r0:=ei.o.kr.cell 0;have r1:=ei.o.kr.cell 1;have r2:=ei.o.kr.cell 2;have r3:=ei.o.kr.cell 3;have g0:=ei.o.kr.frozen 0;have g1:=ei.o.kr.frozen 1;have g2:=ei.o.kr.frozen 2;have g3:=ei.o.kr.frozen 3;have c0:=ei.o.kc.cell 0;have c1:=ei.o.kc.cell 1;have c2:=ei.o.kc.cell 2;have c3:=ei.o.kc.cell 3;simp[cvs,Z9T] at r0 r1 r2 r3 c0 c1 c2 c3;simp only at jK u0 u1 u2 u3;clear gj eo a8 hK HB ei HK xB fy dx HT tp zY bd xr;go_wp2_with ((with_reducible show bodyPost _ _ _ _ _ _);rw[jK.o];refine bodyPost_ret (v:=.agg #[.int .i64 Fs,.int .i64 Ff,.int .i64 F2,.int .i64 (K:Int)]) (by simp[results,Tryz.results52,go_sem,u0,u1,u2,u3];try rfl) rfl ?_;exact⟨rfl,gD.o⟩)
end Go.Proofs.YtchokmkfobandaaGreatDoor
