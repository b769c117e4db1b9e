import Derived.Test.YtchokmkfobandaaGreatDoorJ42
set_option linter.unusedVariables false
set_option linter.unusedSimpArgs false
set_option maxRecDepth 100000
set_option maxHeartbeats 8000000
namespace Wv.Sg
def ordP (l:List (Int×ByteArray)) (i:Nat):Prop:=∀j (h:j+1<l.length),j+1<i->l[j].1<=l[j+1].1
theorem Zhs {l:List (Int×ByteArray)} (h:ordP l l.length):∀(d i:Nat) (h2:i+d<l.length),l[i].1<=l[i+d].1
 |0,i,h2=>Int.le_refl _
 |d+1,i,h2=>by
  have h3:=Zhs h d i (by omega);have h4:=h (i+d) (by omega) (by omega);exact Int.le_trans h3 h4
theorem ZmP {f t k:Int} (b:ByteArray) (l:List (Int×ByteArray)) (h:itv f t=false\/k<1):smp f t k b l=[]:=by
 have hn:nM f t k= -1:=(by unfold nM;rw[if_pos h]);exact List.eq_nil_of_length_eq_zero (by rw[Z6a,hn];rfl)
end Wv.Sg
namespace Go.Proofs.YtchokmkfobandaaGreatDoor
open Go.RowKit Go.Proofs Wv Wv.Vi Wv.Bc Wv.Sn Wv.Sg
theorem ZaW {w : World} {A : Option Addr} {b : ByteArray} {l : List (Int × ByteArray)} (ha : At w A (cv l)) (n cap : Nat) (hn : n = l.length) (bu : n <= 1000000) (f t k : Int) (hf : I64 f) (ht : I64 t) (hk : I64 k) :
    Calls Tryz.prog 20 #[.int .i64 f,.int .i64 t,.int .i64 k,.string b,.slice A n cap] w λx w'=>∃v,x=.returned v/\ChR w' v (smp f t k b l)/\Below w.heap.size w w':=by
  have HB:=h_ (λh=>ZmP (f:=f) (t:=t) (k:=k) b l h);have HI:Hid (itv f t=(decide (-1<=f)&&decide (f<=t)&&decide (t<=1099511627776))):=h_ rfl;by_cases h1:f< -1
  · have HR:Hid (smp f t k b l=[]):=h_ (HB.o (.inl (by rw[HI.o,decide_eq_false (by omega)];rfl)))
    clear ha hn hf ht hk HB HI;go_enter Tryz.func20,Tryz.ntmps20;go_wp2;go_returns;exact⟨_,rfl,by rw[HR.o];exact ChR.nil _,Below.refl _ _⟩
  · by_cases h2:t<f
    · have HR:Hid (smp f t k b l=[]):=h_ (HB.o (.inl (by rw[HI.o,decide_eq_false (show ¬f<=t by omega)];simp)))
      clear ha hn hf ht hk HB HI;go_enter Tryz.func20,Tryz.ntmps20;go_wp2;go_returns;exact⟨_,rfl,by rw[HR.o];exact ChR.nil _,Below.refl _ _⟩
    · by_cases h3:1099511627776<t
      · have HR:Hid (smp f t k b l=[]):=h_ (HB.o (.inl (by rw[HI.o,decide_eq_false (show ¬t<=1099511627776 by omega)];simp)))
        clear ha hn hf ht hk HB HI;go_enter Tryz.func20,Tryz.ntmps20;go_wp2;go_returns;exact⟨_,rfl,by rw[HR.o];exact ChR.nil _,Below.refl _ _⟩
      · by_cases h4:k<1
        · have HR:Hid (smp f t k b l=[]):=h_ (HB.o (.inr h4))
          clear ha hn hf ht hk HB HI;go_enter Tryz.func20,Tryz.ntmps20;go_wp2;go_returns;exact⟨_,rfl,by rw[HR.o];exact ChR.nil _,Below.refl _ _⟩
        · have hit:itv f t=true:=by rw[HI.o];simp;omega
          have HM:=h_ (λW=>Zhg f t k hit (by omega) hk W)
          have HX:Hid (∀j (h:j<(ms f t k).length),(smp f t k b l).take (j+1)=(smp f t k b l).take j++[((ms f t k)[j],atV b l (ms f t k)[j])]):=h_ (λj h=>by
            have h5:j<(smp f t k b l).length:=(by unfold smp;rw[List.length_map];exact h);rw[List.take_succ_eq_append_getElem h5];simp only[smp,List.getElem_map])
          have C9:Hid (∀j j' (h:j<(ms f t k).length) (h':j'<(ms f t k).length),j<=j'->(ms f t k)[j]<=(ms f t k)[j']):=h_ (λj j' h h' AN=>by
            rw[Z70,Z70];have:=Int.mul_le_mul_of_nonneg_right (show(j:Int)<=(j':Int) by omega) (show 0<=k by omega);omega)
          have nQ:Hid ((ms f t k).length<=4096):=h_ (by
            rw[Zc6];have:=Zmz f t k;omega)
          have Ee:Hid ((smp f t k b l).length=(ms f t k).length):=h_ (by unfold smp;rw[List.length_map]);have Ha:=h_ ha;have Hn:=h_ hn;generalize smp f t k b l=R at*;generalize ms f t k=X at*;generalize decide (0<=nM f t k)=ok at*;clear ha hn hit HB HI hf ht hk;go_enter Tryz.func20,Tryz.ntmps20;go_wp2_with fail;refine(HM.o _).mono ?_;rintro y w1 ⟨v,rfl,⟨AX,cX,rfl,Ca⟩,a7⟩;have an:=h_ a7;have Cb:=h_ Ca;clear Ca a7 HM;go_wp2;go_loopw [13,14] (λnj fX wr=>∃(i q:Nat) (o:Bool),1<=i/\(i<=n\/i=1)/\fX=.int .i64 (i:Int)/\nj=.bool o/\Hid (o=true↔ordP l i)/\wr=w1.drewN q) (λ_ fX _=>(n-intOf fX).toNat);case atStart=>exact⟨1,0,true,Nat.le_refl _,.inr rfl,rfl,rfl,h_ ⟨λ_ j h h2=>by omega,λ_=>rfl⟩,rfl⟩
          case round=>
            obtain⟨i,q,o,Ai,uc,rfl,rfl,ho,rfl⟩:=hrel;by_cases ab:i<n
            · obtain⟨p,rfl⟩:∃p,i=p+1:=⟨i-1,by omega⟩
              have hp:p<l.length:=(by rw[<-Hn.o];omega);have dy:p+1<l.length:=(by rw[<-Hn.o];omega);obtain⟨bA,oA,rfl,_,c0,Ef⟩:=Z1a (Ha.o.below an.o) p hp;obtain⟨Vd,Ve,nF,_,c1,Ts⟩:=Z1a (Ha.o.below an.o) (p+1) dy;injection nF with nF
              injection nF with e1 e2;subst e1;subst e2;clear Ef Ts
              have au:ordP l (p+1+1)↔ordP l (p+1)/\l[p].1<=l[p+1].1:=by
                constructor
                · exact λh=>⟨λj h2 h3=>h j h2 (by omega),h p dy (by omega)⟩
                · rintro⟨h,h2⟩ j h3 h4
                  rcases Nat.lt_or_ge (j+1) (p+1) with h5|h5
                  · exact h j h3 h5
                  · have:j=p:=by omega
                    subst this;exact h2
              have m1:IntKind.i64.wrap (((p+1:Nat):Int)-1)=(p:Int):=(by rw[IntWalk.i64_in _ (by omega)];omega);have CM:(0:Int)<=(p:Int):=(by omega);have Vf:(p:Int)<(n:Int):=(by omega);have Jz:(0:Int)<=((p+1:Nat):Int):=(by omega);have JA:((p+1:Nat):Int)<(n:Int):=(by omega);generalize l[p].1=T0 at*;generalize l[p+1].1=T1 at*;obtain⟨Q,hQ⟩:∃Q:Nat,p+1=Q:=⟨_,rfl⟩;rw[hQ] at c1 m1 Jz JA uc ho au⊢;clear hQ hp dy ab Ai uc;cases o with
              |false=>
                have nu:Hid (false=true↔ordP l (Q+1)):=h_ (by rw[au];exact⟨λh=>(by cases h),λh=>ho.o.2 h.1⟩);clear ho au;go_wp2;go_quiet (fail);go_wp2;refine⟨⟨Q+1,_,false,by omega,.inl (by omega),by go_num,rfl,h_ (by have:=nu.o;simpa using this),rfl⟩,?_⟩;simp[intOf]<;>omega
              |true=>
                by_cases hle:T0<=T1
                · have nu:Hid (true=true↔ordP l (Q+1)):=h_ (by rw[au];exact⟨λ_=>⟨ho.o.1 rfl,hle⟩,λ_=>rfl⟩)
                  clear ho au;go_wp2;go_quiet (fail);go_wp2;refine⟨⟨Q+1,_,true,by omega,.inl (by omega),by go_num,(by first|rfl|(rw[decide_eq_true hle])),h_ (by have:=nu.o;simpa using this),rfl⟩,?_⟩;simp[intOf]<;>omega
                · have nu:Hid (false=true↔ordP l (Q+1)):=h_ (by rw[au];exact⟨λh=>(by cases h),λh=>absurd h.2 hle⟩)
                  clear ho au;go_wp2;go_quiet (fail);go_wp2;refine⟨⟨Q+1,_,false,by omega,.inl (by omega),by go_num,(by first|rfl|(rw[decide_eq_false (by omega)])),h_ (by have:=nu.o;simpa using this),rfl⟩,?_⟩;simp[intOf]<;>omega
            · have JB : Hid (o = true ↔ ordP l l.length) := h_ (by
                rw[ho.o];constructor
                · exact λh j h2 h3=>h j h2 (by rw[<-Hn.o] at h3;omega)
                · exact λh j h2 h3=>h j h2 (by rw[<-Hn.o];omega))
              clear ho;cases o with
              |false=>
                go_wp2;go_loopw [15,16,67] (λnv iz wG wr=>∃(j kk:Nat),j<=X.length/\wG=.int .i64 (j:Int)/\iz=.int .i64 (kk:Int)/\kk<=n/\True/\Hid (wr.ownsRow w1.heap.size 33 2 nv j (cv (R.take j)))/\Hid (Below w1.heap.size w1 wr)) (λ_ _ wG _=>(X.length-intOf wG).toNat);case atStart=>exact⟨0,0,Nat.zero_le _,rfl,rfl,Nat.zero_le _,trivial,h_ (by rw[List.take_zero];exact Z0p),h_ (by have h:=Below.refl w1.heap.size w1;exact⟨h.1,h.2,h.3,h.4,h.5⟩)⟩
                case round=>
                  obtain⟨j,kk,hj,rfl,rfl,lr,hinv,aa,hb⟩:=hrel;obtain⟨A5,M5,bk,rfl⟩:=Z0c aa.o;by_cases fj:j<X.length
                  · obtain⟨bX,oX,rfl,_,Cc⟩:=((Cb.o).below hb.o).get j (iv (X[j]'fj)) (by rw[List.getElem?_map,List.getElem?_eq_getElem fj];rfl)
                    have wH:=h_ (λj' (h':j'<X.length) (h2:j<=j')=>C9.o j j' fj h' h2);obtain⟨x,ju⟩:∃x,X[j]'fj=x:=⟨_,rfl⟩;rw[ju] at wH;have JC:(0:Int)<=(j:Int):=(by omega);have JD:(j:Int)<(X.length:Int):=(by omega);have I0:(j:Int)<5000:=(by have:=nQ.o;omega);have Tt:wr.cell? ⟨bX,oX+j,none⟩=some (.int .i64 x):=(by rw[Cc,ju];rfl);clear Cc;clear hinv lr;go_wp2;generalize Tu:wr=wz at*;go_loopw [16,75] (λiz JE wy=>∃(i cw:Nat),i<=n/\JE=.int .i64 (i:Int)/\iz=.int .i64 (cw:Int)/\cw<=i/\Hid (∀(h0:0<cw) (h:cw-1<l.length),l[cw-1].1<=x)/\Hid (∀i' (h:i'<l.length),cw<=i'->i'<i->x<l[i'].1)/\Hid (Below wz.heap.size wz wy)) (λ_ JE _=>(n-intOf JE).toNat);case atStart=>exact⟨0,0,Nat.zero_le _,rfl,rfl,Nat.le_refl _,h_ (λh=>by omega),h_ (λ_ _ _ h=>by omega),h_ (Below.refl _ _)⟩
                    case round=>
                      obtain⟨i,cw,aX,rfl,rfl,Ad,hle,sB,dd⟩:=hrel;by_cases fS:i<n
                      · have bz:i<l.length:=by rw[<-Hn.o];exact fS
                        obtain⟨bA,oA,rfl,wC,c0,c1⟩:=Z1a (Ha.o.below (an.o.trans ((hb.o.trans (dd.o.mono hb.o.size)).mono an.o.size))) i bz;obtain⟨⟨T,V⟩,hTV⟩:∃y,l[i]=y:=⟨_,rfl⟩;rw[hTV] at c0 c1;simp only at c0 c1;have Tv:(0:Int)<=(i:Int):=(by omega);have Tw:(i:Int)<(n:Int):=(by omega);have Ce:=h_ (dd.o.alloc dd.o.size (.cells #[.int .i64 T,.string V] 33));by_cases JF:T<=x
                        · have pX : Hid (∀ (h0 : 0 < i + 1) (h : i + 1 - 1 < l.length), l[i + 1 - 1].1 <= x) := h_ (λ_ _ => by
                            have:l[i+1-1]'(by omega)=l[i]:=(by congr 1);rw[this,hTV];exact JF)
                          have wI:Hid (∀i' (h:i'<l.length),i+1<=i'->i'<i+1->x<l[i'].1):=h_ (λ_ _ _ _=>by omega);clear hle sB hTV bz dd;go_wp2;refine⟨⟨i+1,i+1,fS,by go_num,by go_num,Nat.le_refl _,pX,wI,Ce⟩,?_⟩;simp[intOf]<;>omega
                        · have wI : Hid (∀ i' (h : i' < l.length), cw <= i' -> i' < i + 1 -> x < l[i'].1) := h_ (λi' h h2 h3 => by
                            rcases Nat.lt_or_ge i' i with h4|h4
                            · exact sB.o i' h h2 h4
                            · have:i'=i:=by omega
                              subst this;rw[hTV];show x<T;omega)
                          have JG:cw<=i+1:=(by omega);clear sB hTV bz dd;go_wp2;refine⟨⟨i+1,cw,fS,by go_num,rfl,JG,hle,wI,Ce⟩,?_⟩;simp[intOf]<;>omega
                      · have JH:i=n:=by omega
                        have gQ:cw<=n:=(by omega);have Hv:Hid (atV b l x=if h0:0<cw then(l[cw-1]'(by have:=Hn.o;omega)).2 else b):=h_ (Zhc (by rw[<-Hn.o];exact gQ) (λi' h h2=>sB.o i' h h2 (by have:=Hn.o;omega)) (λh0=>hle.o h0 _));have a8:=h_ (hb.o.trans (dd.o.mono hb.o.size));have aO:=h_ (Z0v aa.o (Fr.of_below (S:=nob) dd.o) (λ_ _ f=>f));subst JH;clear hle sB aa hb dd;go_wp2;generalize Vg:wr=wv at*;go_loopw [16] (λiz wu=>iz=.int .i64 (cw:Int)/\wu=wv) (λ_ _=>0);case atStart=>exact⟨rfl,rfl⟩
                        case round=>
                        obtain⟨rfl,rfl⟩:=hrel;have bZ:=HX.o j fj;rw[ju] at bZ;by_cases bU:cw=0
                        · have hV:atV b l x=b:=by rw[Hv.o,dif_neg (by omega)]
                          rw[hV] at bZ;obtain⟨v',W',ag,af,aG⟩:=Z2r aO.o a8.o a8.o.size (by have:=nQ.o;omega) (x,b);rw[<-bZ] at af;have ao:=h_ ag;have az:=h_ af;have cQ:=h_ aG;have FI:=True.intro;have Ec:¬(0:Int)<(cw:Int):=(by omega);clear bZ hV ag af aG aO a8 Hv ju bU
                          go_wp2_with (
                            at_builtin;refine Z04 (by with_reducible rfl) rfl _ _ _ rfl _ _ (by rfl) (by rfl) ao.o ?_)
                          refine⟨⟨j+1,cw,fj,by go_num,rfl,gQ,FI,az,cQ⟩,?_⟩;simp[intOf]<;>omega
                        · obtain⟨p,rfl⟩:∃p,cw=p+1:=⟨cw-1,by omega⟩
                          have eS:p<l.length:=(by rw[<-Hn.o];omega);have hV:atV b l x=l[p].2:=(by rw[Hv.o,dif_pos (by omega)];rfl);rw[hV] at bZ;obtain⟨bC,oC,mK,_,cz,c1⟩:=Z1a (Ha.o.below (an.o.trans (a8.o.mono an.o.size))) p eS;first|subst mK|(injection mK with mK;injection mK with q1 q2;subst q1;subst q2)
                          obtain⟨v',W',ag,af,aG⟩:=Z2r aO.o a8.o a8.o.size (by have:=nQ.o;omega) (x,l[p].2);rw[<-bZ] at af;have ao:=h_ ag;have az:=h_ af;have cQ:=h_ aG;have FI:=True.intro;have m1:IntKind.i64.wrap (((p+1:Nat):Int)-1)=(p:Int):=(by rw[IntWalk.i64_in _ (by omega)];omega);have p0:(0:Int)<=(p:Int):=(by omega);have p1:(p:Int)<(i:Int):=(by omega);have p2:(0:Int)<((p+1:Nat):Int):=(by omega);obtain⟨Q,hQ⟩:∃Q:Nat,p+1=Q:=⟨_,rfl⟩;generalize l[p].2=V at*;rw[hQ] at m1 p2 gQ⊢
                          (try rw[hQ] at c0)
                          (try rw[hQ] at wJ)
                          (try rw[hQ] at zK)
                          (try rw[hQ] at wK)
                          clear cz bZ hV ag af aG aO a8 Hv ju eS hQ
                          go_wp2_with (
                            at_builtin;refine Z04 (by with_reducible rfl) rfl _ _ _ rfl _ _ (by rfl) (by rfl) ao.o ?_)
                          refine⟨⟨j+1,Q,fj,by go_num,rfl,gQ,FI,az,cQ⟩,?_⟩;simp[intOf]<;>omega
                  · have wj:j=X.length:=by omega
                    have aV:Hid (ChR wr (.slice A5 M5 bk) R):=h_ (by
                      have h:=aa.o;have hl:R.length=j:=(by rw[Ee.o];omega);rw[List.take_of_length_le (by omega)] at h;exact Z6b (by rw[hl];exact h))
                    have JI:=h_ (an.o.trans (hb.o.mono an.o.size));subst wj;clear aa hb;go_wp2;go_returns;exact⟨_,rfl,aV.o,JI.o⟩
              |true=>
                go_wp2;go_loopw [15,16,67] (λnv iz wG wr=>∃(j kk:Nat),j<=X.length/\wG=.int .i64 (j:Int)/\iz=.int .i64 (kk:Int)/\kk<=n/\Hid (∀i (h:i<l.length),i<kk->∀j' (h':j'<X.length),j<=j'->l[i].1<=X[j'])/\Hid (wr.ownsRow w1.heap.size 33 2 nv j (cv (R.take j)))/\Hid (Below w1.heap.size w1 wr)) (λ_ _ wG _=>(X.length-intOf wG).toNat);case atStart=>exact⟨0,0,Nat.zero_le _,rfl,rfl,Nat.zero_le _,h_ (λ_ _ h=>(by omega)),h_ (by rw[List.take_zero];exact Z0p),h_ (by have h:=Below.refl w1.heap.size w1;exact⟨h.1,h.2,h.3,h.4,h.5⟩)⟩
                case round=>
                  obtain⟨j,kk,hj,rfl,rfl,lr,hinv,aa,hb⟩:=hrel;obtain⟨A5,M5,bk,rfl⟩:=Z0c aa.o;by_cases fj:j<X.length
                  · obtain⟨bX,oX,rfl,_,Cc⟩:=((Cb.o).below hb.o).get j (iv (X[j]'fj)) (by rw[List.getElem?_map,List.getElem?_eq_getElem fj];rfl)
                    have wH:=h_ (λj' (h':j'<X.length) (h2:j<=j')=>C9.o j j' fj h' h2);obtain⟨x,ju⟩:∃x,X[j]'fj=x:=⟨_,rfl⟩;rw[ju] at wH;have JC:(0:Int)<=(j:Int):=(by omega);have JD:(j:Int)<(X.length:Int):=(by omega);have I0:(j:Int)<5000:=(by have:=nQ.o;omega);have Tt:wr.cell? ⟨bX,oX+j,none⟩=some (.int .i64 x):=(by rw[Cc,ju];rfl);clear Cc;have tU:Hid (∀i (h:i<l.length),i<kk->l[i].1<=x):=h_ (λi h h2=>by rw[<-ju];exact hinv.o i h h2 j fj (Nat.le_refl _));have fU:=h_ (Zhs (JB.o.1 (by first|rfl|trivial)));clear hinv;go_wp2;generalize Tu:wr=wz at*;go_loopw [16] (λiz wy=>∃cw:Nat,iz=.int .i64 (cw:Int)/\cw<=n/\Hid (∀i (h:i<l.length),i<cw->l[i].1<=x)/\wy=wz) (λiz _=>(n-intOf iz).toNat);case atStart=>exact⟨kk,rfl,lr,tU,rfl⟩
                    case round=>
                      clear tU lr;obtain⟨cw,rfl,gQ,hle,rfl⟩:=hrel;have wK:(0:Int)<=(cw:Int):=(by omega);by_cases ef:cw<n
                      · have bD:cw<l.length:=by rw[<-Hn.o];exact ef
                        obtain⟨bA,oA,rfl,_,c0,Ef⟩:=Z1a (Ha.o.below (an.o.trans (hb.o.mono an.o.size))) cw bD;have wJ:(cw:Int)<(n:Int):=(by omega);obtain⟨T,hT⟩:∃T,l[cw].1=T:=⟨_,rfl⟩;rw[hT] at c0;by_cases JF:T<=x
                        · have pX : Hid (∀ i (h : i < l.length), i < cw + 1 -> l[i].1 <= x) := h_ (λi h h2 => by
                            rcases Nat.lt_or_ge i cw with h3|h3
                            · exact hle.o i h h3
                            · have:i=cw:=by omega
                              subst this;rw[hT];exact JF)
                          clear hle Ef hT bD;go_wp2;refine⟨⟨cw+1,by go_num,ef,pX,(by first|trivial|rfl)⟩,?_⟩;simp[intOf]<;>omega
                        · have Hv : Hid (atV b l x = if h0 : 0 < cw then (l[cw - 1]'(by omega)).2 else b) := h_ (Zhc (by omega) (λi h h2 => by
                            have h3:=fU.o (i-cw) cw (by omega);have h4:l[cw+(i-cw)]'(by omega)=l[i]:=(by congr 1;omega);rw[h4] at h3;omega) (λh0=>hle.o _ _ (by omega)))
                          have aO:=aa;have a8:=hb;clear Ef hT;have bZ:=HX.o j fj;rw[ju] at bZ;by_cases bU:cw=0
                          · have hV:atV b l x=b:=by rw[Hv.o,dif_neg (by omega)]
                            rw[hV] at bZ;obtain⟨v',W',ag,af,aG⟩:=Z2r aO.o a8.o a8.o.size (by have:=nQ.o;omega) (x,b);rw[<-bZ] at af;have ao:=h_ ag;have az:=h_ af;have cQ:=h_ aG;have FI:=(h_ (λi h h2 j' h' AN=>Int.le_trans (hle.o i h h2) (wH.o j' h' (by omega))):Hid (∀i (h:i<l.length),i<cw->∀j' (h':j'<X.length),j+1<=j'->l[i].1<=X[j']));have Ec:¬(0:Int)<(cw:Int):=(by omega);clear bZ hV ag af aG aO a8 Hv ju hle bU
                            go_wp2_with (
                              at_builtin;refine Z04 (by with_reducible rfl) rfl _ _ _ rfl _ _ (by rfl) (by rfl) ao.o ?_)
                            refine⟨⟨j+1,cw,fj,by go_num,rfl,gQ,FI,az,cQ⟩,?_⟩;simp[intOf]<;>omega
                          · obtain⟨p,rfl⟩:∃p,cw=p+1:=⟨cw-1,by omega⟩
                            have eS:p<l.length:=(by rw[<-Hn.o];omega);have hV:atV b l x=l[p].2:=(by rw[Hv.o,dif_pos (by omega)];rfl);rw[hV] at bZ;obtain⟨bC,oC,mK,_,cz,c1⟩:=Z1a (Ha.o.below (an.o.trans (a8.o.mono an.o.size))) p eS;first|subst mK|(injection mK with mK;injection mK with q1 q2;subst q1;subst q2)
                            obtain⟨v',W',ag,af,aG⟩:=Z2r aO.o a8.o a8.o.size (by have:=nQ.o;omega) (x,l[p].2);rw[<-bZ] at af;have ao:=h_ ag;have az:=h_ af;have cQ:=h_ aG;have FI:=(h_ (λi h h2 j' h' AN=>Int.le_trans (hle.o i h h2) (wH.o j' h' (by omega))):Hid (∀i (h:i<l.length),i<(p+1)->∀j' (h':j'<X.length),j+1<=j'->l[i].1<=X[j']));have m1:IntKind.i64.wrap (((p+1:Nat):Int)-1)=(p:Int):=(by rw[IntWalk.i64_in _ (by omega)];omega);have p0:(0:Int)<=(p:Int):=(by omega);have p1:(p:Int)<(n:Int):=(by omega);have p2:(0:Int)<((p+1:Nat):Int):=(by omega);obtain⟨Q,hQ⟩:∃Q:Nat,p+1=Q:=⟨_,rfl⟩;generalize l[p].2=V at*;rw[hQ] at m1 p2 FI gQ⊢
                            (try rw[hQ] at c0)
                            (try rw[hQ] at wJ)
                            (try rw[hQ] at zK)
                            (try rw[hQ] at wK)
                            clear cz bZ hV ag af aG aO a8 Hv ju eS hQ hle
                            go_wp2_with (
                              at_builtin;refine Z04 (by with_reducible rfl) rfl _ _ _ rfl _ _ (by rfl) (by rfl) ao.o ?_)
                            refine⟨⟨j+1,Q,fj,by go_num,rfl,gQ,FI,az,cQ⟩,?_⟩;simp[intOf]<;>omega
                      · have zK:¬(cw:Int)<(n:Int):=by omega
                        have Hv:Hid (atV b l x=if h0:0<cw then(l[cw-1]'(by have:=Hn.o;omega)).2 else b):=h_ (Zhc (by rw[<-Hn.o];exact gQ) (λi h h2=>by have:=Hn.o;omega) (λh0=>hle.o _ _ (by omega)));have aO:=aa;have a8:=hb;have bZ:=HX.o j fj;rw[ju] at bZ;by_cases bU:cw=0
                        · have hV:atV b l x=b:=by rw[Hv.o,dif_neg (by omega)]
                          rw[hV] at bZ;obtain⟨v',W',ag,af,aG⟩:=Z2r aO.o a8.o a8.o.size (by have:=nQ.o;omega) (x,b);rw[<-bZ] at af;have ao:=h_ ag;have az:=h_ af;have cQ:=h_ aG;have FI:=(h_ (λi h h2 j' h' AN=>Int.le_trans (hle.o i h h2) (wH.o j' h' (by omega))):Hid (∀i (h:i<l.length),i<cw->∀j' (h':j'<X.length),j+1<=j'->l[i].1<=X[j']));have Ec:¬(0:Int)<(cw:Int):=(by omega);clear bZ hV ag af aG aO a8 Hv ju hle bU
                          go_wp2_with (
                            at_builtin;refine Z04 (by with_reducible rfl) rfl _ _ _ rfl _ _ (by rfl) (by rfl) ao.o ?_)
                          refine⟨⟨j+1,cw,fj,by go_num,rfl,gQ,FI,az,cQ⟩,?_⟩;simp[intOf]<;>omega
                        · obtain⟨p,rfl⟩:∃p,cw=p+1:=⟨cw-1,by omega⟩
                          have eS:p<l.length:=(by rw[<-Hn.o];omega);have hV:atV b l x=l[p].2:=(by rw[Hv.o,dif_pos (by omega)];rfl);rw[hV] at bZ;obtain⟨bC,oC,mK,_,cz,c1⟩:=Z1a (Ha.o.below (an.o.trans (a8.o.mono an.o.size))) p eS;first|subst mK|(injection mK with mK;injection mK with q1 q2;subst q1;subst q2)
                          obtain⟨v',W',ag,af,aG⟩:=Z2r aO.o a8.o a8.o.size (by have:=nQ.o;omega) (x,l[p].2);rw[<-bZ] at af;have ao:=h_ ag;have az:=h_ af;have cQ:=h_ aG;have FI:=(h_ (λi h h2 j' h' AN=>Int.le_trans (hle.o i h h2) (wH.o j' h' (by omega))):Hid (∀i (h:i<l.length),i<(p+1)->∀j' (h':j'<X.length),j+1<=j'->l[i].1<=X[j']));have m1:IntKind.i64.wrap (((p+1:Nat):Int)-1)=(p:Int):=(by rw[IntWalk.i64_in _ (by omega)];omega);have p0:(0:Int)<=(p:Int):=(by omega);have p1:(p:Int)<(n:Int):=(by omega);have p2:(0:Int)<((p+1:Nat):Int):=(by omega);obtain⟨Q,hQ⟩:∃Q:Nat,p+1=Q:=⟨_,rfl⟩;generalize l[p].2=V at*;rw[hQ] at m1 p2 FI gQ⊢
                          (try rw[hQ] at c0)
                          (try rw[hQ] at wJ)
                          (try rw[hQ] at zK)
                          (try rw[hQ] at wK)
                          clear cz bZ hV ag af aG aO a8 Hv ju eS hQ hle
                          go_wp2_with (
                            at_builtin;refine Z04 (by with_reducible rfl) rfl _ _ _ rfl _ _ (by rfl) (by rfl) ao.o ?_)
                          refine⟨⟨j+1,Q,fj,by go_num,rfl,gQ,FI,az,cQ⟩,?_⟩;simp[intOf]<;>omega
                  · have wj:j=X.length:=by omega
                    have aV:Hid (ChR wr (.slice A5 M5 bk) R):=h_ (by
                      have h:=aa.o;have hl:R.length=j:=(by rw[Ee.o];omega);rw[List.take_of_length_le (by omega)] at h;exact Z6b (by rw[hl];exact h))
                    have JI:=h_ (an.o.trans (hb.o.mono an.o.size));subst wj;clear aa hb;go_wp2;go_returns;exact⟨_,rfl,aV.o,JI.o⟩
end Go.Proofs.YtchokmkfobandaaGreatDoor
