import Derived.Test.YtchokmkfobandaaGreatDoorJ40
set_option linter.unusedVariables false
set_option linter.unusedSimpArgs false
set_option maxRecDepth 100000
set_option maxHeartbeats 8000000
namespace Wv.Sg
def ordP (l:List (Int×ByteArray)) (i:Nat):Prop:=∀j (h:j+1<l.length),j+1<i->l[j].1<=l[j+1].1
theorem Zdx {l:List (Int×ByteArray)} (h:ordP l l.length):∀(d i:Nat) (h2:i+d<l.length),l[i].1<=l[i+d].1
 |0,i,h2=>Int.le_refl _
 |d+1,i,h2=>by
  have h3:=Zdx h d i (by omega);have h4:=h (i+d) (by omega) (by omega);exact Int.le_trans h3 h4
theorem Zje {f t k:Int} (b:ByteArray) (l:List (Int×ByteArray)) (h:itv f t=false\/k<1):smp f t k b l=[]:=by
 have hn:nM f t k= -1:=(by unfold nM;rw[Vaf h]);exact Vaj (by rw[Z48,hn];rfl)
end Wv.Sg
namespace Go.Proofs.YtchokmkfobandaaGreatDoor
open Go.RowKit Go.Proofs Wv Wv.Vi Wv.Bc Wv.Sn Wv.Sg
theorem Z70 {w : World} {A : Option Addr} {b : ByteArray} {l : List (Int × ByteArray)} (ha : At w A (cv l)) (n cap : Nat) (hn : n = l.length) (bo : n <= 1000000) (f t k : Int) (hf : I64 f) (ht : I64 t) (hk : I64 k) :
    Calls Tryz.prog 20 #[.int .i64 f,.int .i64 t,.int .i64 k,.string b,.slice A n cap] w λx w'=>∃v,x=.returned v/\ChR w' v (smp f t k b l)/\Below w.heap.size w w':=by
  have HB:=h_ (λh=>Zje (f:=f) (t:=t) (k:=k) b l h);have HI:Hid (itv f t=(decide (-1<=f)&&decide (f<=t)&&decide (t<=1099511627776))):=h_ rfl;by_cases h1:f< -1
  · have HR:Hid (smp f t k b l=[]):=h_ (HB.o (.inl (by rw[HI.o,Vai (by omega)];rfl)))
    clear ha hn hf ht hk HB HI;go_enter Tryz.func20,Tryz.ntmps20;go_wp2;go_returns;exact⟨_,rfl,by rw[HR.o];exact ChR.nil _,Vae _ _⟩
  · by_cases h2:t<f
    · have HR:Hid (smp f t k b l=[]):=h_ (HB.o (.inl (by rw[HI.o,Vai (show ¬f<=t by omega)];simp)))
      clear ha hn hf ht hk HB HI;go_enter Tryz.func20,Tryz.ntmps20;go_wp2;go_returns;exact⟨_,rfl,by rw[HR.o];exact ChR.nil _,Vae _ _⟩
    · by_cases h3:1099511627776<t
      · have HR:Hid (smp f t k b l=[]):=h_ (HB.o (.inl (by rw[HI.o,Vai (show ¬t<=1099511627776 by omega)];simp)))
        clear ha hn hf ht hk HB HI;go_enter Tryz.func20,Tryz.ntmps20;go_wp2;go_returns;exact⟨_,rfl,by rw[HR.o];exact ChR.nil _,Vae _ _⟩
      · by_cases h4:k<1
        · have HR:Hid (smp f t k b l=[]):=h_ (HB.o (.inr h4))
          clear ha hn hf ht hk HB HI;go_enter Tryz.func20,Tryz.ntmps20;go_wp2;go_returns;exact⟨_,rfl,by rw[HR.o];exact ChR.nil _,Vae _ _⟩
        · have hit:itv f t=true:=by rw[HI.o];simp;omega
          have HM:=h_ (λW=>Z5B f t k hit (by omega) hk W)
          have HX:Hid (∀j (h:j<(ms f t k).length),(smp f t k b l).take (j+1)=(smp f t k b l).take j++[((ms f t k)[j],atV b l (ms f t k)[j])]):=h_ (λj h=>by
            have h5:j<(smp f t k b l).length:=(by unfold smp;rw[Vag];exact h);rw[Vac h5];simp only[smp,Vcg])
          have CO:Hid (∀j j' (h:j<(ms f t k).length) (h':j'<(ms f t k).length),j<=j'->(ms f t k)[j]<=(ms f t k)[j']):=h_ (λj j' h h' BZ=>by
            rw[Z5z,Z5z];have:=Int.mul_le_mul_of_nonneg_right (show(j:Int)<=(j':Int) by omega) (show 0<=k by omega);omega)
          have oe:Hid ((ms f t k).length<=4096):=h_ (by
            rw[Z5y];have:=Zge f t k;omega)
          have Pf:Hid ((smp f t k b l).length=(ms f t k).length):=h_ (by unfold smp;rw[Vag]);have Ha:=h_ ha;have Hn:=h_ hn;generalize smp f t k b l=R at*;generalize ms f t k=X at*;generalize decide (0<=nM f t k)=ok at*;clear ha hn hit HB HI hf ht hk;go_enter Tryz.func20,Tryz.ntmps20;go_wp2_with fail;refine(HM.o _).mono ?_;rintro y w1 ⟨v,rfl,⟨AX,cX,rfl,CP⟩,a7⟩;have ao:=h_ a7;have CQ:=h_ CP;clear CP a7 HM;go_wp2;go_loopw [13,14] (λnF gm wr=>∃(i q:Nat) (o:Bool),1<=i/\(i<=n\/i=1)/\gm=.int .i64 (i:Int)/\nF=.bool o/\Hid (o=true↔ordP l i)/\wr=w1.drewN q) (λ_ gm _=>(n-intOf gm).toNat);case atStart=>exact⟨1,0,true,UZz,.inr rfl,rfl,rfl,h_ ⟨λ_ j h h2=>by omega,λ_=>rfl⟩,rfl⟩
          case round=>
            obtain⟨i,q,o,MX,uP,rfl,rfl,ho,rfl⟩:=hrel;by_cases ab:i<n
            · obtain⟨p,rfl⟩:∃p,i=p+1:=⟨i-1,by omega⟩
              have hp:p<l.length:=(by rw[<-Hn.o];omega);have dB:p+1<l.length:=(by rw[<-Hn.o];omega);obtain⟨bA,oA,rfl,_,c0,EV⟩:=Ye (Ha.o.below ao.o) p hp;obtain⟨WX,WY,nW,_,c1,V1⟩:=Ye (Ha.o.below ao.o) (p+1) dB;injection nW with nW
              injection nW with e1 e2;subst e1;subst e2;clear EV V1
              have al:ordP l (p+1+1)↔ordP l (p+1)/\l[p].1<=l[p+1].1:=by
                constructor
                · exact λh=>⟨λj h2 h3=>h j h2 (by omega),h p dB (by omega)⟩
                · rintro⟨h,h2⟩ j h3 h4
                  rcases Nat.lt_or_ge (j+1) (p+1) with h5|h5
                  · exact h j h3 h5
                  · have:j=p:=by omega
                    subst this;exact h2
              have m1:IntKind.i64.wrap (((p+1:Nat):Int)-1)=(p:Int):=(by rw[IntWalk.i64_in _ (by omega)];omega);have Dy:(0:Int)<=(p:Int):=(by omega);have WZ:(p:Int)<(n:Int):=(by omega);have Kc:(0:Int)<=((p+1:Nat):Int):=(by omega);have Kd:((p+1:Nat):Int)<(n:Int):=(by omega);generalize l[p].1=T0 at*;generalize l[p+1].1=T1 at*;obtain⟨Q,hQ⟩:∃Q:Nat,p+1=Q:=⟨_,rfl⟩;rw[hQ] at c1 m1 Kc Kd uP ho al⊢;clear hQ hp dB ab MX uP;cases o with
              |false=>
                have nK:Hid (false=true↔ordP l (Q+1)):=h_ (by rw[al];exact⟨λh=>(by cases h),λh=>ho.o.2 h.1⟩);clear ho al;go_wp2;go_quiet (fail);go_wp2;refine⟨⟨Q+1,_,false,by omega,.inl (by omega),by go_num,rfl,h_ (by have:=nK.o;simpa using this),rfl⟩,?_⟩;simp[intOf]<;>omega
              |true=>
                by_cases hle:T0<=T1
                · have nK:Hid (true=true↔ordP l (Q+1)):=h_ (by rw[al];exact⟨λ_=>⟨ho.o.1 rfl,hle⟩,λ_=>rfl⟩)
                  clear ho al;go_wp2;go_quiet (fail);go_wp2;refine⟨⟨Q+1,_,true,by omega,.inl (by omega),by go_num,(by first|rfl|(rw[Vao hle])),h_ (by have:=nK.o;simpa using this),rfl⟩,?_⟩;simp[intOf]<;>omega
                · have nK:Hid (false=true↔ordP l (Q+1)):=h_ (by rw[al];exact⟨λh=>(by cases h),λh=>absurd h.2 hle⟩)
                  clear ho al;go_wp2;go_quiet (fail);go_wp2;refine⟨⟨Q+1,_,false,by omega,.inl (by omega),by go_num,(by first|rfl|(rw[Vai (by omega)])),h_ (by have:=nK.o;simpa using this),rfl⟩,?_⟩;simp[intOf]<;>omega
            · have Ke : Hid (o = true ↔ ordP l l.length) := h_ (by
                rw[ho.o];constructor
                · exact λh j h2 h3=>h j h2 (by rw[<-Hn.o] at h3;omega)
                · exact λh j h2 h3=>h j h2 (by rw[<-Hn.o];omega))
              clear ho;cases o with
              |false=>
                go_wp2;go_loopw [15,16,67] (λkx ki xt wr=>∃(j kk:Nat),j<=X.length/\xt=.int .i64 (j:Int)/\ki=.int .i64 (kk:Int)/\kk<=n/\True/\Hid (wr.ownsRow w1.heap.size 33 2 kx j (cv (R.take j)))/\Hid (Below w1.heap.size w1 wr)) (λ_ _ xt _=>(X.length-intOf xt).toNat);case atStart=>exact⟨0,0,Vat _,rfl,rfl,Vat _,trivial,h_ (by rw[Vbw];exact Zk),h_ (by have h:=Vae w1.heap.size w1;exact⟨h.1,h.2,h.3,h.4,h.5⟩)⟩
                case round=>
                  obtain⟨j,kk,hj,rfl,rfl,kI,hinv,aa,hb⟩:=hrel;obtain⟨A5,M5,aY,rfl⟩:=Zd aa.o;by_cases dZ:j<X.length
                  · obtain⟨bX,oX,rfl,_,CR⟩:=((CQ.o).below hb.o).get j (iv (X[j]'dZ)) (by rw[Vbb,Van dZ];rfl)
                    have xu:=h_ (λj' (h':j'<X.length) (h2:j<=j')=>CO.o j j' dZ h' h2);obtain⟨x,jH⟩:∃x,X[j]'dZ=x:=⟨_,rfl⟩;rw[jH] at xu;have Kf:(0:Int)<=(j:Int):=(by omega);have Kg:(j:Int)<(X.length:Int):=(by omega);have J2:(j:Int)<5000:=(by have:=oe.o;omega);have V2:wr.cell? ⟨bX,oX+j,none⟩=some (.int .i64 x):=(by rw[CR,jH];rfl);clear CR;clear hinv kI;go_wp2;generalize V3:wr=wz at*;go_loopw [16,75] (λki Kh wy=>∃(i cu:Nat),i<=n/\Kh=.int .i64 (i:Int)/\ki=.int .i64 (cu:Int)/\cu<=i/\Hid (∀(h0:0<cu) (h:cu-1<l.length),l[cu-1].1<=x)/\Hid (∀i' (h:i'<l.length),cu<=i'->i'<i->x<l[i'].1)/\Hid (Below wz.heap.size wz wy)) (λ_ Kh _=>(n-intOf Kh).toNat);case atStart=>exact⟨0,0,Vat _,rfl,rfl,UZz,h_ (λh=>by omega),h_ (λ_ _ _ h=>by omega),h_ (Vae _ _)⟩
                    case round=>
                      obtain⟨i,cu,aU,rfl,rfl,B0,hle,tc,dj⟩:=hrel;by_cases gi:i<n
                      · have bu:i<l.length:=by rw[<-Hn.o];exact gi
                        obtain⟨bA,oA,rfl,tf,c0,c1⟩:=Ye (Ha.o.below (ao.o.trans ((hb.o.trans (dj.o.mono hb.o.size)).mono ao.o.size))) i bu;obtain⟨⟨T,V⟩,hTV⟩:∃y,l[i]=y:=⟨_,rfl⟩;rw[hTV] at c0 c1;simp only at c0 c1;have V4:(0:Int)<=(i:Int):=(by omega);have V5:(i:Int)<(n:Int):=(by omega);have CT:=h_ (dj.o.alloc dj.o.size (.cells #[.int .i64 T,.string V] 33));by_cases Ki:T<=x
                        · have qk : Hid (∀ (h0 : 0 < i + 1) (h : i + 1 - 1 < l.length), l[i + 1 - 1].1 <= x) := h_ (λ_ _ => by
                            have:l[i+1-1]'(by omega)=l[i]:=(by congr 1);rw[this,hTV];exact Ki)
                          have xv:Hid (∀i' (h:i'<l.length),i+1<=i'->i'<i+1->x<l[i'].1):=h_ (λ_ _ _ _=>by omega);clear hle tc hTV bu dj;go_wp2;refine⟨⟨i+1,i+1,gi,by go_num,by go_num,UZz,qk,xv,CT⟩,?_⟩;simp[intOf]<;>omega
                        · have xv : Hid (∀ i' (h : i' < l.length), cu <= i' -> i' < i + 1 -> x < l[i'].1) := h_ (λi' h h2 h3 => by
                            rcases Nat.lt_or_ge i' i with h4|h4
                            · exact tc.o i' h h2 h4
                            · have:i'=i:=by omega
                              subst this;rw[hTV];show x<T;omega)
                          have Kj:cu<=i+1:=(by omega);clear tc hTV bu dj;go_wp2;refine⟨⟨i+1,cu,gi,by go_num,rfl,Kj,hle,xv,CT⟩,?_⟩;simp[intOf]<;>omega
                      · have Kk:i=n:=by omega
                        have ia:cu<=n:=(by omega);have Hv:Hid (atV b l x=if h0:0<cu then(l[cu-1]'(by have:=Hn.o;omega)).2 else b):=h_ (Zdl (by rw[<-Hn.o];exact ia) (λi' h h2=>tc.o i' h h2 (by have:=Hn.o;omega)) (λh0=>hle.o h0 _));have a8:=h_ (hb.o.trans (dj.o.mono hb.o.size));have aR:=h_ (Zn aa.o (Fr.of_below (S:=nob) dj.o) (λ_ _ f=>f));subst Kk;clear hle tc aa hb dj;go_wp2;generalize hwv:wr=wv at*;go_loopw [16] (λki wu=>ki=.int .i64 (cu:Int)/\wu=wv) (λ_ _=>0);case atStart=>exact⟨rfl,rfl⟩
                        case round=>
                        obtain⟨rfl,rfl⟩:=hrel;have cw:=HX.o j dZ;rw[jH] at cw;by_cases cj:cu=0
                        · have hV:atV b l x=b:=by rw[Hv.o,dif_neg (by omega)]
                          rw[hV] at cw;obtain⟨v',W',ag,ae,aF⟩:=X8 aR.o a8.o a8.o.size (by have:=oe.o;omega) (x,b);rw[<-cw] at ae;have aq:=h_ ag;have aw:=h_ ae;have cE:=h_ aF;have FI:=True.intro;have ET:¬(0:Int)<(cu:Int):=(by omega);clear cw hV ag ae aF aR a8 Hv jH cj
                          go_wp2_with (
                            at_builtin;refine Z3 (by with_reducible rfl) rfl _ _ _ rfl _ _ (by rfl) (by rfl) aq.o ?_)
                          refine⟨⟨j+1,cu,dZ,by go_num,rfl,ia,FI,aw,cE⟩,?_⟩;simp[intOf]<;>omega
                        · obtain⟨p,rfl⟩:∃p,cu=p+1:=⟨cu-1,by omega⟩
                          have fh:p<l.length:=(by rw[<-Hn.o];omega);have hV:atV b l x=l[p].2:=(by rw[Hv.o,dif_pos (by omega)];rfl);rw[hV] at cw;obtain⟨bC,oC,n7,_,cz,c1⟩:=Ye (Ha.o.below (ao.o.trans (a8.o.mono ao.o.size))) p fh;first|subst n7|(injection n7 with n7;injection n7 with q1 q2;subst q1;subst q2)
                          obtain⟨v',W',ag,ae,aF⟩:=X8 aR.o a8.o a8.o.size (by have:=oe.o;omega) (x,l[p].2);rw[<-cw] at ae;have aq:=h_ ag;have aw:=h_ ae;have cE:=h_ aF;have FI:=True.intro;have m1:IntKind.i64.wrap (((p+1:Nat):Int)-1)=(p:Int):=(by rw[IntWalk.i64_in _ (by omega)];omega);have p0:(0:Int)<=(p:Int):=(by omega);have p1:(p:Int)<(i:Int):=(by omega);have p2:(0:Int)<((p+1:Nat):Int):=(by omega);obtain⟨Q,hQ⟩:∃Q:Nat,p+1=Q:=⟨_,rfl⟩;generalize l[p].2=V at*;rw[hQ] at m1 p2 ia⊢
                          (try rw[hQ] at c0)
                          (try rw[hQ] at xw)
                          (try rw[hQ] at AA)
                          (try rw[hQ] at xx)
                          clear cz cw hV ag ae aF aR a8 Hv jH fh hQ
                          go_wp2_with (
                            at_builtin;refine Z3 (by with_reducible rfl) rfl _ _ _ rfl _ _ (by rfl) (by rfl) aq.o ?_)
                          refine⟨⟨j+1,Q,dZ,by go_num,rfl,ia,FI,aw,cE⟩,?_⟩;simp[intOf]<;>omega
                  · have xg:j=X.length:=by omega
                    have aN:Hid (ChR wr (.slice A5 M5 aY) R):=h_ (by
                      have h:=aa.o;have hl:R.length=j:=(by rw[Pf.o];omega);rw[Vah (by omega)] at h;exact Z2d (by rw[hl];exact h))
                    have Kl:=h_ (ao.o.trans (hb.o.mono ao.o.size));subst xg;clear aa hb;go_wp2;go_returns;exact⟨_,rfl,aN.o,Kl.o⟩
              |true=>
                go_wp2;go_loopw [15,16,67] (λkx ki xt wr=>∃(j kk:Nat),j<=X.length/\xt=.int .i64 (j:Int)/\ki=.int .i64 (kk:Int)/\kk<=n/\Hid (∀i (h:i<l.length),i<kk->∀j' (h':j'<X.length),j<=j'->l[i].1<=X[j'])/\Hid (wr.ownsRow w1.heap.size 33 2 kx j (cv (R.take j)))/\Hid (Below w1.heap.size w1 wr)) (λ_ _ xt _=>(X.length-intOf xt).toNat);case atStart=>exact⟨0,0,Vat _,rfl,rfl,Vat _,h_ (λ_ _ h=>(by omega)),h_ (by rw[Vbw];exact Zk),h_ (by have h:=Vae w1.heap.size w1;exact⟨h.1,h.2,h.3,h.4,h.5⟩)⟩
                case round=>
                  obtain⟨j,kk,hj,rfl,rfl,kI,hinv,aa,hb⟩:=hrel;obtain⟨A5,M5,aY,rfl⟩:=Zd aa.o;by_cases dZ:j<X.length
                  · obtain⟨bX,oX,rfl,_,CR⟩:=((CQ.o).below hb.o).get j (iv (X[j]'dZ)) (by rw[Vbb,Van dZ];rfl)
                    have xu:=h_ (λj' (h':j'<X.length) (h2:j<=j')=>CO.o j j' dZ h' h2);obtain⟨x,jH⟩:∃x,X[j]'dZ=x:=⟨_,rfl⟩;rw[jH] at xu;have Kf:(0:Int)<=(j:Int):=(by omega);have Kg:(j:Int)<(X.length:Int):=(by omega);have J2:(j:Int)<5000:=(by have:=oe.o;omega);have V2:wr.cell? ⟨bX,oX+j,none⟩=some (.int .i64 x):=(by rw[CR,jH];rfl);clear CR;have uD:Hid (∀i (h:i<l.length),i<kk->l[i].1<=x):=h_ (λi h h2=>by rw[<-jH];exact hinv.o i h h2 j dZ UZz);have eK:=h_ (Zdx (Ke.o.1 (by first|rfl|trivial)));clear hinv;go_wp2;generalize V3:wr=wz at*;go_loopw [16] (λki wy=>∃cu:Nat,ki=.int .i64 (cu:Int)/\cu<=n/\Hid (∀i (h:i<l.length),i<cu->l[i].1<=x)/\wy=wz) (λki _=>(n-intOf ki).toNat);case atStart=>exact⟨kk,rfl,kI,uD,rfl⟩
                    case round=>
                      clear uD kI;obtain⟨cu,rfl,ia,hle,rfl⟩:=hrel;have xx:(0:Int)<=(cu:Int):=(by omega);by_cases eH:cu<n
                      · have bK:cu<l.length:=by rw[<-Hn.o];exact eH
                        obtain⟨bA,oA,rfl,_,c0,EV⟩:=Ye (Ha.o.below (ao.o.trans (hb.o.mono ao.o.size))) cu bK;have xw:(cu:Int)<(n:Int):=(by omega);obtain⟨T,hT⟩:∃T,l[cu].1=T:=⟨_,rfl⟩;rw[hT] at c0;by_cases Ki:T<=x
                        · have qk : Hid (∀ i (h : i < l.length), i < cu + 1 -> l[i].1 <= x) := h_ (λi h h2 => by
                            rcases Nat.lt_or_ge i cu with h3|h3
                            · exact hle.o i h h3
                            · have:i=cu:=by omega
                              subst this;rw[hT];exact Ki)
                          clear hle EV hT bK;go_wp2;refine⟨⟨cu+1,by go_num,eH,qk,(by first|trivial|rfl)⟩,?_⟩;simp[intOf]<;>omega
                        · have Hv : Hid (atV b l x = if h0 : 0 < cu then (l[cu - 1]'(by omega)).2 else b) := h_ (Zdl (by omega) (λi h h2 => by
                            have h3:=eK.o (i-cu) cu (by omega);have h4:l[cu+(i-cu)]'(by omega)=l[i]:=(by congr 1;omega);rw[h4] at h3;omega) (λh0=>hle.o _ _ (by omega)))
                          have aR:=aa;have a8:=hb;clear EV hT;have cw:=HX.o j dZ;rw[jH] at cw;by_cases cj:cu=0
                          · have hV:atV b l x=b:=by rw[Hv.o,dif_neg (by omega)]
                            rw[hV] at cw;obtain⟨v',W',ag,ae,aF⟩:=X8 aR.o a8.o a8.o.size (by have:=oe.o;omega) (x,b);rw[<-cw] at ae;have aq:=h_ ag;have aw:=h_ ae;have cE:=h_ aF;have FI:=(h_ (λi h h2 j' h' BZ=>Int.le_trans (hle.o i h h2) (xu.o j' h' (by omega))):Hid (∀i (h:i<l.length),i<cu->∀j' (h':j'<X.length),j+1<=j'->l[i].1<=X[j']));have ET:¬(0:Int)<(cu:Int):=(by omega);clear cw hV ag ae aF aR a8 Hv jH hle cj
                            go_wp2_with (
                              at_builtin;refine Z3 (by with_reducible rfl) rfl _ _ _ rfl _ _ (by rfl) (by rfl) aq.o ?_)
                            refine⟨⟨j+1,cu,dZ,by go_num,rfl,ia,FI,aw,cE⟩,?_⟩;simp[intOf]<;>omega
                          · obtain⟨p,rfl⟩:∃p,cu=p+1:=⟨cu-1,by omega⟩
                            have fh:p<l.length:=(by rw[<-Hn.o];omega);have hV:atV b l x=l[p].2:=(by rw[Hv.o,dif_pos (by omega)];rfl);rw[hV] at cw;obtain⟨bC,oC,n7,_,cz,c1⟩:=Ye (Ha.o.below (ao.o.trans (a8.o.mono ao.o.size))) p fh;first|subst n7|(injection n7 with n7;injection n7 with q1 q2;subst q1;subst q2)
                            obtain⟨v',W',ag,ae,aF⟩:=X8 aR.o a8.o a8.o.size (by have:=oe.o;omega) (x,l[p].2);rw[<-cw] at ae;have aq:=h_ ag;have aw:=h_ ae;have cE:=h_ aF;have FI:=(h_ (λi h h2 j' h' BZ=>Int.le_trans (hle.o i h h2) (xu.o j' h' (by omega))):Hid (∀i (h:i<l.length),i<(p+1)->∀j' (h':j'<X.length),j+1<=j'->l[i].1<=X[j']));have m1:IntKind.i64.wrap (((p+1:Nat):Int)-1)=(p:Int):=(by rw[IntWalk.i64_in _ (by omega)];omega);have p0:(0:Int)<=(p:Int):=(by omega);have p1:(p:Int)<(n:Int):=(by omega);have p2:(0:Int)<((p+1:Nat):Int):=(by omega);obtain⟨Q,hQ⟩:∃Q:Nat,p+1=Q:=⟨_,rfl⟩;generalize l[p].2=V at*;rw[hQ] at m1 p2 FI ia⊢
                            (try rw[hQ] at c0)
                            (try rw[hQ] at xw)
                            (try rw[hQ] at AA)
                            (try rw[hQ] at xx)
                            clear cz cw hV ag ae aF aR a8 Hv jH fh hQ hle
                            go_wp2_with (
                              at_builtin;refine Z3 (by with_reducible rfl) rfl _ _ _ rfl _ _ (by rfl) (by rfl) aq.o ?_)
                            refine⟨⟨j+1,Q,dZ,by go_num,rfl,ia,FI,aw,cE⟩,?_⟩;simp[intOf]<;>omega
                      · have AA:¬(cu:Int)<(n:Int):=by omega
                        have Hv:Hid (atV b l x=if h0:0<cu then(l[cu-1]'(by have:=Hn.o;omega)).2 else b):=h_ (Zdl (by rw[<-Hn.o];exact ia) (λi h h2=>by have:=Hn.o;omega) (λh0=>hle.o _ _ (by omega)));have aR:=aa;have a8:=hb;have cw:=HX.o j dZ;rw[jH] at cw;by_cases cj:cu=0
                        · have hV:atV b l x=b:=by rw[Hv.o,dif_neg (by omega)]
                          rw[hV] at cw;obtain⟨v',W',ag,ae,aF⟩:=X8 aR.o a8.o a8.o.size (by have:=oe.o;omega) (x,b);rw[<-cw] at ae;have aq:=h_ ag;have aw:=h_ ae;have cE:=h_ aF;have FI:=(h_ (λi h h2 j' h' BZ=>Int.le_trans (hle.o i h h2) (xu.o j' h' (by omega))):Hid (∀i (h:i<l.length),i<cu->∀j' (h':j'<X.length),j+1<=j'->l[i].1<=X[j']));have ET:¬(0:Int)<(cu:Int):=(by omega);clear cw hV ag ae aF aR a8 Hv jH hle cj
                          go_wp2_with (
                            at_builtin;refine Z3 (by with_reducible rfl) rfl _ _ _ rfl _ _ (by rfl) (by rfl) aq.o ?_)
                          refine⟨⟨j+1,cu,dZ,by go_num,rfl,ia,FI,aw,cE⟩,?_⟩;simp[intOf]<;>omega
                        · obtain⟨p,rfl⟩:∃p,cu=p+1:=⟨cu-1,by omega⟩
                          have fh:p<l.length:=(by rw[<-Hn.o];omega);have hV:atV b l x=l[p].2:=(by rw[Hv.o,dif_pos (by omega)];rfl);rw[hV] at cw;obtain⟨bC,oC,n7,_,cz,c1⟩:=Ye (Ha.o.below (ao.o.trans (a8.o.mono ao.o.size))) p fh;first|subst n7|(injection n7 with n7;injection n7 with q1 q2;subst q1;subst q2)
                          obtain⟨v',W',ag,ae,aF⟩:=X8 aR.o a8.o a8.o.size (by have:=oe.o;omega) (x,l[p].2);rw[<-cw] at ae;have aq:=h_ ag;have aw:=h_ ae;have cE:=h_ aF;have FI:=(h_ (λi h h2 j' h' BZ=>Int.le_trans (hle.o i h h2) (xu.o j' h' (by omega))):Hid (∀i (h:i<l.length),i<(p+1)->∀j' (h':j'<X.length),j+1<=j'->l[i].1<=X[j']));have m1:IntKind.i64.wrap (((p+1:Nat):Int)-1)=(p:Int):=(by rw[IntWalk.i64_in _ (by omega)];omega);have p0:(0:Int)<=(p:Int):=(by omega);have p1:(p:Int)<(n:Int):=(by omega);have p2:(0:Int)<((p+1:Nat):Int):=(by omega);obtain⟨Q,hQ⟩:∃Q:Nat,p+1=Q:=⟨_,rfl⟩;generalize l[p].2=V at*;rw[hQ] at m1 p2 FI ia⊢
                          (try rw[hQ] at c0)
                          (try rw[hQ] at xw)
                          (try rw[hQ] at AA)
                          (try rw[hQ] at xx)
                          clear cz cw hV ag ae aF aR a8 Hv jH fh hQ hle
                          go_wp2_with (
                            at_builtin;refine Z3 (by with_reducible rfl) rfl _ _ _ rfl _ _ (by rfl) (by rfl) aq.o ?_)
                          refine⟨⟨j+1,Q,dZ,by go_num,rfl,ia,FI,aw,cE⟩,?_⟩;simp[intOf]<;>omega
                  · have xg:j=X.length:=by omega
                    have aN:Hid (ChR wr (.slice A5 M5 aY) R):=h_ (by
                      have h:=aa.o;have hl:R.length=j:=(by rw[Pf.o];omega);rw[Vah (by omega)] at h;exact Z2d (by rw[hl];exact h))
                    have Kl:=h_ (ao.o.trans (hb.o.mono ao.o.size));subst xg;clear aa hb;go_wp2;go_returns;exact⟨_,rfl,aN.o,Kl.o⟩
end Go.Proofs.YtchokmkfobandaaGreatDoor
