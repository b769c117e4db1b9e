import Derived.Test.YtchokmkfobandaaGreatDoorJ27
import Derived.Test.YtchokmkfobandaaGreatDoorJ15
set_option linter.unusedVariables false
set_option linter.unusedSimpArgs false
set_option maxRecDepth 100000
set_option maxHeartbeats 8000000
namespace Go.Proofs.YtchokmkfobandaaGreatDoor
open Go.RowKit Go.Proofs Wv Wv.Vi Wv.Rc Wv.Mo Wv.Ru Wv.Bc
instance:LawfulBEq ByteArray where
 rfl:=(MapKept.bytes_beq _ _).2 rfl
 eq_of_beq h:=(MapKept.bytes_beq _ _).1 h
def cM (ds:List ByteArray):Value->Option Value
 |.string d=>if ds.count d=0 then none else some (.int .i64 (ds.count d:Int))
 |_=>none
theorem ZiC (ds:List ByteArray) (d:ByteArray):cM (ds++[d]) (.string d)=some (.int .i64 ((ds.count d:Int)+1)):=by
 have h:(ds++[d]).count d=ds.count d+1:=(by rw[List.count_append,List.count_singleton_self]);show(if(ds++[d]).count d=0 then none else some (Value.int .i64 ((ds++[d]).count d:Int)))=_;rw[h,Vad (by omega)];rfl
theorem ZfR (ds:List ByteArray) (d:ByteArray) (x:Value) (hx:x≠.string d):cM (ds++[d]) x=cM ds x:=by
 cases x with
 |string y=>
  have hy:d≠y:=λe=>hx (by rw[e])
  have h:(ds++[d]).count y=ds.count y:=by
   rw[List.count_append,List.count_singleton,Vad (by simpa using hy)];rfl
  show(if(ds++[d]).count y=0 then none else some (Value.int .i64 ((ds++[d]).count y:Int)))=_;rw[h];rfl
 |_=>rfl
abbrev MC (w:World) (b:Nat) (ds:List ByteArray):Prop:=MpV .string w b (cM ds)
theorem Zkt (w:World):MC (w.alloc (.map #[] 0)) w.heap.size []:=by
 obtain⟨es,c,h1,h2,h3⟩:=MpV.new .string w;refine⟨es,c,h1,h2,λk hk=>(h3 k hk).trans ?_⟩;cases k<;>rfl
theorem Z41 {w:World} {b:Nat} {ds:List ByteArray} (h:MC w b ds) (d:ByteArray):(Instr.lookup 166 (.map (some b)) (.string d) false).run Tryz.prog w=.ok (.int .i64 (ds.count d:Int)) w:=by
 by_cases h0:ds.count d=0
 ·rw[h0];exact(MpV.miss Tryz.underlying166 Tryz.underlying9 h (.string d) (.int .i64 0) trivial (by show(if ds.count d=0 then none else _)=none;rw[Vaf h0]) (ZbC w)).1
 ·exact(MpV.get Tryz.underlying166 Tryz.underlying9 h (.string d) _ trivial (by show(if ds.count d=0 then none else _)=some _;rw[Vad h0])).1
theorem Zh4 {w:World} {b:Nat} {ds:List ByteArray} (h:MC w b ds) (d:ByteArray):∃w',(Instr.mapUpdate 166 (.map (some b)) (.string d) (.int .i64 ((ds.count d:Int)+1))).run Tryz.prog w=.ok () w'/\MC w' b (ds++[d])/\Fr (λj=>j=b) w w'/\w'.heap.size=w.heap.size:=by
 obtain⟨w',h1,h2,h3,h4⟩:=MpV.put Tryz.underlying166 Tryz.underlying9 h (.string d) (.int .i64 ((ds.count d:Int)+1)) trivial;exact⟨w',h1,h2 _ (ZiC ds d) (ZfR ds d),h3,h4⟩
theorem ZfS (l:List ByteArray) (k:Nat):(difP l k).length<=k:=by
 unfold difP;have:=List.length_filterMap_le (dAt l) (List.range k)
 rwa [Vbu] at this
theorem ZiD (a b:ByteArray) (ha:a.size<=1099511627776) (hb:b.size<=1099511627776) (W:World):
  Calls Tryz.prog 210 #[.string a,.string b] W λx w'=>x=.returned (.tuple #[.string (bs (difV (toL a) (toL b)).1),.bool (difV (toL a) (toL b)).2])/\Below W.heap.size W w':=by
 have:=ZeR (toL a) (toL b) (by rw[Z1];exact ha) (by rw[Z1];exact hb) W;rw[Zc,Zc] at this;exact this
theorem Yj (a:List ByteArray) (x:ByteArray):svs (a++[x])=svs a++[.string x]:=by simp[svs,sv]
theorem ZcL {α β:Type} (f:β->α->β) (p:β) (l:List α) (j:Nat) (h:j<l.length):(l.take (j+1)).foldl f p=f ((l.take j).foldl f p) l[j]:=by
 rw[Vac h,Vbq];rfl
theorem Z6C (l:List ByteArray) (k:Nat):(difP l k).count (bs [])=0:=by
 rw[List.count_eq_zero];intro h;have:=Zb5 _ h;have h2:=(Yp.1 this).2.1;exact h2 rfl
theorem Z0r {w w':World} {G n:Nat} {e:TypeId} {v:Value} {xs:List Value} (h:w.ownsRow (G+1) e 1 v n xs) (hf:Fr (λj=>j=G) w w'):w'.ownsRow (G+1) e 1 v n xs:=
 Zn h hf (λg hg e=>by have:=(h.lt g hg).1;omega)
theorem Z6D {a w w':World} {G:Nat} (h:Below a.heap.size a w) (hG:a.heap.size<=G) (hf:Fr (λj=>j=G) w w'):Below a.heap.size a w':=
 h.trans (hf.toBelow' h.size (λj hj e=>by omega))
theorem ZfT {w:World} {A:Option Addr} {l:List ByteArray} (ha:At w A (svs l)) (ad:∀s∈l,s.size<=1099511627776) (n cap:Nat) (hn:n=l.length) (hm:n<=9223372036854775807):
  Calls Tryz.prog 167 #[.slice A n cap] w λx w'=>x=.returned (.string (Zx l))/\Below w.heap.size w w':=by
 have he:bs ([]:List UInt8)=⟨#[]⟩:=rfl;rcases Vbm n with h0|bU
 ·subst h0;have hl:l=[]:=Vaj hn.symm;have hs:Zx l=⟨#[]⟩:=(by unfold Zx;rw[Vaf (.inl hl)];rfl);rw[hs];clear ha ad hn hl hs he;go_enter Tryz.func167,Tryz.ntmps167;go_wp2;go_returns;exact⟨rfl,Vae _ _⟩
 ·have ig:0<l.length:=(by omega);obtain⟨b0,o0,hA,aB,bO⟩:=Yb ha 0 ig;have dS:l.getD 0 default=l[0]:=getD_at ig;have HV:=h_ (Z0I ha ad n cap hn hm ((l.getD 0 default).size:Int));rw[dS] at HV;subst hA;have ID:w.cell? ⟨b0,o0,none⟩=some (.string l[0]):=bO;have od:l≠[]:=λe=>(by rw[e] at ig;exact absurd ig (Nat.lt_irrefl _));cases hv:Zz (l[0].size:Int) l with
  |false=>
   have hs:Zx l=⟨#[]⟩:=(by unfold Zx;rw[dS,Vaf (.inr hv)];rfl);rw[hs];rw[hv] at HV;have L5:(0:Int)<(n:Int):=(by omega);have az:((n:Int)==0)=false:=(by rw[Vam];omega);generalize l[0]=S0 at*;clear ha ad hn hs he hv dS bO od ig;go_enter Tryz.func167,Tryz.ntmps167;go_wp2_with fail;refine(HV.o).mono ?_;rintro x w1 ⟨rfl,a7⟩;go_wp2;go_returns;exact⟨rfl,a7⟩
  |true=>
   have hs:Zx l=stepOf (difs l):=(by unfold Zx;rw[dS,Vad (by rintro(h|h);exact od h;rw[hv] at h;cases h)]);rw[hs];rw[hv] at HV;have eu:l.length<=4096:=(ZA.1 hv).2.2.2;have uO:=λk=>ZfS l k;have gd:=λk=>Yl (difP l k);have Hd:=h_ (λ(v u:ByteArray) (hv:v∈l) (hu:u∈l) W2=>ZiD v u (ad v hv) (ad u hu) W2);have Ha:=h_ ha;have Hn:=h_ hn;have jB:n<=4096:=(by omega);have L5:(0:Int)<(n:Int):=(by omega);have az:((n:Int)==0)=false:=(by rw[Vam];omega);have yX:=h_ uO;have Nj:=h_ gd;generalize l[0]=S0 at*;clear ha ad hn hs he hv dS bO od ig eu uO gd;go_enter Tryz.func167,Tryz.ntmps167;go_wp2_with fail;refine(HV.o).mono ?_;rintro x w1 ⟨rfl,a7⟩;have eV:=Zkt w1;have kl:=ZaB 9 (w1.alloc (.map #[] 0));have wF:=eV.alloc (.cells #[] 9);have Bs:=(a7.alloc a7.size (.map #[] 0)).alloc (by rw[World.size_alloc];have:=a7.size;omega) (.cells #[] 9);rw[World.size_alloc] at kl;have cR:=a7.size;obtain⟨G,hG⟩:∃G,w1.heap.size=G:=⟨_,rfl⟩;rw[hG] at kl wF cR;have Eh:=h_ kl;have xW:=h_ wF;have aL:=h_ Bs;clear eV kl wF Bs a7 HV ID;have jL:= @run_makeMap Tryz.prog;go_wp2;go_loopw [4,5] (λs4 s5 wr=>∃k:Nat,(k=0\/k+1<=n)/\s5=.int .i64 ((k:Int)+1)/\Hid (wr.ownsRow (G+1) 9 1 s4 (dict (difP l k)).length (svs (dict (difP l k))))/\Hid (MC wr G (difP l k))/\Hid (Below w.heap.size w wr)) (λ_ s5 _=>(n-intOf s5).toNat);case atStart=>exact⟨0,.inl rfl,rfl,Eh,xW,aL⟩
   case round=>
    clear Eh xW aL;obtain⟨k,hk,rfl,aa,ua,hb⟩:=hrel;obtain⟨A5,M5,aY,rfl⟩:=Zd aa.o;by_cases ab:k+1<n
    ·have bu:k+1<l.length:=(by rw[<-Hn.o];exact ab);have mw:k<l.length:=(by omega);have cQ:=Ha.o.below hb.o;obtain⟨b,o,dU,cD,hc⟩:=Yb cQ k mw;obtain⟨b2,o2,cO,_,dI⟩:=Yb cQ (k+1) bu;injection dU with dU;injection dU with h1 h2;subst h1;subst h2;injection cO with cO;injection cO with h1 h2;subst h1;subst h2;have cI:=h_ (Hd.o l[k] l[k+1] (Vak _) (Vak _));have oq:=Zb4 l k;unfold dAt at oq;rw[getD_at mw,getD_at bu] at oq;have IE:=yX.o k;have qk:=Nj.o k;obtain⟨S1,mo⟩:∃S,l[k]=S:=⟨_,rfl⟩;obtain⟨S2,kH⟩:∃S,l[k+1]=S:=⟨_,rfl⟩;rw[mo] at hc cI oq;rw[kH] at dI cI oq;obtain⟨⟨r,q⟩,hr⟩:∃r,difV (toL S1) (toL S2)=r:=⟨_,rfl⟩;rw[hr] at cI oq;simp only at cI oq;obtain⟨X,hX⟩:∃X,bs r=X:=⟨_,rfl⟩;rw[hX] at cI oq;have ly:(dict (difP l k)).length+1<=4096:=(by omega);have dX:=h_ ly;have Bb:=h_ oq;have i1:IntKind.i64.wrap ((k:Int)+1-1)=(k:Int):=(by rw[IntWalk.i64_in _ (by omega)];omega);have ij:IntKind.i64.wrap (k:Int)=(k:Int):=(by rw[IntWalk.i64_in _ (by omega)]);have cj:(0:Int)<=(k:Int):=(by omega);have aZ:(k:Int)<(n:Int):=(by omega);have cL:(k:Int)+1<(n:Int):=(by omega);have eJ:(0:Int)<=(k:Int)+1:=(by omega);have e2:((k:Int)+1).toNat=k+1:=(by omega);have jQ:=h_ hb.o.size;clear bu mw cQ mo kH hr hX oq IE qk ly;go_upto_region 7 with fail;go_cut [6,7] (λs6 s7 wx=>s6=.string X/\s7=.bool q/\Hid (Below wr.heap.size wr wx))
     case first=>
      clear aa ua hb;go_region_with ((go_at_call 210;with_reducible refine(cI.o _).mono ?_;rintro r w9 ⟨rfl,bZ⟩))
      all_goals
       go_wp2;go_meet;case rel=>exact⟨rfl,rfl,h_ (((Vae wr.heap.size wr).drew).trans bZ)⟩
     case rest=>
      obtain⟨rfl,rfl,bZ⟩:=hcut;have jF:=Zn aa.o (Fr.of_below (S:=nob) bZ.o) (λ_ _ f=>f);have lD:=ua.o.below bZ.o ua.o.lt;have gT:=hb.o.trans (bZ.o.mono jQ.o);have ql:=h_ jF;have wG:=h_ lD;have IF:=h_ gT;have Wx:=Vaq jQ.o bZ.o.size;cases q with
      |false=>
       have ie:=h_ (show difP l (k+1)=difP l k by have:=Bb.o;simpa using this);clear jF lD gT aa ua hb bZ hc dI cI i1 ij e2;go_wp2;refine⟨⟨k+1,.inr ab,by go_num,by rw[ie.o];exact ql,by rw[ie.o];exact wG,IF⟩,?_⟩;simp[intOf]<;>omega
      |true=>
       have ie:=h_ (show difP l (k+1)=difP l k++[X] by have:=Bb.o;simpa using this);have cC:=Z41 lD X;by_cases aU:X∈difP l k
       ·have u9:0<(difP l k).count X:=List.count_pos_iff.2 aU
        have wH:=h_ (show dict (difP l k++[X])=dict (difP l k) by
         rw[YW];unfold Z9V;rw[Vaf ((YM _ _).2 aU)])
        obtain⟨w5,hu,yt,rn,nO⟩:=Zh4 lD X;have fl:=h_ (Z0r jF rn);have bE:=h_ (Z6D gT cR rn);have Tx:=h_ yt;have iu:(difP l k).count X<=4096:=(by have:=List.count_le_length (a:=X) (l:=difP l k);have:=yX.o k;omega);generalize (difP l k).count X=c at*;have Ty:((c:Int)==0)=false:=(by rw[Vam];omega);clear jF lD gT aa ua hb bZ hc dI cI i1 ij e2 aU yt rn nO ql wG IF;go_wp2;refine⟨⟨k+1,.inr ab,by go_num,by rw[ie.o,wH.o];exact fl,by rw[ie.o];exact Tx,bE⟩,?_⟩;simp[intOf]<;>omega
       ·have bO:(difP l k).count X=0:=List.count_eq_zero.2 aU
        have wH:=h_ (show dict (difP l k++[X])=dict (difP l k)++[X] by
         rw[YW];unfold Z9V;rw[Vad (λh=>aU ((YM _ _).1 h))])
        obtain⟨v',w6,ag,gE,bY,_⟩:=Yq (P:=Tryz.prog) 64 9 _ _ Tryz.underlying64 YC rfl (w:=wc) (wb:=wc) jF (Vae _ wc) (by have:=lD.lt;omega) (.string X) rfl (by have:=dX.o;unfold maxLen;omega) (by have:=dX.o;omega);have IG:=lD.below bY (Vc1 G);have Tz:=Z41 IG X;obtain⟨w7,hu,Nk,xU,TA⟩:=Zh4 IG X;have Bt:=h_ (Z0r gE xU);have ou:=h_ (Z6D (gT.trans (bY.mono (Nat.le_succ_of_le cR))) cR xU);have TD:=h_ Nk;have aq:=h_ ag;rw[bO,show((0:Nat):Int)=0 from rfl] at cC Tz hu;rw[show(0:Int)+1=1 from rfl] at hu;clear jF lD gT aa ua hb bZ hc dI cI i1 ij e2 aU IG Nk xU TA gE bY ag bO ql wG IF
        go_wp2_with (
         at_builtin;refine Z3 (by with_reducible rfl) rfl _ _ _ rfl _ _ (by rfl) (by rfl) aq.o ?_)
        refine⟨⟨k+1,.inr ab,by go_num,?_,by rw[ie.o];exact TD,ou⟩,?_⟩
        ·rw[ie.o,wH.o,Vab,Yj];exact Bt
        ·simp[intOf]<;>omega
    ·have eH:n-1=k:=(by omega);have bQ:¬(k:Int)+1<(n:Int):=(by omega);have y9:difs l=difP l k:=(by unfold difs;rw[<-Hn.o,eH]);obtain⟨A6,iJ,ub,bW⟩:=Zl aa.o;injection ub with h1 h2 h3;subst h1;subst h2;subst h3;have hz:=Z6C l k;have fJ:=Nj.o k;have sJ:=yX.o k;have aQ:stepOf (difP l k)=((dict (difP l k)).foldl (Yi (λd=>(difP l k).count d)) (bs [],0)).1:=(by unfold stepOf;rw[Zb6]);have tB:=λj=>ZeE (λd=>(difP l k).count d) ((dict (difP l k)).take j) (bs [],0) hz.symm;have Nl:=λj (h:j<(dict (difP l k)).length)=>ZcL (Yi (λd=>(difP l k).count d)) (bs [],0) (dict (difP l k)) j h;generalize hD:difP l k=D at*;have aT:=h_ ((congrArg stepOf y9).trans aQ);have Ek:=h_ tB;have Nm:=h_ Nl;have bD:=h_ bW;have Nn:=h_ ua.o;have TE:(dict D).length<=4096:=(by omega);have yR:=h_ (λx=>(show D.count x<=4096 by have:=List.count_le_length (a:=x) (l:=D);omega));obtain⟨K,hK⟩:∃K,(dict D).length=K:=⟨_,rfl⟩;rw[hK] at TE;have HK:=h_ hK;have E9:((dict D).length:Int)=(K:Int):=(by rw[hK]);clear aa ua eH y9 bW hz fJ sJ aQ tB Nl hD hK Hd hk;go_wp2;go_loopw [8,59] (λs8 IH wx=>∃j:Nat,j<=K/\IH=.int .i64 (j:Int)/\s8=.string (((dict D).take j).foldl (Yi (λd=>D.count d)) (bs [],0)).1/\wx=wr) (λ_ IH _=>(K-intOf IH).toNat);case atStart=>exact⟨0,Vat _,rfl,rfl,rfl⟩
     case round=>
      obtain⟨j,hj,rfl,El,rfl⟩:=hrel;by_cases gi:j<K
      ·have cN:j<(dict D).length:=(by rw[HK.o];exact gi);obtain⟨b9,o9,rfl,TF,Bu⟩:=Yb bD.o j cN;have h1:=Ek.o j;have h2:=Nm.o j cN;obtain⟨x,hx⟩:∃x,(dict D)[j]=x:=⟨_,rfl⟩;rw[hx] at Bu h2;obtain⟨⟨p1,p2⟩,hp⟩:∃p,((dict D).take j).foldl (Yi (λd=>D.count d)) (bs [],0)=p:=⟨_,rfl⟩;rw[hp] at h1 h2 El;simp only at h1 El;subst El;have cC:=Z41 Nn.o x;have dt:=Z41 Nn.o p1;have a8:Yi (λd=>D.count d) (p1,p2) x=if p2<D.count x then(x,D.count x) else(p1,p2):=rfl
       rw[a8] at h2;have Hn:=h_ h2;rw[<-h1] at dt;clear a8;have cq:=yR.o x;generalize D.count x=cx at*;have gI:(0:Int)<=(j:Int):=(by omega);have nY:(j:Int)<(K:Int):=(by omega);have tM:(j:Int)<((dict D).length:Int):=(by omega);have vJ:(j:Int)<(K:Int):=nY;clear cN hx hp h1 h2 Ek Nm;by_cases hg:p2<cx
       ·rw[Vaf hg] at Hn;have Dr:(p2:Int)<(cx:Int):=(by omega);go_wp2;refine⟨⟨j+1,gi,by go_num,by rw[Hn.o],trivial⟩,?_⟩;simp[intOf]<;>omega
       ·rw[Vad hg] at Hn;have Dr:¬(p2:Int)<(cx:Int):=(by omega);go_wp2;refine⟨⟨j+1,gi,by go_num,by rw[Hn.o],trivial⟩,?_⟩;simp[intOf]<;>omega
      ·have Bv:j=K:=(by omega);subst El;have se:=aT.o;rw[Bv,Vah (by rw[HK.o];exact UZz)];go_wp2;go_returns;exact⟨by rw[se];rfl,hb.o⟩
theorem ZfU {k:Nat} (h:k<4):Wv.Bit.num 2 k=[decide (2<=k),decide (k % 2=1)]:=by
 rcases(show k=0\/k=1\/k=2\/k=3 by omega) with rfl|rfl|rfl|rfl<;>decide
theorem ZfV (L:List Bool) {c:UInt8} (h:cd c<4):Wv.Bit.putm L ⟨0,2,(cd c:Int)⟩=if 65536<L.length+2 then(L,9) else(L++cbit c,0):=by
 have bH:(⟨0,2,(cd c:Int)⟩:Wv.Bit.Cd).ok=true:=by
  rcases(show cd c=0\/cd c=1\/cd c=2\/cd c=3 by omega) with h|h|h|h<;>rw[h]<;>decide
 have hb:(⟨0,2,(cd c:Int)⟩:Wv.Bit.Cd).bits=cbit c:=by
  have:(⟨0,2,(cd c:Int)⟩:Wv.Bit.Cd).bits=Wv.Bit.num 2 (cd c):=by
   rcases(show cd c=0\/cd c=1\/cd c=2\/cd c=3 by omega) with h|h|h|h<;>rw[h]<;>decide
  rw[this,ZfU h];rfl
 unfold Wv.Bit.putm;rw[Vaf bH,hb];rfl
theorem Z30 (l:List ByteArray) (j:Nat) (h:j<l.length):ZG (l.take (j+1))=ZG (l.take j)++Xd (toL l[j]):=by
 unfold ZG;rw[Vac h,Vce];simp
theorem Z9m (v:List UInt8) (i:Nat) (h:i<v.length):Xd (v.take (i+1))=Xd (v.take i)++cbit v[i]:=by
 unfold Xd;rw[Vac h,Vce];simp
theorem ZfW (l:List ByteArray) (j i:Nat) (h:j<l.length) (hi:i<(toL l[j]).length):(ZG (l.take j)++Xd ((toL l[j]).take i)).length+2<=(ZG l).length:=by
 have h1:ZG l=ZG (l.take (j+1))++ZG (l.drop (j+1)):=by
  unfold ZG;rw[<-Vce,Vcb]
 rw[h1,Z30 l j h,Vab,Vab,Vab,Qe,Qe,Vau];omega
def BWr (w0 w:World) (b:Nat) (L:List Bool):Prop:=∃dv,Bio.WrAt w b dv L/\(∀g,dv.ownBlock=some g->w0.heap.size<=g)/\w0.heap.size<=b/\Below w0.heap.size w0 w
theorem ZfX {w0 w : World} {b : Nat} {L : List Bool} (h : BWr w0 w b L) (hl : L.length <= 65536) {c : UInt8} (hc : cd c < 4) :
    Calls Tryz.prog 164 #[.pointer (some ⟨b,0,none⟩),.agg #[.int .i64 0,.int .i64 2,.int .i64 (cd c:Int)]] w λe w'=>e=.returned (.int .i64 (if 65536<L.length+2 then 9 else 0))/\BWr w0 w' b (if 65536<L.length+2 then L else L++cbit c):=by
  obtain⟨dv,h1,h2,h3,h4⟩:=h;have hp:=Bio.wput0 h1 hl 2 (cd c:Int) (by omega) (by omega) (by omega) (by omega);rw[ZfV L hc] at hp;refine hp.mono ?_;rintro x w1 ⟨rfl,cK,k1,k2,k3⟩;refine⟨by split<;>rfl,cK,by split<;>rename_i hh<;>simpa [hh] using k1,?_,h3,?_⟩
  · intro g hg
    rcases k3 with k3|k3
    · exact h2 g (by rw[<-k3];exact hg)
    · exact Vaq h4.size (k3 g hg)
  · exact h4.trans (k2.toBelow' h4.size (λk hk hf => by
      rcases hf with hf|hf
      · omega
      · have:=h2 k hf;omega))
theorem BWr.below {w0 w w':World} {b:Nat} {L:List Bool} (h:BWr w0 w b L) (hb:Below w.heap.size w w'):BWr w0 w' b L:=by
 obtain⟨dv,h1,h2,h3,h4⟩:=h;exact⟨dv,h1.below hb,h2,h3,h4.trans (hb.mono h4.size)⟩
theorem ZcM {w:World} {A:Option Addr} {l:List ByteArray} (ha:At w A (svs l)) (ad:∀s∈l,s.size<=1099511627776) (iE:∀s∈l,∀c∈toL s,cd c<4) (n cap:Nat) (hn:n=l.length) (hm:n<=4096) (W:Int):
  Calls Tryz.prog 120 #[.agg #[.int .i64 W],.slice A n cap] w λx w'=>x=.returned (.tuple #[.string (bs ((codP l).getD [])),.bool (codP l).isSome])/\Below w.heap.size w w':=by
 have aB:=Zy w (.cells #[.int .i64 W] 127);have HN:=h_ (Bio.newwriter_any (w.alloc (.cells #[.int .i64 W] 127)));have he:bs ([]:List UInt8)=⟨#[]⟩:=rfl;have au:65536<(ZG l).length->codP l=none:=λh=>(by unfold codP;rw[Vaf h]);have iL:(ZG l).length<=65536->codP l=some (num l.length++toL (Bit.bstr (ZG l))):=λh=>(by unfold codP;rw[Vad (by omega)]);have wI:=h_ au;have jG:=h_ iL;obtain⟨R,hR⟩:∃R,codP l=R:=⟨_,rfl⟩;rw[hR] at wI jG⊢;have Ha:=h_ ha;have Hn:=h_ hn;have Bh:=h_ iE;have cH:=h_ ad;have aL:=h_ aB;have lE:=h_ (λW2=>Zh (n:Int) (by omega) (by omega) W2);rw[Vav] at lE;have kF:(w.alloc (.cells #[.int .i64 W] 127)).heap.size=w.heap.size+1:=World.size_alloc _ _;rw[kF] at HN;clear ha hn iE ad aB au iL hR kF;go_enter Tryz.func120,Tryz.ntmps120;go_wp2_with fail;refine(HN.o).mono ?_;rintro x w1 ⟨rfl,eS,a7⟩;have Hw:=h_ (show BWr w w1 (w.heap.size+1) [] from⟨_,eS,(λg hg=>by cases hg),by omega,aL.o.trans (a7.mono (Nat.le_succ _))⟩);clear eS a7 HN aL;go_wp2;go_loopw [13] (λnF wr=>∃j:Nat,j<=n/\nF=.int .i64 (j:Int)/\(ZG (l.take j)).length<=65536/\Hid (BWr w wr (w.heap.size+1) (ZG (l.take j)))) (λnF _=>(n-intOf nF).toNat);case atStart=>exact⟨0,Vat _,rfl,Vat _,Hw⟩
 case round=>
  clear Hw;obtain⟨j,hj,rfl,hlen,hw⟩:=hrel
  have cD:Below w.heap.size w wr:=by
   obtain⟨_,_,_,_,h4⟩:=hw.o;exact h4
  by_cases ab:j<n
  ·have cN:j<l.length:=(by rw[<-Hn.o];exact ab);obtain⟨b,o,rfl,aS,hc⟩:=Yb (Ha.o.below cD) j cN;have hcs:=Bh.o l[j] (Vak _);have jP:=λi h=>ZfW l j i cN h;have j0:=Z30 l j cN;have Ae:=cH.o l[j] (Vak _);obtain⟨S,hS⟩:∃S,l[j]=S:=⟨_,rfl⟩;rw[hS] at hc hcs jP j0 Ae;obtain⟨V,hV⟩:∃V,toL S=V:=⟨_,rfl⟩;have TG:S=bs V:=(by rw[<-hV,Zc]);rw[hV] at hcs jP j0;subst TG;have gb:(bs V).size=V.length:=Z0 V;have eo:Hid (∀(i:Nat) (h:i<V.length) (h2:i<(bs V).size),(bs V)[i]'h2=V[i]'h):=h_ (λi h h2=>Z09 V i h h2);have Wy:V.length<=1099511627776:=(by rw[<-gb];exact Ae);have TH:=h_ hcs;have No:=h_ jP;have pL:=h_ j0;obtain⟨P,hP⟩:∃P,ZG (l.take j)=P:=⟨_,rfl⟩;rw[hP] at hlen hw No pL;have pd:=h_ gb;obtain⟨S,sK⟩:∃S,bs V=S:=⟨_,rfl⟩;rw[sK] at hc eo pd;have av:=h_ hlen;clear hcs jP j0 Ae hV hP gb sK hS cN cD hlen;go_wp2;rw[pd.o];go_loopw [19] (λwJ wx=>∃i:Nat,i<=V.length/\wJ=.int .i64 (i:Int)/\(P++Xd (V.take i)).length<=65536/\Hid (BWr w wx (w.heap.size+1) (P++Xd (V.take i)))) (λwJ _=>(V.length-intOf wJ).toNat);case atStart=>exact⟨0,Vat _,rfl,by rw[Vbw];show(P++[]).length<=_;rw[Va3];exact av.o,h_ (by rw[Vbw];show BWr _ _ _ (P++[]);rw[Va3];exact hw.o)⟩
   case round=>
    clear hw hc;obtain⟨i,hi,rfl,iM,hw⟩:=hrel;by_cases bQ:i<V.length
    ·have qW:i<S.size:=(by rw[pd.o];exact bQ);have hg:=eo.o i bQ qW;have pw:=TH.o V[i] (Vak _);have oY:=No.o i bQ;have wK:=Z9m V i bQ;obtain⟨c,hc⟩:∃c,V[i]=c:=⟨_,rfl⟩;rw[hc] at hg pw wK;have TI:∀h:i<S.size,((S[i]'h).toNat:Int)=(c.toNat:Int):=λh=>(by rw[hg]);have HC:=h_ (λW2=>Qr c W2);rw[Zbm pw] at HC;have HP:=h_ (λW2 (h:BWr w W2 (w.heap.size+1) (P++Xd (V.take i)))=>ZfX h iM pw);have Bw:=h_ wK;obtain⟨Q,hQ⟩:∃Q,P++Xd (V.take i)=Q:=⟨_,rfl⟩;rw[hQ] at HP iM oY hw;have HQ:=h_ hQ;have R5:=TI qW;have iZ:(0:Int)<=(i:Int):=(by omega);have gi:(i:Int)<(V.length:Int):=(by omega);have TJ:(i:Int)<(S.size:Int):=(by omega);generalize (c.toNat:Int)=C at*;clear hc hg wK hQ pw;by_cases dE:65536<Q.length+2
     ·simp only[Vaf dE] at HP;have aN:=h_ (wI.o (by omega));have wN:=h_ (HP.o wr hw.o);clear oY iM dE HP;go_wp2_with fail;refine(HC.o _).mono ?_;rintro x w1 ⟨rfl,rfl⟩;go_wp2_with fail;refine(wN.o).mono ?_;rintro x w2 ⟨rfl,gH⟩
      have cD:Below w.heap.size w w2:=by
       obtain⟨_,_,_,_,h4⟩:=gH;exact h4
      clear gH;go_wp2;go_returns;exact⟨by rw[aN.o];rfl,cD⟩
     ·simp only[Vad dE] at HP;have wN:=h_ (HP.o wr hw.o)
      have uc:(P++Xd (V.take (i+1))).length<=65536:=by
       rw[Bw.o,<-Vay,HQ.o,Vab];show Q.length+2<=_;omega
      have TK:=h_ uc;clear oY iM dE HP uc;go_wp2_with fail;refine(HC.o _).mono ?_;rintro x w1 ⟨rfl,rfl⟩;go_wp2_with fail;refine(wN.o).mono ?_;rintro x w2 ⟨rfl,gH⟩
      have rI:=h_ (show BWr w w2 (w.heap.size+1) (P++Xd (V.take (i+1))) by
       rw[Bw.o,<-Vay,HQ.o];exact gH)
      clear gH hw wN HC;go_wp2;refine⟨⟨i+1,bQ,by go_num,TK.o,rI⟩,?_⟩;simp[intOf]<;>omega
    ·have wO:i=V.length:=by omega
     have TM:=h_ (show(ZG (l.take (j+1))).length<=65536 by
      rw[pL.o];rw[wO,Vbx] at iM;exact iM)
     have TN:=h_ (show BWr w wr (w.heap.size+1) (ZG (l.take (j+1))) by
      have:=hw.o;rw[wO,Vbx] at this;rw[pL.o];exact this)
     clear hw iM;go_wp2;refine⟨⟨j+1,ab,by go_num,TM.o,TN⟩,?_⟩;simp[intOf]<;>omega
  ·have iB:j=n:=(by omega);have xL:=hw.o;rw[iB,Vah (by rw[Hn.o];exact UZz)] at hlen xL;have aN:=h_ (jG.o hlen)
   have xN:=h_ (show(⟨(Bit.pack (ZG l++[true])).toArray⟩:ByteArray).size<=8193 by
    have:=Bit.bstr_size (ZG l);show(Bit.bstr (ZG l)).size<=_;omega)
   obtain⟨dv,h1,h2,h3,h4⟩:=xL;have Np:=h_ (lE.o wr);have Nq:=h_ (λW2 (h:Bio.WrAt W2 (w.heap.size+1) dv (ZG l))=>Bio.wbytes_any h hlen);have H1:=h_ h1;have H4:=h_ h4;clear h1 h2 h3 h4 hw hlen cD lE Bh cH wI jG;go_wp2_with fail;refine(Np.o).mono ?_;rintro x w2 ⟨rfl,a8⟩;have Bx:=h_ (Nq.o w2 (H1.o.below a8));have an:=h_ (H4.o.trans (a8.mono H4.o.size));clear a8 Np Nq;go_wp2_with fail;refine(Bx.o).mono ?_;rintro x w3 ⟨rfl,af⟩;have aJ:=h_ (an.o.trans (af.mono an.o.size))
   have my:bs (num n)++(⟨(Bit.pack (ZG l++[true])).toArray⟩:ByteArray)=bs (num l.length++toL (Bit.bstr (ZG l))):=by
    rw[<-Zg,Zc,Hn.o];rfl
   have mn:=h_ my
   have Hz:Hid ((bs (num n)).size+(⟨(Bit.pack (ZG l++[true])).toArray⟩:ByteArray).size<=1099511627776):=h_ (by
    have h1:=xN.o;have h2:(num n).length<=9:=(by rw[Z7];have:=Y5 n;omega);rw[Z0];omega)
   have hz:=Hz.o;generalize bs (num n)=S1 at*;generalize (⟨(Bit.pack (ZG l++[true])).toArray⟩:ByteArray)=S2 at*;clear af my Bx;go_wp2;go_returns;exact⟨by rw[aN.o,Option.getD_some,<-mn.o];rfl,aJ.o⟩
end Go.Proofs.YtchokmkfobandaaGreatDoor
