import Derived.Test.YtchokmkfobandaaGreatDoorM27
import Derived.Test.YtchokmkfobandaaGreatDoorM15
set_option linter.unusedVariables false
set_option linter.unusedSimpArgs false
set_option maxRecDepth 100000
set_option maxHeartbeats 8000000
namespace Go.Proofs.YtchokmkfobandaaGreatDoor
open Go.RowKit Go.Proofs Wv Wv.Vi Wv.Rc Wv.Mo Wv.Ru Wv.Bc
instance:LawfulBEq ByteArray where
 rfl:=(MapKept.bytes_beq _ _).2 rfl
 eq_of_beq h:=(MapKept.bytes_beq _ _).1 h
def cM (ds:List ByteArray):Value->Option Value
 |.string d=>if ds.count d=0 then none else some (.int .i64 (ds.count d:Int))
 |_=>none
theorem ZiH (ds:List ByteArray) (d:ByteArray):cM (ds++[d]) (.string d)=some (.int .i64 ((ds.count d:Int)+1)):=by
 have h:(ds++[d]).count d=ds.count d+1:=(by rw[List.count_append,List.count_singleton_self]);show(if(ds++[d]).count d=0 then none else some (Value.int .i64 ((ds++[d]).count d:Int)))=_;rw[h,Vad (by omega)];rfl
theorem ZfW (ds:List ByteArray) (d:ByteArray) (x:Value) (hx:x≠.string d):cM (ds++[d]) x=cM ds x:=by
 cases x with
 |string y=>
  have hy:d≠y:=λe=>hx (by rw[e])
  have h:(ds++[d]).count y=ds.count y:=by
   rw[List.count_append,List.count_singleton,Vad (by simpa using hy)];rfl
  show(if(ds++[d]).count y=0 then none else some (Value.int .i64 ((ds++[d]).count y:Int)))=_;rw[h];rfl
 |_=>rfl
abbrev MC (w:World) (b:Nat) (ds:List ByteArray):Prop:=MpV .string w b (cM ds)
theorem Zkx (w:World):MC (w.alloc (.map #[] 0)) w.heap.size []:=by
 obtain⟨es,c,h1,h2,h3⟩:=MpV.new .string w;refine⟨es,c,h1,h2,λk hk=>(h3 k hk).trans ?_⟩;cases k<;>rfl
theorem Z48 {w:World} {b:Nat} {ds:List ByteArray} (h:MC w b ds) (d:ByteArray):(Instr.lookup 166 (.map (some b)) (.string d) false).run Tryz.prog w=.ok (.int .i64 (ds.count d:Int)) w:=by
 by_cases h0:ds.count d=0
 ·rw[h0];exact(MpV.miss Tryz.underlying166 Tryz.underlying9 h (.string d) (.int .i64 0) trivial (by show(if ds.count d=0 then none else _)=none;rw[Vaf h0]) (ZbD w)).1
 ·exact(MpV.get Tryz.underlying166 Tryz.underlying9 h (.string d) _ trivial (by show(if ds.count d=0 then none else _)=some _;rw[Vad h0])).1
theorem Zh8 {w:World} {b:Nat} {ds:List ByteArray} (h:MC w b ds) (d:ByteArray):∃w',(Instr.mapUpdate 166 (.map (some b)) (.string d) (.int .i64 ((ds.count d:Int)+1))).run Tryz.prog w=.ok () w'/\MC w' b (ds++[d])/\Fr (λj=>j=b) w w'/\w'.heap.size=w.heap.size:=by
 obtain⟨w',h1,h2,h3,h4⟩:=MpV.put Tryz.underlying166 Tryz.underlying9 h (.string d) (.int .i64 ((ds.count d:Int)+1)) trivial;exact⟨w',h1,h2 _ (ZiH ds d) (ZfW ds d),h3,h4⟩
theorem ZfX (l:List ByteArray) (k:Nat):(difP l k).length<=k:=by
 unfold difP;have:=List.length_filterMap_le (dAt l) (List.range k)
 rwa [Vbv] at this
theorem ZiI (a b:ByteArray) (ha:a.size<=1099511627776) (hb:b.size<=1099511627776) (W:World):
  Calls Tryz.prog 210 #[.string a,.string b] W λx w'=>x=.returned (.tuple #[.string (bs (difV (toL a) (toL b)).1),.bool (difV (toL a) (toL b)).2])/\Below W.heap.size W w':=by
 have:=ZeW (toL a) (toL b) (by rw[Z1];exact ha) (by rw[Z1];exact hb) W;rw[Za,Za] at this;exact this
theorem Yl (a:List ByteArray) (x:ByteArray):svs (a++[x])=svs a++[.string x]:=by simp[svs,sv]
theorem ZcL {α β:Type} (f:β->α->β) (p:β) (l:List α) (j:Nat) (h:j<l.length):(l.take (j+1)).foldl f p=f ((l.take j).foldl f p) l[j]:=by
 rw[Vac h,Vbr];rfl
theorem Z6F (l:List ByteArray) (k:Nat):(difP l k).count (bs [])=0:=by
 rw[List.count_eq_zero];intro h;have:=Zb6 _ h;have h2:=(Yq.1 this).2.1;exact h2 rfl
theorem Z0u {w w':World} {G n:Nat} {e:TypeId} {v:Value} {xs:List Value} (h:w.ownsRow (G+1) e 1 v n xs) (hf:Fr (λj=>j=G) w w'):w'.ownsRow (G+1) e 1 v n xs:=
 Zl h hf (λg hg e=>by have:=(h.lt g hg).1;omega)
theorem Z6G {a w w':World} {G:Nat} (h:Below a.heap.size a w) (hG:a.heap.size<=G) (hf:Fr (λj=>j=G) w w'):Below a.heap.size a w':=
 h.trans (hf.toBelow' h.size (λj hj e=>by omega))
theorem ZfY {w:World} {A:Option Addr} {l:List ByteArray} (ha:At w A (svs l)) (ad:∀s∈l,s.size<=1099511627776) (n cap:Nat) (hn:n=l.length) (hm:n<=9223372036854775807):
  Calls Tryz.prog 167 #[.slice A n cap] w λx w'=>x=.returned (.string (Zw l))/\Below w.heap.size w w':=by
 have he:bs ([]:List UInt8)=⟨#[]⟩:=rfl;rcases Vbm n with h0|cG
 ·subst h0;have hl:l=[]:=Vak hn.symm;have hs:Zw l=⟨#[]⟩:=(by unfold Zw;rw[Vaf (.inl hl)];rfl);rw[hs];clear ha ad hn hl hs he;go_enter Tryz.func167,Tryz.ntmps167;go_wp2;go_returns;exact⟨rfl,Vae _ _⟩
 ·have fl:0<l.length:=(by omega);obtain⟨b0,o0,hA,aD,bP⟩:=Yf ha 0 fl;have dW:l.getD 0 default=l[0]:=getD_at fl;have HV:=h_ (Z0K ha ad n cap hn hm ((l.getD 0 default).size:Int));rw[dW] at HV;subst hA;have ID:w.cell? ⟨b0,o0,none⟩=some (.string l[0]):=bP;have oh:l≠[]:=λe=>(by rw[e] at fl;exact absurd fl (Nat.lt_irrefl _));cases hv:Zy (l[0].size:Int) l with
  |false=>
   have hs:Zw l=⟨#[]⟩:=(by unfold Zw;rw[dW,Vaf (.inr hv)];rfl);rw[hs];rw[hv] at HV;have KW:(0:Int)<(n:Int):=(by omega);have ay:((n:Int)==0)=false:=(by rw[Van];omega);generalize l[0]=S0 at*;clear ha ad hn hs he hv dW bP oh fl;go_enter Tryz.func167,Tryz.ntmps167;go_wp2_with fail;refine(HV.o).mono ?_;rintro x w1 ⟨rfl,a7⟩;go_wp2;go_returns;exact⟨rfl,a7⟩
  |true=>
   have hs:Zw l=stepOf (difs l):=(by unfold Zw;rw[dW,Vad (by rintro(h|h);exact oh h;rw[hv] at h;cases h)]);rw[hs];rw[hv] at HV;have el:l.length<=4096:=(Zz.1 hv).2.2.2;have uO:=λk=>ZfX l k;have gb:=λk=>Ym (difP l k);have Hd:=h_ (λ(v u:ByteArray) (hv:v∈l) (hu:u∈l) W2=>ZiI v u (ad v hv) (ad u hu) W2);have Ha:=h_ ha;have Hn:=h_ hn;have jv:n<=4096:=(by omega);have KW:(0:Int)<(n:Int):=(by omega);have ay:((n:Int)==0)=false:=(by rw[Van];omega);have ze:=h_ uO;have Ng:=h_ gb;generalize l[0]=S0 at*;clear ha ad hn hs he hv dW bP oh fl el uO gb;go_enter Tryz.func167,Tryz.ntmps167;go_wp2_with fail;refine(HV.o).mono ?_;rintro x w1 ⟨rfl,a7⟩;have eW:=Zkx w1;have ka:=ZaC 9 (w1.alloc (.map #[] 0));have wD:=eW.alloc (.cells #[] 9);have BD:=(a7.alloc a7.size (.map #[] 0)).alloc (by rw[World.size_alloc];have:=a7.size;omega) (.cells #[] 9);rw[World.size_alloc] at ka;have cA:=a7.size;obtain⟨G,hG⟩:∃G,w1.heap.size=G:=⟨_,rfl⟩;rw[hG] at ka wD cA;have Eh:=h_ ka;have y9:=h_ wD;have aP:=h_ BD;clear eW ka wD BD a7 HV ID;have jF:= @run_makeMap Tryz.prog;go_wp2;go_loopw [4,5] (λs4 s5 wr=>∃k:Nat,(k=0\/k+1<=n)/\s5=.int .i64 ((k:Int)+1)/\Hid (wr.ownsRow (G+1) 9 1 s4 (dict (difP l k)).length (svs (dict (difP l k))))/\Hid (MC wr G (difP l k))/\Hid (Below w.heap.size w wr)) (λ_ s5 _=>(n-intOf s5).toNat);case atStart=>exact⟨0,.inl rfl,rfl,Eh,y9,aP⟩
   case round=>
    clear Eh y9 aP;obtain⟨k,hk,rfl,aa,uc,hb⟩:=hrel;obtain⟨A5,M5,bo,rfl⟩:=Zg aa.o;by_cases ab:k+1<n
    ·have aX:k+1<l.length:=(by rw[<-Hn.o];exact ab);have mB:k<l.length:=(by omega);have cT:=Ha.o.below hb.o;obtain⟨b,o,eK,cF,hc⟩:=Yf cT k mB;obtain⟨b2,o2,cR,_,dN⟩:=Yf cT (k+1) aX;injection eK with eK;injection eK with h1 h2;subst h1;subst h2;injection cR with cR;injection cR with h1 h2;subst h1;subst h2;have cL:=h_ (Hd.o l[k] l[k+1] (Vaj _) (Vaj _));have oy:=Zb5 l k;unfold dAt at oy;rw[getD_at mB,getD_at aX] at oy;have IE:=ze.o k;have qp:=Ng.o k;obtain⟨S1,my⟩:∃S,l[k]=S:=⟨_,rfl⟩;obtain⟨S2,kD⟩:∃S,l[k+1]=S:=⟨_,rfl⟩;rw[my] at hc cL oy;rw[kD] at dN cL oy;obtain⟨⟨r,q⟩,hr⟩:∃r,difV (toL S1) (toL S2)=r:=⟨_,rfl⟩;rw[hr] at cL oy;simp only at cL oy;obtain⟨X,hX⟩:∃X,bs r=X:=⟨_,rfl⟩;rw[hX] at cL oy;have lx:(dict (difP l k)).length+1<=4096:=(by omega);have ec:=h_ lx;have Bl:=h_ oy;have i1:IntKind.i64.wrap ((k:Int)+1-1)=(k:Int):=(by rw[IntWalk.i64_in _ (by omega)];omega);have ij:IntKind.i64.wrap (k:Int)=(k:Int):=(by rw[IntWalk.i64_in _ (by omega)]);have cg:(0:Int)<=(k:Int):=(by omega);have bk:(k:Int)<(n:Int):=(by omega);have cK:(k:Int)+1<(n:Int):=(by omega);have eN:(0:Int)<=(k:Int)+1:=(by omega);have e2:((k:Int)+1).toNat=k+1:=(by omega);have jK:=h_ hb.o.size;clear aX mB cT my kD hr hX oy IE qp lx;go_upto_region 7 with fail;go_cut [6,7] (λs6 s7 wx=>s6=.string X/\s7=.bool q/\Hid (Below wr.heap.size wr wx))
     case first=>
      clear aa uc hb;go_region_with ((go_at_call 210;with_reducible refine(cL.o _).mono ?_;rintro r w9 ⟨rfl,bz⟩))
      all_goals
       go_wp2;go_meet;case rel=>exact⟨rfl,rfl,h_ (((Vae wr.heap.size wr).drew).trans bz)⟩
     case rest=>
      obtain⟨rfl,rfl,bz⟩:=hcut;have jz:=Zl aa.o (Fr.of_below (S:=nob) bz.o) (λ_ _ f=>f);have lC:=uc.o.below bz.o uc.o.lt;have gS:=hb.o.trans (bz.o.mono jK.o);have qq:=h_ jz;have wE:=h_ lC;have IF:=h_ gS;have W7:=Vas jK.o bz.o.size;cases q with
      |false=>
       have ie:=h_ (show difP l (k+1)=difP l k by have:=Bl.o;simpa using this);clear jz lC gS aa uc hb bz hc dN cL i1 ij e2;go_wp2;refine⟨⟨k+1,.inr ab,by go_num,by rw[ie.o];exact qq,by rw[ie.o];exact wE,IF⟩,?_⟩;simp[intOf]<;>omega
      |true=>
       have ie:=h_ (show difP l (k+1)=difP l k++[X] by have:=Bl.o;simpa using this);have bW:=Z48 lC X;by_cases aO:X∈difP l k
       ·have ub:0<(difP l k).count X:=List.count_pos_iff.2 aO
        have wF:=h_ (show dict (difP l k++[X])=dict (difP l k) by
         rw[YW];unfold Z9W;rw[Vaf ((YL _ _).2 aO)])
        obtain⟨w5,hu,yy,rq,nT⟩:=Zh8 lC X;have fp:=h_ (Z0u jz rq);have bj:=h_ (Z6G gS cA rq);have Tn:=h_ yy;have ir:(difP l k).count X<=4096:=(by have:=List.count_le_length (a:=X) (l:=difP l k);have:=ze.o k;omega);generalize (difP l k).count X=c at*;have To:((c:Int)==0)=false:=(by rw[Van];omega);clear jz lC gS aa uc hb bz hc dN cL i1 ij e2 aO yy rq nT qq wE IF;go_wp2;refine⟨⟨k+1,.inr ab,by go_num,by rw[ie.o,wF.o];exact fp,by rw[ie.o];exact Tn,bj⟩,?_⟩;simp[intOf]<;>omega
       ·have bP:(difP l k).count X=0:=List.count_eq_zero.2 aO
        have wF:=h_ (show dict (difP l k++[X])=dict (difP l k)++[X] by
         rw[YW];unfold Z9W;rw[Vad (λh=>aO ((YL _ _).1 h))])
        obtain⟨v',w6,ag,gE,bQ,_⟩:=Yr (P:=Tryz.prog) 64 9 _ _ Tryz.underlying64 YC rfl (w:=wc) (wb:=wc) jz (Vae _ wc) (by have:=lC.lt;omega) (.string X) rfl (by have:=ec.o;unfold maxLen;omega) (by have:=ec.o;omega);have IG:=lC.below bQ (Vc0 G);have Tp:=Z48 IG X;obtain⟨w7,hu,Nh,y8,Tq⟩:=Zh8 IG X;have BF:=h_ (Z0u gE y8);have oz:=h_ (Z6G (gS.trans (bQ.mono (Nat.le_succ_of_le cA))) cA y8);have Tr:=h_ Nh;have ar:=h_ ag;rw[bP,show((0:Nat):Int)=0 from rfl] at bW Tp hu;rw[show(0:Int)+1=1 from rfl] at hu;clear jz lC gS aa uc hb bz hc dN cL i1 ij e2 aO IG Nh y8 Tq gE bQ ag bP qq wE IF
        go_wp2_with (
         at_builtin;refine Z4 (by with_reducible rfl) rfl _ _ _ rfl _ _ (by rfl) (by rfl) ar.o ?_)
        refine⟨⟨k+1,.inr ab,by go_num,?_,by rw[ie.o];exact Tr,oz⟩,?_⟩
        ·rw[ie.o,wF.o,Vab,Yl];exact BF
        ·simp[intOf]<;>omega
    ·have dY:n-1=k:=(by omega);have bS:¬(k:Int)+1<(n:Int):=(by omega);have yf:difs l=difP l k:=(by unfold difs;rw[<-Hn.o,dY]);obtain⟨A6,gm,ud,bN⟩:=Zm aa.o;injection ud with h1 h2 h3;subst h1;subst h2;subst h3;have hz:=Z6F l k;have fK:=Ng.o k;have sL:=ze.o k;have aT:stepOf (difP l k)=((dict (difP l k)).foldl (Yk (λd=>(difP l k).count d)) (bs [],0)).1:=(by unfold stepOf;rw[Zb7]);have tC:=λj=>ZeJ (λd=>(difP l k).count d) ((dict (difP l k)).take j) (bs [],0) hz.symm;have Ni:=λj (h:j<(dict (difP l k)).length)=>ZcL (Yk (λd=>(difP l k).count d)) (bs [],0) (dict (difP l k)) j h;generalize hD:difP l k=D at*;have aS:=h_ ((congrArg stepOf yf).trans aT);have Ej:=h_ tC;have Nj:=h_ Ni;have bJ:=h_ bN;have Nk:=h_ uc.o;have Ts:(dict D).length<=4096:=(by omega);have z7:=h_ (λx=>(show D.count x<=4096 by have:=List.count_le_length (a:=x) (l:=D);omega));obtain⟨K,hK⟩:∃K,(dict D).length=K:=⟨_,rfl⟩;rw[hK] at Ts;have HK:=h_ hK;have E9:((dict D).length:Int)=(K:Int):=(by rw[hK]);clear aa uc dY yf bN hz fK sL aT tC Ni hD hK Hd hk;go_wp2;go_loopw [8,59] (λs8 IH wx=>∃j:Nat,j<=K/\IH=.int .i64 (j:Int)/\s8=.string (((dict D).take j).foldl (Yk (λd=>D.count d)) (bs [],0)).1/\wx=wr) (λ_ IH _=>(K-intOf IH).toNat);case atStart=>exact⟨0,Var _,rfl,rfl,rfl⟩
     case round=>
      obtain⟨j,hj,rfl,Ek,rfl⟩:=hrel;by_cases gh:j<K
      ·have cP:j<(dict D).length:=(by rw[HK.o];exact gh);obtain⟨b9,o9,rfl,Tt,BG⟩:=Yf bJ.o j cP;have h1:=Ej.o j;have h2:=Nj.o j cP;obtain⟨x,hx⟩:∃x,(dict D)[j]=x:=⟨_,rfl⟩;rw[hx] at BG h2;obtain⟨⟨p1,p2⟩,hp⟩:∃p,((dict D).take j).foldl (Yk (λd=>D.count d)) (bs [],0)=p:=⟨_,rfl⟩;rw[hp] at h1 h2 Ek;simp only at h1 Ek;subst Ek;have bW:=Z48 Nk.o x;have dz:=Z48 Nk.o p1;have a8:Yk (λd=>D.count d) (p1,p2) x=if p2<D.count x then(x,D.count x) else(p1,p2):=rfl
       rw[a8] at h2;have Hn:=h_ h2;rw[<-h1] at dz;clear a8;have cq:=z7.o x;generalize D.count x=cx at*;have gx:(0:Int)<=(j:Int):=(by omega);have oa:(j:Int)<(K:Int):=(by omega);have tM:(j:Int)<((dict D).length:Int):=(by omega);have vG:(j:Int)<(K:Int):=oa;clear cP hx hp h1 h2 Ej Nj;by_cases hg:p2<cx
       ·rw[Vaf hg] at Hn;have Dt:(p2:Int)<(cx:Int):=(by omega);go_wp2;refine⟨⟨j+1,gh,by go_num,by rw[Hn.o],trivial⟩,?_⟩;simp[intOf]<;>omega
       ·rw[Vad hg] at Hn;have Dt:¬(p2:Int)<(cx:Int):=(by omega);go_wp2;refine⟨⟨j+1,gh,by go_num,by rw[Hn.o],trivial⟩,?_⟩;simp[intOf]<;>omega
      ·have BH:j=K:=(by omega);subst Ek;have si:=aS.o;rw[BH,Vai (by rw[HK.o];exact UZz)];go_wp2;go_returns;exact⟨by rw[si];rfl,hb.o⟩
theorem ZfZ {k:Nat} (h:k<4):Wv.Bit.num 2 k=[decide (2<=k),decide (k % 2=1)]:=by
 rcases(show k=0\/k=1\/k=2\/k=3 by omega) with rfl|rfl|rfl|rfl<;>decide
theorem Zg0 (L:List Bool) {c:UInt8} (h:cd c<4):Wv.Bit.putm L ⟨0,2,(cd c:Int)⟩=if 65536<L.length+2 then(L,9) else(L++cbit c,0):=by
 have bH:(⟨0,2,(cd c:Int)⟩:Wv.Bit.Cd).ok=true:=by
  rcases(show cd c=0\/cd c=1\/cd c=2\/cd c=3 by omega) with h|h|h|h<;>rw[h]<;>decide
 have hb:(⟨0,2,(cd c:Int)⟩:Wv.Bit.Cd).bits=cbit c:=by
  have:(⟨0,2,(cd c:Int)⟩:Wv.Bit.Cd).bits=Wv.Bit.num 2 (cd c):=by
   rcases(show cd c=0\/cd c=1\/cd c=2\/cd c=3 by omega) with h|h|h|h<;>rw[h]<;>decide
  rw[this,ZfZ h];rfl
 unfold Wv.Bit.putm;rw[Vaf bH,hb];rfl
theorem Z37 (l:List ByteArray) (j:Nat) (h:j<l.length):ZF (l.take (j+1))=ZF (l.take j)++Xc (toL l[j]):=by
 unfold ZF;rw[Vac h,Vce];simp
theorem Z9m (v:List UInt8) (i:Nat) (h:i<v.length):Xc (v.take (i+1))=Xc (v.take i)++cbit v[i]:=by
 unfold Xc;rw[Vac h,Vce];simp
theorem Zg1 (l:List ByteArray) (j i:Nat) (h:j<l.length) (hi:i<(toL l[j]).length):(ZF (l.take j)++Xc ((toL l[j]).take i)).length+2<=(ZF l).length:=by
 have h1:ZF l=ZF (l.take (j+1))++ZF (l.drop (j+1)):=by
  unfold ZF;rw[<-Vce,Vcc]
 rw[h1,Z37 l j h,Vab,Vab,Vab,Qg,Qg,Vau];omega
def BWr (w0 w:World) (b:Nat) (L:List Bool):Prop:=∃dv,Bio.WrAt w b dv L/\(∀g,dv.ownBlock=some g->w0.heap.size<=g)/\w0.heap.size<=b/\Below w0.heap.size w0 w
theorem Zg2 {w0 w : World} {b : Nat} {L : List Bool} (h : BWr w0 w b L) (hl : L.length <= 65536) {c : UInt8} (hc : cd c < 4) :
    Calls Tryz.prog 164 #[.pointer (some ⟨b,0,none⟩),.agg #[.int .i64 0,.int .i64 2,.int .i64 (cd c:Int)]] w λe w'=>e=.returned (.int .i64 (if 65536<L.length+2 then 9 else 0))/\BWr w0 w' b (if 65536<L.length+2 then L else L++cbit c):=by
  obtain⟨dv,h1,h2,h3,h4⟩:=h;have hp:=Bio.wput0 h1 hl 2 (cd c:Int) (by omega) (by omega) (by omega) (by omega);rw[Zg0 L hc] at hp;refine hp.mono ?_;rintro x w1 ⟨rfl,cO,k1,k2,k3⟩;refine⟨by split<;>rfl,cO,by split<;>rename_i hh<;>simpa [hh] using k1,?_,h3,?_⟩
  · intro g hg
    rcases k3 with k3|k3
    · exact h2 g (by rw[<-k3];exact hg)
    · exact Vas h4.size (k3 g hg)
  · exact h4.trans (k2.toBelow' h4.size (λk hk hf => by
      rcases hf with hf|hf
      · omega
      · have:=h2 k hf;omega))
theorem BWr.below {w0 w w':World} {b:Nat} {L:List Bool} (h:BWr w0 w b L) (hb:Below w.heap.size w w'):BWr w0 w' b L:=by
 obtain⟨dv,h1,h2,h3,h4⟩:=h;exact⟨dv,h1.below hb,h2,h3,h4.trans (hb.mono h4.size)⟩
theorem ZcM {w:World} {A:Option Addr} {l:List ByteArray} (ha:At w A (svs l)) (ad:∀s∈l,s.size<=1099511627776) (iE:∀s∈l,∀c∈toL s,cd c<4) (n cap:Nat) (hn:n=l.length) (hm:n<=4096) (W:Int):
  Calls Tryz.prog 120 #[.agg #[.int .i64 W],.slice A n cap] w λx w'=>x=.returned (.tuple #[.string (bs ((codP l).getD [])),.bool (codP l).isSome])/\Below w.heap.size w w':=by
 have aD:=Zx w (.cells #[.int .i64 W] 127);have HN:=h_ (Bio.newwriter_any (w.alloc (.cells #[.int .i64 W] 127)));have he:bs ([]:List UInt8)=⟨#[]⟩:=rfl;have aH:65536<(ZF l).length->codP l=none:=λh=>(by unfold codP;rw[Vaf h]);have iI:(ZF l).length<=65536->codP l=some (num l.length++toL (Bit.bstr (ZF l))):=λh=>(by unfold codP;rw[Vad (by omega)]);have wG:=h_ aH;have jA:=h_ iI;obtain⟨R,hR⟩:∃R,codP l=R:=⟨_,rfl⟩;rw[hR] at wG jA⊢;have Ha:=h_ ha;have Hn:=h_ hn;have Bq:=h_ iE;have cC:=h_ ad;have aP:=h_ aD;have lD:=h_ (λW2=>Zh (n:Int) (by omega) (by omega) W2);rw[Vav] at lD;have kA:(w.alloc (.cells #[.int .i64 W] 127)).heap.size=w.heap.size+1:=World.size_alloc _ _;rw[kA] at HN;clear ha hn iE ad aD aH iI hR kA;go_enter Tryz.func120,Tryz.ntmps120;go_wp2_with fail;refine(HN.o).mono ?_;rintro x w1 ⟨rfl,eU,a7⟩;have Hw:=h_ (show BWr w w1 (w.heap.size+1) [] from⟨_,eU,(λg hg=>by cases hg),by omega,aP.o.trans (a7.mono (Nat.le_succ _))⟩);clear eU a7 HN aP;go_wp2;go_loopw [13] (λlp wr=>∃j:Nat,j<=n/\lp=.int .i64 (j:Int)/\(ZF (l.take j)).length<=65536/\Hid (BWr w wr (w.heap.size+1) (ZF (l.take j)))) (λlp _=>(n-intOf lp).toNat);case atStart=>exact⟨0,Var _,rfl,Var _,Hw⟩
 case round=>
  clear Hw;obtain⟨j,hj,rfl,hlen,hw⟩:=hrel
  have cF:Below w.heap.size w wr:=by
   obtain⟨_,_,_,_,h4⟩:=hw.o;exact h4
  by_cases ab:j<n
  ·have cP:j<l.length:=(by rw[<-Hn.o];exact ab);obtain⟨b,o,rfl,aW,hc⟩:=Yf (Ha.o.below cF) j cP;have hcs:=Bq.o l[j] (Vaj _);have jJ:=λi h=>Zg1 l j i cP h;have iT:=Z37 l j cP;have An:=cC.o l[j] (Vaj _);obtain⟨S,hS⟩:∃S,l[j]=S:=⟨_,rfl⟩;rw[hS] at hc hcs jJ iT An;obtain⟨V,hV⟩:∃V,toL S=V:=⟨_,rfl⟩;have Tu:S=bs V:=(by rw[<-hV,Za]);rw[hV] at hcs jJ iT;subst Tu;have ga:(bs V).size=V.length:=Z0 V;have ez:Hid (∀(i:Nat) (h:i<V.length) (h2:i<(bs V).size),(bs V)[i]'h2=V[i]'h):=h_ (λi h h2=>Z0c V i h h2);have W9:V.length<=1099511627776:=(by rw[<-ga];exact An);have Tv:=h_ hcs;have Nl:=h_ jJ;have pP:=h_ iT;obtain⟨P,hP⟩:∃P,ZF (l.take j)=P:=⟨_,rfl⟩;rw[hP] at hlen hw Nl pP;have pn:=h_ ga;obtain⟨S,sM⟩:∃S,bs V=S:=⟨_,rfl⟩;rw[sM] at hc ez pn;have av:=h_ hlen;clear hcs jJ iT An hV hP ga sM hS cP cF hlen;go_wp2;rw[pn.o];go_loopw [19] (λwH wx=>∃i:Nat,i<=V.length/\wH=.int .i64 (i:Int)/\(P++Xc (V.take i)).length<=65536/\Hid (BWr w wx (w.heap.size+1) (P++Xc (V.take i)))) (λwH _=>(V.length-intOf wH).toNat);case atStart=>exact⟨0,Var _,rfl,by rw[Vbw];show(P++[]).length<=_;rw[Va3];exact av.o,h_ (by rw[Vbw];show BWr _ _ _ (P++[]);rw[Va3];exact hw.o)⟩
   case round=>
    clear hw hc;obtain⟨i,hi,rfl,iJ,hw⟩:=hrel;by_cases bS:i<V.length
    ·have r7:i<S.size:=(by rw[pn.o];exact bS);have hg:=ez.o i bS r7;have pC:=Tv.o V[i] (Vaj _);have p9:=Nl.o i bS;have wI:=Z9m V i bS;obtain⟨c,hc⟩:∃c,V[i]=c:=⟨_,rfl⟩;rw[hc] at hg pC wI;have Tw:∀h:i<S.size,((S[i]'h).toNat:Int)=(c.toNat:Int):=λh=>(by rw[hg]);have HC:=h_ (λW2=>Qt c W2);rw[Zbn pC] at HC;have HP:=h_ (λW2 (h:BWr w W2 (w.heap.size+1) (P++Xc (V.take i)))=>Zg2 h iJ pC);have BI:=h_ wI;obtain⟨Q,hQ⟩:∃Q,P++Xc (V.take i)=Q:=⟨_,rfl⟩;rw[hQ] at HP iJ p9 hw;have HQ:=h_ hQ;have PV:=Tw r7;have iS:(0:Int)<=(i:Int):=(by omega);have gh:(i:Int)<(V.length:Int):=(by omega);have Tx:(i:Int)<(S.size:Int):=(by omega);generalize (c.toNat:Int)=C at*;clear hc hg wI hQ pC;by_cases dJ:65536<Q.length+2
     ·simp only[Vaf dJ] at HP;have aQ:=h_ (wG.o (by omega));have wJ:=h_ (HP.o wr hw.o);clear p9 iJ dJ HP;go_wp2_with fail;refine(HC.o _).mono ?_;rintro x w1 ⟨rfl,rfl⟩;go_wp2_with fail;refine(wJ.o).mono ?_;rintro x w2 ⟨rfl,gH⟩
      have cF:Below w.heap.size w w2:=by
       obtain⟨_,_,_,_,h4⟩:=gH;exact h4
      clear gH;go_wp2;go_returns;exact⟨by rw[aQ.o];rfl,cF⟩
     ·simp only[Vad dJ] at HP;have wJ:=h_ (HP.o wr hw.o)
      have sN:(P++Xc (V.take (i+1))).length<=65536:=by
       rw[BI.o,<-Vay,HQ.o,Vab];show Q.length+2<=_;omega
      have Ty:=h_ sN;clear p9 iJ dJ HP sN;go_wp2_with fail;refine(HC.o _).mono ?_;rintro x w1 ⟨rfl,rfl⟩;go_wp2_with fail;refine(wJ.o).mono ?_;rintro x w2 ⟨rfl,gH⟩
      have rI:=h_ (show BWr w w2 (w.heap.size+1) (P++Xc (V.take (i+1))) by
       rw[BI.o,<-Vay,HQ.o];exact gH)
      clear gH hw wJ HC;go_wp2;refine⟨⟨i+1,bS,by go_num,Ty.o,rI⟩,?_⟩;simp[intOf]<;>omega
    ·have wK:i=V.length:=by omega
     have Tz:=h_ (show(ZF (l.take (j+1))).length<=65536 by
      rw[pP.o];rw[wK,Vbx] at iJ;exact iJ)
     have TA:=h_ (show BWr w wr (w.heap.size+1) (ZF (l.take (j+1))) by
      have:=hw.o;rw[wK,Vbx] at this;rw[pP.o];exact this)
     clear hw iJ;go_wp2;refine⟨⟨j+1,ab,by go_num,Tz.o,TA⟩,?_⟩;simp[intOf]<;>omega
  ·have iB:j=n:=(by omega);have xR:=hw.o;rw[iB,Vai (by rw[Hn.o];exact UZz)] at hlen xR;have aQ:=h_ (jA.o hlen)
   have xT:=h_ (show(⟨(Bit.pack (ZF l++[true])).toArray⟩:ByteArray).size<=8193 by
    have:=Bit.bstr_size (ZF l);show(Bit.bstr (ZF l)).size<=_;omega)
   obtain⟨dv,h1,h2,h3,h4⟩:=xR;have Nm:=h_ (lD.o wr);have Nn:=h_ (λW2 (h:Bio.WrAt W2 (w.heap.size+1) dv (ZF l))=>Bio.wbytes_any h hlen);have H1:=h_ h1;have H4:=h_ h4;clear h1 h2 h3 h4 hw hlen cF lD Bq cC wG jA;go_wp2_with fail;refine(Nm.o).mono ?_;rintro x w2 ⟨rfl,a8⟩;have BJ:=h_ (Nn.o w2 (H1.o.below a8));have ak:=h_ (H4.o.trans (a8.mono H4.o.size));clear a8 Nm Nn;go_wp2_with fail;refine(BJ.o).mono ?_;rintro x w3 ⟨rfl,af⟩;have aA:=h_ (ak.o.trans (af.mono ak.o.size))
   have mC:bs (num n)++(⟨(Bit.pack (ZF l++[true])).toArray⟩:ByteArray)=bs (num l.length++toL (Bit.bstr (ZF l))):=by
    rw[<-Zf,Za,Hn.o];rfl
   have mu:=h_ mC
   have Hz:Hid ((bs (num n)).size+(⟨(Bit.pack (ZF l++[true])).toArray⟩:ByteArray).size<=1099511627776):=h_ (by
    have h1:=xT.o;have h2:(num n).length<=9:=(by rw[Z8];have:=Y9 n;omega);rw[Z0];omega)
   have hz:=Hz.o;generalize bs (num n)=S1 at*;generalize (⟨(Bit.pack (ZF l++[true])).toArray⟩:ByteArray)=S2 at*;clear af mC BJ;go_wp2;go_returns;exact⟨by rw[aQ.o,Option.getD_some,<-mu.o];rfl,aA.o⟩
end Go.Proofs.YtchokmkfobandaaGreatDoor
