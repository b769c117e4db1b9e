import Derived.Test.YtikecoijpkmnbaaGreatDoorJ22
set_option linter.all false
set_option maxRecDepth 100000
set_option maxHeartbeats 0
theorem Jm{P:Prop}(h:P:=by unfold ZM;split<;>omega):P:=h
namespace Go.Proofs.Y
open Tryz Wv Go.RowKit
variable{W W1 w2 w3:aq}{c:ax}
theorem KC {w:aq} {g:Nat} (a b:Nat) (l:a<256) (hb:b<256) (h:Bk w g 5 #[.int .u8 (a:Int),.int .u8 (b:Int)]):
  (convert 110 9 (.slice (some (g,0)) 2 2)).run prog w=.ok (.string (bs [UInt8.ofNat a,UInt8.ofNat b])) w:=by refine run_convert_bytes_back w 110 9 5 ⟨g,0,none⟩ 2 [UInt8.ofNat a,UInt8.ofNat b] underlying110 underlying5 underlying9 (λj k=> ?_);have p:j<2:=k;rw[Go.WideShapes.add_plain,jK,h.cell];have:j=0\/j=1:=O;rcases this with rfl|rfl<;>simp[Nat.mod_eq_of_lt, *]
theorem ZmL {t:ax} (h:lx c=some t):t.length<=600000:=by
 unfold lx at h;split at h;exact po;rename_i hc;injection h with h;rw[<-h,Vab];have h9:=rK c;split;exact fj
 have key:∀(i:Nat) (l:List Pc),tL c i l->∀x:Ms×En,(XO l x).2.out<=x.2.out.length+135*(c.length-i):=by
  intro i l hp;induction hp with
  |done=>intro x;show x.2.out.length<=_;omega
  | @step i p l hk r ih=>intro x;obtain⟨o1,o2,o3⟩:=e_ hk O;have cR:=hk.pos;have h1:=ih (lB p x);have h2:=V1 o1 o2 O x;rw[ZbL];omega
 have:=key 0 (parse c) (QL c) (m0,e0);have e:(m0,e0).2.out.length=0:=rfl;rw[e] at this;unfold ji;rw[Vab,MN];simp only[gd,xa];omega
theorem Zko (k:Nat) (c:ax):Zo k c=match lx c with
  |none=>none
  |some t=>some (vk k c t):=by unfold Zo;cases lx c<;>rfl
theorem Zqa {w:aq} {o:Obj} (aa:Below (w.alloc o).drew (w.alloc o).drew w2):w2.heap[w.heap.size]? =some o/\Below w w w2:=
 ⟨(aa.block w (by show w.heap.size<(w.alloc o);simp)).trans (heap_alloc_new w o),((bf w w).alloc aU o).drew.trans (aa.mono (by show w.heap.size<=(w.alloc o);simp))⟩
theorem Zha {k:Nat} (t:k<32) (q:c.length<=4096) {R:ax} (p:pZ (165::UInt8.ofNat k::(bi c.length++c))=R):
  (∀W:aq,(convert 110 9 (.slice (some (W.heap.size,0)) 2 2)).run prog (W.alloc (.cells #[.int .u8 165,.int .u8 (k:Int)] 5))=.ok (.string (bs [165,UInt8.ofNat k])) (W.alloc (.cells #[.int .u8 165,.int .u8 (k:Int)] 5)))/\
  (∀(W w2:aq),w2.heap[W.heap.size]? =some (.cells #[.int .u8 165,.int .u8 (k:Int)] 5)->(convert 110 9 (.slice (some (W.heap.size,0)) 2 2)).run prog w2=.ok (.string (bs [165,UInt8.ofNat k])) w2)/\
  (∀W:aq,cK 75 #[bs c] W (bM W (bs (bi c.length++c))))/\
  (∀W:aq,cK 79 #[.string (bs [165,UInt8.ofNat k]++bs (bi c.length++c))] W (bM W (bs R)))/\(bs [165,UInt8.ofNat k]).size=2/\(bs (bi c.length++c)).size<=10000:=by have g:(165:cj)=UInt8.ofNat 165:=rfl;refine⟨λW=> ?_,λW w2 h=> ?_,λW=> ?_,λW=> ?_,rfl,?_⟩;exact KC 165 k O O (Bk.new W _ _);exact KC 165 k O O h;have h1:=X1 (bs c) Cv W;have l:text (bs c)=bi c.length++c:=(by unfold text;rw[Z0,Zm]);rw[l] at h1;exact h1;have:=Z85 (165::UInt8.ofNat k::(bi c.length++c)) (by have:=rK c;simp only[gd,Vab];omega) W;rw[p] at this;rw[Z9];exact this;have:=rK c;rw[Z0,Vab];omega
theorem bel3 {w:aq} (h1:Below w w W1) (g:Below W1 W1 w2) (k:Below w2 w2 w3):Below w w w3:=
 (h1.trans (g.mono h1.size)).trans (k.mono (co h1.size g.size))
theorem Zqw {w:aq} {o:Obj} (h1:Below w w W1) (g:Below W1 W1 w2) (k:Below (w2.alloc o) (w2.alloc o) w3):Below w w w3:=
 bel3 h1 (g.alloc g.size o) k
def rJ (k:Nat) (c:ax):aI:=.agg #[k,bs c]
theorem Dj (k:Nat) (c8:k<16) (c:ax) (a6:c.length<=1000000000) (w:aq):
  Calls prog 43 #[rJ k c] w (bM w (mV (Zo k c))):=by
 have l:=J (λW=>RH c a6 W);have g:=Zko k c;have b8:bs ([]:ax)=⟨#[]⟩:=rfl;have D:=J ((bf w w).alloc aU (.cells #[k,bs c] 78));have b0:=J (Bk.new w 78 #[k,bs c]);have c5:¬(15:Int)<k:=O;unfold rJ;rcases q:lx c with _|t;.rw[q] at g l;simp only at g;rw[g];have y:mV none=.tuple #[.string ⟨#[]⟩,(9:Int)]:=rfl;rw[y] at l⊢;generalize bs c=S at*;clear q g b8 y a6 b0;go_in;go_wp21;refine aP (l.o _) λw1 p=>?_;have u:=J (D.o.trans (p.mono (by simp)));clear p D;exact EP
 rw[q] at g l;simp only at g;rw[g];have y:mV (some t)=.tuple #[bs t,(0:Int)]:=rfl;have b2:mV (some (vk k c t))=.tuple #[bs (vk k c t),(0:Int)]:=rfl;rw[y] at l;rw[b2];have c9:=C5 q;have z:(bs t).size=t:=Z0 t;have b3:(bs c).size=c:=Z0 c;have b6:vk k c t=pZ (165::UInt8.ofNat (Qx k c t)::(bi (ZM c t).length++ZM c t)):=rfl;have b7:(ZM c t).length<=4096:=Jm;have c3:Qx k c t<32:=(by unfold Qx;split<;>omega);obtain⟨R,B,b4,a0,c6,d3⟩:=Zha c3 b7 b6.symm;obtain⟨k2,a3⟩:=ay (Qx k c t);rw[a3] at R B a0 c6 c3;have a1:((t<c.length/\k2=k+16/\bs (ZM c t)=bs t)\/(¬t.length<c/\k2=k/\bs (ZM c t)=bs c)):=by rw[<-a3];unfold Qx ZM;by_cases h:t<c.length;rw[Vag h,Vag h];exact .inl ⟨h,rfl,rfl⟩;rw[Vae h,Vae h];exact .inr ⟨h,rfl,rfl⟩
 rw[<-z,<-b3] at a1;have a7:IntKind.u8.wrap (k2:Int)=(k2:Int):=(by rw[IntKind.wrap_u8];omega);obtain⟨I,a9,G⟩:=bD b4 a0 B;have b5:=λW:aq=>B W (W.alloc (.cells #[.int .u8 165,.int .u8 (k2:Int)] 5)).drew (heap_alloc_new W _);have c7:(bs t).size<=9000000000000000000/\(bs c).size<=9000000000000000000:=by have:=ZmL q;omega
 generalize bs (vk k c t)=RS at*;generalize bs [165,UInt8.ofNat k2]=S1 at*;generalize bs (bi (ZM c t).length++ZM c t)=S2 at*;generalize bs (ZM c t)=BS at*;generalize bs t=TS at*;generalize bs c=S at*;obtain⟨d6,d7⟩:=c7;have E:=J a1;clear q g b8 y b2 a6 b6 a3 z b3 B b4 a0 c9 b7 a1;go_in;go_wp21;refine aP (l.o _) λw1 p=>?_;have Q:=b0.o.below p (by simp);have F:=Q.cell 0;have q1:=Q.cell 1;simp at F q1;have u:=J (D.o.trans (p.mono (by simp)));clear p D b0 Q l;go_wp2;go_quiet (fail);go_upto_if 33 with fail;go_cut [6,7] (λd1 d2 wx=>d1=k2/\d2=.string BS/\Hid (Below w w wx))
 case first=>
  have b9:=J (mN u.o nq);rcases E.o with ⟨h1,a4,a5⟩|⟨h1,a4,a5⟩;.have hd:decide (TS.size<S.size)=true:=dd h1;have d5:(k:Int)+16=(k2:Int):=O;subst a5;clear E u F q1 I a9 G b5 R a4 a7;go_wp2;go_meet;case rel=>exact⟨rfl,rfl,b9⟩
  have hd:decide (TS.size<S.size)=false:=Vai h1;subst a5;subst a4;clear E u F q1 I a9 G b5 R;go_wp2;go_meet;case rel=>exact⟨rfl,rfl,b9⟩
 obtain⟨rfl,rfl,b1⟩:=hcut;clear u F q1 E c5 c8;go_wp2
 go_region_with (first
  |(go_at_call 75;refine(I.o _).mono ?_;rintro r w2 ⟨rfl,aa⟩;first|(have a8:=Zqa aa;have d4:=G.o _ _ a8.1;have M:=J a8.2;clear aa a8)|(have M:=J (lvB aa);clear aa))
  |(go_at_call 79;refine(a9.o _).mono ?_;rintro r w3 ⟨rfl,a2⟩))
 all_goals
  have c4:Below w w w3:=by
   first
    |exact bel3 b1.o M.o a2
    |exact Zqw b1.o M.o a2
  clear a2;go_wp2;go_returns;exact⟨rfl,c4⟩
theorem Mk {w:aq} (hb:Below (w.alloc (.cells #[(0:Int),.string ⟨#[]⟩] 78)) (w.alloc (.cells #[(0:Int),.string ⟨#[]⟩] 78)) W) (g k:aI):
  (W.cell? (w,0)=(0:Int)/\W.cell? (w,1)=some (.string ⟨#[]⟩)/\W.frozen? (w,0)=false/\W.frozen? (w,1)=false)/\
  (((W.setCell (w,0) g).setCell (w,1) k).cell? (w,0)=some g/\((W.setCell (w,0) g).setCell (w,1) k).cell? (w,1)=some k)/\
  Below w.heap.size w ((W.setCell (w,0) g).setCell (w,1) k):=by have h0:=(Bk.new w 78 #[(0:Int),.string ⟨#[]⟩]).below hb (by simp);have l:=(h0.put 0 g).put 1 k;have q:=((bf w w).alloc aU (.cells #[(0:Int),.string ⟨#[]⟩] 78)).trans (hb.mono (by simp));exact⟨⟨h0.cell 0,h0.cell 1,h0.frozen 0,h0.frozen 1⟩,⟨l.cell 0,l.cell 1⟩,(q.setCell (p:=⟨w,0,none⟩) aU g).setCell (p:=⟨w,1,none⟩) aU k⟩
theorem XP {w:aq} (hb:Below (w.heap.size+1) (w.alloc (.cells #[(0:Int),.string ⟨#[]⟩] 78)) W) (g k:aI):
  (W.cell? (w,0)=(0:Int)/\W.cell? (w,1)=some (.string ⟨#[]⟩)/\W.frozen? (w,0)=false/\W.frozen? (w,1)=false)/\
  (((W.setCell (w,0) g).setCell (w,1) k).cell? (w,0)=some g/\((W.setCell (w,0) g).setCell (w,1) k).cell? (w,1)=some k)/\
  Below w.heap.size w ((W.setCell (w,0) g).setCell (w,1) k):=Mk (by rw[World.size_alloc];exact hb) g k
theorem Bt (S:aT) (w:aq) (o:Obj):
  cK 54 #[S] (w.alloc o) λe w'=>e=.returned (w.heap.size+1,0)/\RV w' (w.heap.size+1) S 0/\Below (w.heap.size+1) (w.alloc o) w'/\w.heap.size+1<=w'.heap.size:=by have h:=ZT S (w.alloc o);rw[World.size_alloc] at h;refine h.mono ?_;rintro e w' ⟨h1,k,g⟩;exact⟨h1,k,g,by have:=g.size;simpa using this⟩
theorem Zs {B b:Nat} {w w1:aq} (h:Below B w w1) (g:B<=w1) (hb:B<=b) (k:Fr (only b) w1 w2):Below B w w2:=
 h.trans (k.toBelow' g (λj l e=>Cz))
section
variable {S RS:aT} {w:aq}
end
section
variable {S RS:aT} {w:aq}
end
end Go.Proofs.Y
namespace Wv
open Go.Proofs.Tryz Go.Proofs.Y
theorem ZtS {data c:ax} {k n:Nat} (h:ZI data=some (k,c,n)):∃b r cU r2,data=165::b::r/\b.toNat<32/\fe r 4096=some (cU,r2)/\4<=r2.length/\n=data.length-(r2.length-4)/\qO (data.take n)=true/\uo b.toNat cU=some c/\k=b.toNat % 16/\Zo k c=some (data.take n):=by
 match data,h with
 |[],h=>cases h
 |[a],h=>cases h
 |a::b::r,h=>
  unfold ZI at h;simp only at h;split at h;exact po;rename_i h1;split at h;exact po;rename_i cU r2 h2;split at h;exact po;split at h;exact po;rename_i h3 h4;split at h;exact po;rename_i c' h5;split at h;.rename_i h6;injection h with h;injection h with e1 h;injection h with e2 e3;subst e1 e2 e3;have ha:a=165:=Decidable.not_not.1 (λk=>h1 (.inl k));subst ha;exact⟨b,r,cU,r2,rfl,O,h2,O,rfl,by simpa using h4,h5,rfl,h6⟩
  cases h
end Wv
namespace Go.Proofs.Y
open Tryz Wv Go.RowKit
variable{c data s:ax}{k n:Nat}{most:Int}
theorem Zu2 (h:qm data most=(s,0)):∃n r,dN data 4096=some (n,r)/\¬most<(n:Int)/\xY r n=some s/\lx s=some data:=by
 have hD:qm data most=match dN data 4096 with
  |none=>([],12)
  |some (n,r)=>if most<(n:Int) then([],2) else match xY r n with
   |none=>([],12)
   |some s=>if lx s=some data then(s,0) else([],12):=rfl
 rw[hD] at h;split at h;exact po;rename_i n r hr;split at h;exact po;rename_i hm;split at h;exact po;rename_i s' hs;split at h;.rename_i hE;injection h with h;subst h;exact⟨n,r,hr,hm,hs,hE⟩
 cases h
theorem ZtI (hd:data.length<=1000000000) (h:qm data most=(s,0)) (w:aq):
  Calls prog 92 #[bs data,most] w (bM w (.tuple #[bs s,(0:Int)])):=by
 obtain⟨n,r,F,a6,t,E⟩:=Zu2 h;have M:=J (ZT (bs data) w);have R:(bs data).size<=1099511627776:=Cv;have k:=J (λ(W:aq) (b:Nat) (h:RV W b (bs data) 0)=>Zk h R 4096);obtain⟨k1,k2,k3⟩:=J0 F;rw[show((4096:Nat):Int)=4096 from rfl] at k1;rw[k1] at k;simp only at k;have l:(bs r).size=r:=Z0 r;have z:Zb (bs r) 0 (r.length:Int)=(bs r,bs [],0):=by rw[Xr aU,pi,wY]
 have D:=J (λ(W:aq) (b:Nat) (h:RV W b (bs r) 0)=>ZA h (by rw[l];omega));have g:=J (λ(W:aq) (b:Nat) (h:RV W b (bs r) 0)=>Zr h (by rw[l];omega) (r.length:Int));rw[z] at g;rw[l] at D;simp only at g;have I:=J (λW=>Zbs r n k2 W);have a4:r.length<=1000000000:=O;have a3:s.length<=1000000000:=by have:=Zni n n [] m0 (d0 r) s (cf _) t;omega
 have G:=J (λW=>RH s a3 W);rw[t,show Ic (some s)=.tuple #[bs s,true] from rfl] at I;rw[E,show mV (some data)=.tuple #[bs data,(0:Int)] from rfl] at G;generalize a2:bs r=RS at*;generalize bs data=S at*;generalize bs s=SS at*;generalize bs ([]:ax)=E0 at*;clear h F t E z k1 k3 a2;go_in;go_wp21;refine aP M.o λw1 ⟨h1,B⟩=>?_;go_wp21;refine aP (k.o _ _ h1) λw2 ⟨q,a0⟩=>?_;have a1:=J (Ze q);have aa:=ZQ B aU a0;go_wp21;refine cp a1.o ?_;go_wp21;refine cp (D.o _ _ q) ?_;go_wp21;refine aP (g.o _ _ q) λw3 ⟨a5,Q⟩=>?_;have p:=ZQ aa aU Q;go_wp21;refine aP (I.o _) λa7 an=>?_;have hb:=p.trans (an.mono p.size);go_wp21;refine aP (G.o _) λa8 y=>?_;have u:=J (hb.trans (y.mono hb.size));clear y hb an p aa B;exact EP
theorem ZtW {S RS:aT} {w:aq} (g7:S.size<=1000000000) (g5:2<=S.size) (g4:∀h:0<S.size,(S[0]'h).toNat=165) {b8:Nat} (g2:∀h:1<S.size,(S[1]'h).toNat=b8) (h7:b8<32) (e4:S.extract 2 S.size=RS) (e8:RS.size<=1000000000) {cU:ax} {ts kb ks:aT} (d4:ZB RS 0 4096=(bs cU,ts,0)) (e3:ts.size<=1000000000) (b6:Zb ts 0 4=(kb,ks,0)) {z:Nat} (e6:z+ks.size=S.size) (F:ax) (hF:S.extract 0 z=bs F) (d5:F.length<=1000000000) (d3:qO F=true) (b9:cU.length<=1000000000) (c6:c.length<=1000000000) (g:uo b8 cU=some c) (d1:Zo (b8 % 16) c=some F):
  Calls prog 53 #[S] w (bM w (.tuple #[rJ (b8 % 16) c,z,decide (16<=b8),true])):=by
 have c4:=J (λW hb b0 b1=>XP (w:=w) (W:=W) hb b0 b1);have b3:=J (Bt RS w (.cells #[(0:Int),.string ⟨#[]⟩] 78));have h6:¬(S.size:Int)<2:=O;have f9:(2:Int)<=S.size:=O;have g3:(1:Int)<S.size:=O;have g6:(0:Int)<S.size:=O;have g1:0<S.size:=O;have h0:1<S.size:=O;have g9:¬(32:Int)<=b8:=O;have I:=J (λ(W:aq) (b:Nat) (h:RV W b RS 0)=>ZY h O 4096);rw[d4] at I;have E:=J (λ(W:aq) (b:Nat) (h:RV W b ts 0)=>Zr h O 4);rw[b6] at E;simp only at I E;have c8:=J (λ(W:aq) (b:Nat) (h:RV W b ks 0)=>ZA h O);have f6:(S.size:Int)-ks.size=(z:Int):=O;have g0:(0:Int)<=z:=O;have f7:(z:Int)<=S.size:=O;have a9:=J (λW=>Qd F d5 W);rw[d3,Vag rfl] at a9;have e9:(b8:Int) % 16=((b8 % 16:Nat):Int):=O;have e7:(b8:Int).tmod 16=((b8 % 16:Nat):Int):=(by rw[Nc O];omega);have q:=J (λW=>Dj (b8 % 16) O c c6 W);rw[d1,show mV (some F)=.tuple #[bs F,(0:Int)] from rfl] at q;unfold rJ at q⊢;obtain⟨sm,B⟩:=ay (decide (16<=b8));have f5:decide ((16:Int)<=b8)=sm:=(by rw[<-B,decide_eq_decide];omega)
 have b5:(sm=false/\cU=c)\/(sm=true/\qm cU 4096=(c,0)):=by unfold uo at g;by_cases h:16<=b8;rw[Vag h] at g;by_cases t:(qm cU 4096).2=0;rw[Vag t] at g;injection g with g;exact .inr ⟨by rw[<-B,dd h],by rw[<-g,<-t]⟩;rw[Vae t] at g;cases g;rw[Vae h] at g;injection g with g;exact .inl ⟨by rw[<-B,Vai h],g⟩
 rw[B];have Q:=J (λ(h:qm cU 4096=(c,0)) W=>ZtI b9 h W);have d7:(sm=false/\bs cU=bs c)\/(sm=true/\qm cU 4096=(c,0)):=by rcases b5 with ⟨h,k⟩|h;exact .inl ⟨h,by rw[k]⟩;exact .inr h
 have c3:=J d7;generalize bs F=FS at*;generalize bs c=CS at*;generalize bs cU=BS at*;obtain⟨k,c9⟩:=ay (b8 % 16);rw[c9] at e9 e7 q⊢;clear d4 b6 e3 e8 d3 d5 e6 c9 c6 b9 g d1 B b5 d7;go_in;go_wp21;refine aP b3.o λw1 ⟨h1,c5,a2⟩=>?_;go_wp21;refine aP (I.o _ _ h1) λw2 ⟨t,a3⟩=>?_;have aa:=Zs c5 a2 aU a3;have a5:=co a2 a3.size;clear h1 a3 c5 a2;go_wp21;refine aP (E.o _ _ t) λw3 ⟨a8,a1⟩=>?_;have c7:=Zs aa a5 aU a1;have a7:=co a5 a1.size;clear t a1 aa a5;have d2:=J (Ze a8);go_wp21;refine cp d2.o ?_;go_wp21;refine cp (c8.o _ _ a8) ?_;go_wp21;refine(a9.o _).mono ?_;rintro x h4 ⟨⟨y,rfl⟩,rfl⟩;clear a8 d2 b3 I E c8 a9;go_upto_if 82 with fail;go_cut [] (λwx=>Hid (Bk wx w3.heap.size 78 #[k,CS])/\Hid (Below (w.heap.size+1) (w.alloc (.cells #[(0:Int),.string ⟨#[]⟩] 78)) wx)/\Hid (w+1<=wx.heap.size))
 case first=>
  have d9:=c7.alloc a7 (.cells #[k,BS] 78);have a4:w+1<=(w3.alloc (.cells #[k,BS] 78)).heap.size:=(by rw[World.size_alloc];omega);have a0:=Bk.new w3 78 #[k,BS];rcases c3.o with ⟨rfl,rfl⟩|⟨rfl,d6⟩;.clear Q q;go_wp2;go_meet;case rel=>exact⟨J a0,J d9,J a4⟩
  have b2:=J (Q.o d6);clear Q q d6;go_wp21;refine aP (b2.o _) λd8 D=>?_;have u:=a0.below D (by simp);have M:=u.cell 0;have q1:=u.cell 1;have g8:=u.frozen 1;simp at M q1;have e1:=J ((d9.trans (D.mono a4)).setCell (p:=⟨w3.heap.size,1,none⟩) a7 (.string CS));have R:Hid (w+1<=(d8.setCell (w3.heap.size,1) (.string CS)).heap.size):=J (by simpa using co a4 D.size);have f2:Hid (Bk (d8.setCell (w3.heap.size,1) (.string CS)) w3.heap.size 78 #[k,CS]):=J (by simpa using u.put 1 (.string CS));have b4:=u.lt;clear D u a0 b2;go_wp2;go_meet;case rel=>exact⟨f2,e1,R⟩
 obtain⟨hF,G,b7⟩:=hcut;have b4:=hF.o.lt;have M:=hF.o.cell 0;have q1:=hF.o.cell 1;simp at M q1;clear Q c3 c7 a7;go_wp21;refine aP (q.o _) λh5 a6=>?_;have l:=hF.o.below a6 hF.o.lt;have b0:=l.cell 0;have b1:=l.cell 1;simp at b0 b1;have e5:=l.lt;obtain⟨⟨c0,c1,f0,f1⟩,⟨f3,f4⟩,G⟩:=c4.o _ (G.o.trans (a6.mono b7.o)) k (.string CS);have e2:=J G;clear G a6 b7 l q c4 M q1 b4;go_wp2_with ((with_reducible show bodyPost _ _ _ _ _ _);refine bodyPost_ret (v:=.tuple #[.agg #[k,CS],z,sm,true]) (by simp[results,results53,go_sem,f3,f4];try rfl) rfl ?_;exact⟨rfl,e2.o⟩)
theorem ZtP (hd:data.length<=1000000000) (h:ZI data=some (k,c,n)) (w:aq):
  cK 53 #[bs data] w λx w'=>∃sm,x=.returned (.tuple #[rJ k c,n,.bool sm,true])/\Below w w w':=by
 obtain⟨b,r,cU,g,rfl,B,y,D,u,z,t,rfl,q⟩:=ZtS h;obtain⟨k1,k2,k3,E⟩:=RT y;have l:(165::b::r).length=r.length+2:=rfl;have F:c.length<=4096:=by have p:=X7 (k:=b.toNat % 16) (c:=c);rw[q] at p;exact of_decide_eq_true p.symm
 rw[l] at hd u;exact(ZtW (S:=bs (165::b::r)) (by rw[Z0,l];exact hd) CC (λh=>by rw[yY _ 0 (by simp) h];rfl) (b8:=b.toNat) (λh=>by rw[yY _ 1 (by simp) h];rfl) B (show(bs (165::b::r)).extract 2 (bs (165::b::r)).size=bs r from Z01 (bs (165::b::r)) 2) Cv (show ZB (bs r) 0 4096=(bs cU,bs g,0) from k1) Cv (show Zb (bs g) 0 4=(bs (g.take 4),bs (g.drop 4),0) from Xr (n:=4) O) (by rw[Z0,Z0,iW,l];omega) _ (show(bs (165::b::r)).extract 0 n=bs ((165::b::r).take n) from Gr (bs (165::b::r)) n) vO z O O t q).mono (λx w' h=>⟨_,h.1,h.2⟩)
theorem Aj (hd:data.length<=1000000000) (h:ZI data=some (k,c,n)) (w:aq):
  Calls prog 28 #[bs data] w (bM w (.tuple #[.agg #[k,bs c],n,(0:Int)])):=by have g:=J (λW=>ZtP hd h W);have q:=J (λW hb u y=>Mk (w:=w) (W:=W) hb u y);unfold rJ at g;generalize bs data=S at*;generalize bs c=CS at*;go_in;go_wp21;refine(g.o _).mono ?_;rintro x w1 ⟨sm,rfl,l⟩;obtain⟨⟨c0,c1,f0,f1⟩,⟨z,B⟩,hB⟩:=q.o _ l k (.string CS);have p:=J (hB.alloc hB.size (.cells #[k,CS] 78));have ab:=l.size;rw[World.size_alloc] at ab;have t:w<w1.heap.size:=O;go_wp2_with ((with_reducible show bodyPost _ _ _ _ _ _);refine bodyPost_ret (v:=.tuple #[.agg #[k,CS],n,(0:Int)]) (by simp[results,results28,go_sem,z,B,t];try rfl) rfl ?_;exact⟨rfl,p.o⟩)
