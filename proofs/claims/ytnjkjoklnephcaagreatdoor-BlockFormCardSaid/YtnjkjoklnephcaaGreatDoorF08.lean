import Derived.Test.YtnjkjoklnephcaaGreatDoorF07
import Derived.Test.YtnjkjoklnephcaaGreatDoorFShelf
import Derived.Laws.CopyOwn
set_option linter.all false
set_option maxRecDepth 100000
set_option maxHeartbeats 0
open Go.Proofs.Tryz (prog underlying123)
section
variable{P Q:Prop}
theorem rT(h:P:=by rw[lL];omega):P:=h
theorem Cs(h:P:=by rw[Z0];exact F):P:=h
theorem Cz(h:P:=by have:j=b:=e;omega):P:=h
theorem CA(h:P:=by rw[bV,iE];omega):P:=h
theorem E5(h:P:=by have:=Zk h G 4096;rw[l] at this;exact this):P:=h
theorem PA(h:P:=by rcases lc.1 hu with h|h;exact ao.o u h;rw[jv] at h;omega):P:=h
theorem Pt(h:P:=by
 cases j with
 |zero=>simp at hu;subst hu;exact M
 |succ j=>grind):P:=h
theorem IY(h:P:=by exact⟨0,by omega,rfl,Bk.new _ _ _,(bf _ _).alloc aU _,by simp⟩):P:=h
theorem Pj(h:P:=by
 go_wp2;go_round;case rel=>exact⟨k+1,by omega,by go_num,E⟩
 simp[intOf]<;>omega):P:=h
theorem EL(h:P:=by have h1:l.getD k 0=l[k]:=(by simp[List.getD,z]);rw[<-q,h1];exact y.o _ (dt _)):P:=h
theorem EN(h:P:=by have h1:l.getD j 0=l[j]:=(by simp[List.getD,z]);rw[<-q,h1];exact y.o _ (dt _)):P:=h
theorem IU(h:P:=by rw[nj _ _ aU,fh,show n-L.length=(n-(L.length+1))+1 from by omega,pP,List.set_cons_zero];simp):P:=h
theorem O'{P:Prop}(h:P:=by exact((hb.off (p:=⟨w+1,0,none⟩) (by simp) _).off (p:=⟨w+1,1,none⟩) (by simp) _).drew):P:=h
theorem O4(h:P:=by exact((E.setCell (p:=⟨w+1,0,none⟩) (by simp) _).setCell (p:=⟨w+1,1,none⟩) (by simp) _).drew):P:=h
theorem D8(h:P:=by rw[XN _ _ (by rw[c'];exact z)];have h1:(l.map Int.ofNat).getD k 0=((l.getD k 0:Nat):Int):=(by simp[List.getD,z]);rw[h1,q]):P:=h
theorem Ee(h:P:=by rw[XN _ _ (by rw[c'];exact z)];have h1:(l.map Int.ofNat).getD j 0=((l.getD j 0:Nat):Int):=(by simp[List.getD,z]);rw[h1,q]):P:=h
theorem Oh(h:P:=by rcases l with l|l;exact h.apart g (l▸R);intro p;have k:some g=some w.heap.size:=R.symm.trans l;injection k with k;have:=(h.own2.lt g p).2;omega):P:=h
theorem NM(h:P:=by clear G g a2 B a8;go_wp2;go_returns;have t:=b4.o;rw[ZkY] at t;exact⟨.slice (some ⟨w1,0,none⟩) j j,rfl,⟨some ⟨w1,0,none⟩,j,by rw[c',I.o,<-d.o],t⟩,E⟩):P:=h
theorem NJ(h:P:=by
 have t:=J q;have k:=J G;clear q g G l;go_wp2;go_roundw;case rel=>exact⟨j+1,by omega,by go_num,t.o,E.setCell (p:=⟨w,j,none⟩) aU _,by simpa using k.o⟩
 simp[intOf]<;>omega):P:=h
theorem NC(h:P:=by subst q;refine wpList_plain g λK k=> ?_;unfold Oper.wp execOp;simp only[p,resolve,invoke,builtin,Sem.run_bind,Sem.run_pure,Result.andThen_ok,List.map_toArray,tR,List.map_nil,F,D,B];exact k _ _ h):P:=h
theorem Nu(h:P:=by
 induction j with
 |zero=>intro m t e;exact aU
 |succ j ih=>intro m t e;rw[fM];have h1:=ih (2*m+n/2 ^ j % 2) (t.set m (Yd (t.getD m 0) (n/2 ^ j % 2))) (nG (t.getD m 0) (n/2 ^ j % 2) e);have L:=FR (t.getD m 0) (n/2 ^ j % 2) e;omega):P:=h
theorem K8(h:P:=by
 clear F a3 a7 a6 b5 G g t u q I a8 b0 b2 a2 E a1 a9;go_wp21;refine cp b6.o ?_;go_wp21;refine aP b3.o λb8 ⟨d1,d⟩=>?_;have l:=a0.o.fr d (λe=>M.o.2 e.symm);have an:Below w w b8:=L.o.trans (d.toBelow' L.o.size (λi hi e=>by have:i=w.heap.size:=e;omega));have k:=Ha.o.below an;go_wp2;go_roundw;case rel=>exact⟨j+1,by omega,by go_num,rfl,by rw[b9.o];exact d1,by rw[b7.o];exact l,k,an⟩
 simp[intOf]<;>omega):P:=h
theorem KK(h:P:=by
 have z:k<l:=(by rw[<-d.o];exact ab);obtain⟨v,q⟩:=ay (l.getD k 0);have a5:v<4096:=by have h1:l.getD k 0=l[k]:=(by simp[List.getD,z]);rw[<-q,h1];exact y.o _ (dt _)
 obtain⟨f9,g3,S,D,b1⟩:=Ha.o.get k v (by rw[XN _ _ (by rw[c'];exact z)];have h1:(l.map Int.ofNat).getD k 0=((l.getD k 0:Nat):Int):=(by simp[List.getD,z]);rw[h1,q]);subst S;have a1:¬(v:Int)<0:=(by omega);have a2:¬(4096:Int)<=v:=(by omega);clear q a5;go_wp2;go_round;case rel=>exact⟨k+1,by omega,by go_num⟩
 simp[intOf]<;>omega):P:=h
theorem Ng(h:P:=by
 have Ha:=J M;have d:=J F;have R:Below w w w:=bf _ _;by_cases t:4096<n;.have g:Hid (lm l=9):=J (by unfold lm;rw[Vag (by omega)]);have G:(4096:Int)<n:=(by omega);clear M F hb t;go_in;go_wp2;go_returns;rw[g.o];exact Jy 9 R
 have g:Hid (lm l=2):=J (by unfold lm at hb⊢;rw[aD (by omega)] at hb⊢;by_cases h:∀n∈l,0<=n/\n<4096;rw[Vag h] at hb;exact absurd rfl hb;rw[aD h]);have p:Hid (¬∀n∈l,0<=n/\n<4096):=J (by intro h;apply hb;exact Gg (by omega) h);have G:¬(4096:Int)<n:=(by omega);clear M F hb t;go_in;go_wp2;go_loop [7,19] (λ_ i=>∃k:Nat,k<=n/\i=k/\Hid (∀v∈l.take k,0<=v/\v<4096)) (λ_ i=>(n-intOf i).toNat);case atStart=>exact⟨0,by omega,rfl,J (by simp)⟩
 obtain⟨k,Q,rfl,ao⟩:=hrel;by_cases ab:k<n
 .have z:k<l:=(by rw[<-d.o];exact ab);obtain⟨v,q⟩:=ay (l.getD k 0);have b3:l[k]=v:=(by rw[<-q];simp[List.getD,z]);obtain⟨f9,g3,S,D,b1⟩:=Ha.o.get k (.int .i64 v) (by rw[XN _ _ z,q]);subst S;by_cases B:0<=v/\v<4096
  .obtain⟨I,a0⟩:=B;have a1:¬v<0:=(by omega);have a2:¬4096<=v:=(by omega);have E:Hid (∀u∈l.take (k+1),0<=u/\u<4096):=J (by intro u hu;rw[dK z,b3] at hu;rcases lc.1 hu with h|h;exact ao.o u h;rw[jv] at h;omega);clear q b3;go_wp2;go_round;case rel=>exact⟨k+1,by omega,by go_num,E⟩
   simp[intOf]<;>omega
  clear q b3;by_cases I:v<0;.clear B;go_wp2;go_returns;rw[g.o];exact Jy 2 R
  have a0:4096<=v:=(by omega);clear B;go_wp2;go_returns;rw[g.o];exact Jy 2 R
 exfalso;apply p.o;have:=ao.o;rwa [d' (by rw[<-d.o];omega)] at this):P:=h
end
namespace Wv
variable{a b v:ax}{w:Int}
def cd (c:cj):Nat:=if c=48 then 0 else if c=49 then 1 else if c=120 then 2 else if c=122 then 3 else 4
def ch (n:Nat):cj:=if n=0 then 48 else if n=1 then 49 else if n=2 then 120 else 122
theorem Gl (c:cj):(c=48/\cd c=0)\/(c=49/\cd c=1)\/(c=120/\cd c=2)\/(c=122/\cd c=3)\/(c≠48/\c≠49/\c≠120/\c≠122/\cd c=4):=by unfold cd;by_cases h1:c=48;exact aO;grind
theorem Zqy (c:cj):cd c<=4:=by rcases Gl c with ⟨_,h⟩|⟨_,h⟩|⟨_,h⟩|⟨_,h⟩|⟨_,_,_,_,h⟩<;>omega
theorem HI (n:Nat) (h:n<4):cd (ch n)=n:=by rcases(show n=0\/n=1\/n=2\/n=3 by omega) with rfl|rfl|rfl|rfl<;>decide
theorem My (c:cj) (h:cd c<4):ch (cd c)=c:=by rcases Gl c with ⟨rfl,_⟩|⟨rfl,_⟩|⟨rfl,_⟩|⟨rfl,_⟩|⟨_,_,_,_,d⟩;rfl;rfl;rfl;rfl;omega
def nP (c:cj):Bool:=decide (cd c<4)
def fs (v:ax):Bool:=v.all nP&& !v.isEmpty&&decide (v.length<=128)
def jM (v:ax):Bool:=fs v&&v.all (λc=>decide (cd c<2))
def vld (w:Int) (v:ax):Bool:=fs v&&decide ((v.length:Int)=w)
theorem Zp :fs v=true↔(∀c∈v,cd c<4)/\v≠[]/\v.length<=128:=by unfold fs nP;grind
theorem YA :jM v=true↔(∀c∈v,cd c<2)/\v≠[]/\v.length<=128:=by unfold jM;rw[gm,Zp,uI];grind
theorem He (h:jM v=true):fs v=true:=by unfold jM at h;grind
theorem ZN :vld w v=true↔fs v=true/\(v.length:Int)=w:=by unfold vld;grind
def mr (w:Int) (c:cj):ax:=if w<1\/128<w\/nP c=false then[] else List.replicate w.toNat c
def fr (c:cj):cj:=if c=49 then 48 else c
theorem ZqD (c:cj):fr (fr c)=fr c:=by unfold fr;grind
theorem ZqC {c:cj} (h:cd c<4):cd (fr c)<4:=by unfold fr;split;exact aY;omega
def ext (w:Int) (s:ax):ax×Nat:=
 if w<1\/128<w then([],1) else match s with
  |[]=>([],3)
  |c::t=>if(c::t).all nP=false then([],3) else if w<((c::t).length:Int) then([],8) else(List.replicate (w.toNat-(c::t).length) (fr c)++(c::t),0)
def rO:ax->ax
 |a::b::r=>if a=fr b then rO (b::r) else a::b::r
 |l=>l
def fw (v:ax):ax:=if fs v=true then rO v else[]
theorem Ks (a b:cj) (r:ax):rO (a::b::r)=if a=fr b then rO (b::r) else a::b::r:=rfl
theorem KP:∀(v:ax),v≠[]->∃k c t,rO v=c::t/\v=List.replicate k (fr c)++(c::t)
 |[],h=>absurd rfl h
 |[a],_=>⟨0,a,[],rfl,rfl⟩
 |a::b::r,_=>by
  obtain⟨k,c,t,h1,d⟩:=KP (b::r) (by simp);rw[Ks];by_cases h:a=fr b
  .rw[Vag h];refine⟨k+1,c,t,h1,?_⟩
   have hb:fr b=fr c:=by
    cases k with
    |zero=>exact aO
    |succ k=>injection d with g _;rw[g,ZqD]
   grind
  rw[aD h];exact⟨0,a,b::r,rfl,rfl⟩
theorem Ls (h:fs v=true):ext (v.length:Int) (fw v)=(v,0):=by
 obtain⟨h1,d,l⟩:=Zp.1 h;obtain⟨k,c,t,g,j⟩:=KP v d;unfold fw ext;have p:(c::t).all nP=true:=by unfold nP;grind
 grind
theorem F_ (v:ax):(fw v)<=v.length/\(fs v=true->fw v≠[]):=by unfold fw;by_cases h:fs v=true;obtain⟨k,c,t,d,g⟩:=KP v (Zp.1 h).2.1;grind;grind
theorem Yb (v:ax):(fw v).length<=128:=by by_cases h:fs v=true;have:=(F_ v).1;have:=(Zp.1 h).2.2;omega;unfold fw;grind
theorem WM {s:ax} (h:ext w s=(v,0)):vld w v=true:=by
 unfold ext at h;split at h;exact aO;rename_i hw;rcases s with _|⟨c,t⟩;exact aO;simp only at h;split at h;exact aO;rename_i ha;split at h;exact aO;rename_i hl;injection h with h _;subst h;have jz:∀x∈c::t,cd x<4:=by have:(c::t).all nP=true:=aO;rw[uI] at this;intro x hx;have:=this x hx;unfold nP at this;grind
 have hlen:(List.replicate (w.toNat-(c::t).length) (fr c)++(c::t)).length=w.toNat:=aO;refine ZN.2 ⟨Zp.2 ⟨λx hx=> ?_,by simp,O⟩,O⟩;rcases lc.1 hx with hx|hx;rw[List.eq_of_mem_replicate hx];exact ZqC (jz c fi);grind
def mx (a b:cj):cj:=ch (cd a ^^^ cd b)
def jp (a b:ax):ax×Nat:=if fs a=false\/fs b=false then([],1) else if a.length≠b then([],8) else(List.zipWith mx a b,0)
theorem Mw:∀x,x<4->∀y,y<4->x ^^^ y<4/\(x ^^^ y) ^^^ y=x/\x ^^^ y=y ^^^ x/\(x+y) % 2+2*((x/2+y/2) % 2)=x ^^^ y:=aY
theorem ZqK {a b:cj} (d:cd a<4) (hb:cd b<4):cd (mx a b)<4:=by unfold mx;have:=(Mw _ d _ hb).1;rw[HI _ this];exact this
theorem ZqL {a b:cj} (d:cd a<4) (hb:cd b<4):mx (mx a b) b=a:=by have h1:=Mw _ d _ hb;show ch (cd (ch (cd a ^^^ cd b)) ^^^ cd b)=a;rw[HI _ h1.1,h1.2.1,My a d]
theorem Zoc (g:fs a=true) (hb:fs b=true) (k:a=b.length):fs (List.zipWith mx a b)=true/\(List.zipWith mx a b)=a.length:=by obtain⟨a1,a2,a3⟩:=Zp.1 g;obtain⟨b1,_⟩:=Zp.1 hb;have d:(List.zipWith mx a b)=a.length:=aO;refine⟨Zp.2 ⟨λc j=> ?_,λh=> ?_,O⟩,d⟩;obtain⟨i,hi,rfl⟩:=List.getElem_of_mem j;rw[List.getElem_zipWith];exact ZqK (a1 _ (dt _)) (b1 _ (dt _));grind
theorem ZiY (d:fs a=true) (hb:fs b=true) (g:a=b.length):∃m,jp a b=(m,0)/\fs m=true/\m.length=a.length/\jp m b=(a,0):=by obtain⟨j,k⟩:=Zoc d hb g;obtain⟨a1,_⟩:=Zp.1 d;obtain⟨b1,_⟩:=Zp.1 hb;refine⟨List.zipWith mx a b,?_,j,k,?_⟩;unfold jp;grind;unfold jp;rw[aD aO,aD O];congr 1;apply yE;exact aO;intro i k1 k2;rw[List.getElem_zipWith,List.getElem_zipWith];exact ZqL (a1 _ (dt _)) (b1 _ (dt _))
def sm:ax->ax->Nat->ax×Nat
 |x::a,y::b,c=>(UInt8.ofNat (48+(cd x+cd y+(sm a b c).2) % 2)::(sm a b c).1,(cd x+cd y+(sm a b c).2)/2)
 |_,_,c=>([],c)
def qW (v:ax):ax:=v.map (λc=>ch (if cd c<2 then 1-cd c else cd c))
def qc (a b:ax):ax×Bool:=if jM a=true/\jM b=true/\a=b.length then((sm a b 0).1,true) else([],false)
def vp (a b:ax):ax×Bool:=if jM a=true/\jM b=true/\a=b.length then((sm b (qW a) 1).1,true) else([],false)
theorem HH:∀(a b:ax) (c:Nat),a=b.length->(sm a b c).1.length=a
 |[],[],_,_=>rfl
 |x::a,y::b,c,h=>by show((sm a b c).1.length+1)=_;rw[HH a b c aO];rfl
theorem Mt:∀(a b:ax) (c:Nat),∀d∈(sm a b c).1,cd d<2
 |[],_,_=>λd hd=>by simp[sm] at hd
 |_::_,[],_=>λd hd=>by simp[sm] at hd
 |x::a,y::b,c=>λd hd=>by rcases jA.1 hd with rfl|hd;rcases Nat.mod_two_eq_zero_or_one (cd x+cd y+(sm a b c).2) with h|h<;>rw[h]<;>decide;exact Mt a b c d hd
theorem R6 (h:qc a b=(v,true)):jM v=true/\v=a.length/\jM a=true/\jM b=true/\a=b.length:=by
 unfold qc at h;split at h;.rename_i hc;injection h with h _;subst h;obtain⟨a1,a2,a3⟩:=YA.1 hc.1;have hl:=HH a b 0 hc.2.2;refine⟨YA.2 ⟨Mt a b 0,λe=> ?_,O⟩,hl,hc⟩;grind
 grind
theorem Ta (h:vp a b=(v,true)):jM v=true/\v=a.length:=by
 unfold vp at h;split at h;.rename_i hc;injection h with h _;subst h;obtain⟨a1,a2,a3⟩:=YA.1 hc.1;have hl:=HH b (qW a) 1 (by unfold qW;grind);refine⟨YA.2 ⟨Mt b (qW a) 1,λe=> ?_,O⟩,O⟩;grind
 grind
end Wv
namespace Go.Proofs.Y
open Wv Go.RowKit
theorem Y2:(prog.info? 3).map (λi=>(i.zero,i.size,i.bytes))=some (some (.int .i64 0),1,8):=qD
def vt (j:Nat):List Nat:=List.replicate j 1024++List.replicate (64-j) 0
theorem ZiN (j:Nat) (h:j<64):(vt j).set j 1024=vt (j+1):=by unfold vt;rw[nj _ _ (by simp),iE,fh,show 64-j=(64-(j+1))+1 from by exact O,pP,List.set_cons_zero,List.replicate_succ',er];rfl
theorem Z8w (j:Nat) (h:j<=64):(vt j).length=64:=by simp[vt];omega
theorem ZiM:vt 64=t0:=aY
theorem Zef:nc (vt 0)=Array.replicate 64 (.int .i64 0):=by apply pS.1;simp[nc,vt]
theorem Zfg (w:aq):
  Calls prog 207 #[(1:Int),(6:Int)] w λx w'=>x=.returned (.slice (some (w.heap.size+1,0)) 1 1)/\Bk w' w 3 (nc t0)/\Bk w' (w.heap.size+1) 244 #[(6:Int),.slice (some (w,0)) 64 64]/\Below w w w':=by
 have l:=Y5 (P:=prog) 123 3 _ _ underlying123 Y2 rfl 64 64 rfl O O w;rw[<-Zef] at l;have a3:∀w:aq,(Instr.makeSlice 288 (1:Int) (1:Int)).run prog w=.ok (.slice (some (w,0)) 1 1) (w.alloc (.cells #[(0:Int),.slice none 0 0] 244)):=λ_=>qD;go_in;go_wp2;go_loopw [6,17] (λ_ i wr=>∃j:Nat,j<=64/\i=j/\Bk wr w 3 (nc (vt j))/\Below w w wr/\wr=w.heap.size+1) (λ_ i _=>(64-intOf i).toNat);exact IY;obtain⟨j,B,rfl,g,E,G⟩:=hrel;by_cases ab:j<64;have R:=g.cell j;rw[Xj _ _ (by rw[Z8w j B];exact ab)] at R;have a2:=g.frozen j;have q:=g.put j (.int .i64 ((1024:Nat):Int));rw[uX,ZiN j ab] at q;exact NJ;have S:j=64:=O;subst S;have k:=J G;have I:=J g;clear G g l;go_wp2;rw[k.o];have z:=E.alloc E.size (.cells #[(0:Int),.slice none 0 0] 244);have aa:=I.o.alloc (.cells #[(0:Int),.slice none 0 0] 244);have y:Bk (wr.alloc (.cells #[(0:Int),.slice none 0 0] 244)) (w.heap.size+1) 244 #[(0:Int),.slice none 0 0]:=k.o▸Bk.new wr _ _;go_loopw [8,9,10,28] (λ_ _ _ i u=>∃j:Nat,j<=1/\i=j/\(j=0->Bk u (w.heap.size+1) 244 #[(0:Int),.slice none 0 0])/\(j=1->Bk u (w.heap.size+1) 244 #[(6:Int),.slice (some (w,0)) 64 64])/\Bk u w 3 (nc (vt 64))/\Below w w u) (λ_ _ _ i _=>(1-intOf i).toNat);exact⟨0,O,rfl,λ_=>y,λh=>O,aa,z⟩;clear z aa y E;obtain⟨j,B,rfl,h0,h1,hb,E⟩:=hrel;by_cases ab:j<1
 .have Q:j=0:=O;subst Q;have d:=h0 rfl;have a0:=d.cell 0;have q1:=d.cell 1;have a4:=d.frozen 0;have a5:=d.frozen 1;simp at a0 q1;have D:=J d;clear h0 h1 d ab;go_wp2;go_region;go_wp2;go_roundw;.refine⟨1,O,rfl,λh=>O,λ_=> ?_,?_,?_⟩;have M:=(D.o.put 0 (6:Int)).put 1 (.slice (some ⟨w,0,none⟩) 64 64);have L:=M.drew;simpa using L;exact O';exact O4
  simp[intOf]
 have a1:j=1:=O;subst a1;have F:=J (h1 rfl);clear h0 h1;go_wp2;go_ret;exact⟨rfl,by rw[<-ZiM];exact hb,F.o,E⟩
theorem K2 (w:aq):
  Calls prog 161 #[] w λx w'=>∃b,x=.returned (.pointer (some ⟨b,0,none⟩))/\w.heap.size<=b/\fp w' b w t0/\Below w w w':=by have j:=J (Zfg w);go_in;go_wp21;refine aP j.o λw1 ⟨h0,h1,hb⟩=>?_;have k:=h1.cell 0;have q1:=h1.cell 1;simp at k q1;have d:=hb.size;have g:=J h0;clear h0 h1;go_wp2;go_ret;exact⟨w1.heap.size,rfl,d,⟨Bk.new _ _ _,g.o.alloc _⟩,hb.alloc d _⟩
variable{b e:Nat}{s:aT}{w:aq}
def ZB (s:aT) (e:Nat) (most:Int):aT×aT×Nat:=
 if(Zb (bG s e most).2.1 (bG s e most).2.2 ((bG s e most).1:Nat)).2.2=0 then Zb (bG s e most).2.1 (bG s e most).2.2 ((bG s e most).1:Nat)
 else(bs [],s,(Zb (bG s e most).2.1 (bG s e most).2.2 ((bG s e most).1:Nat)).2.2)
theorem Zv {most:Int} :(bG s e most).2.1.size<=s.size:=by unfold bG;split;split;exact aU;split;exact aU;rw[Z0,iW,Z2];omega;exact aU
theorem ZY (h:RV w b s e) (D:s.size<=1099511627776) (most:Int):
  Calls prog 101 #[(b,0),most] w λx w'=>x=.returned (.string (ZB s e most).1)/\RV w' b (ZB s e most).2.1 (ZB s e most).2.2/\Fr (only b) w w':=by
 have h0:=h.c0;have ab:=Bk.lt h;have l:=J (Zk h D most);have z:=Zv (s:=s) (e:=e) (most:=most)
 have g:ZB s e most=if(Zb (bG s e most).2.1 (bG s e most).2.2 ((bG s e most).1:Nat)).2.2=0 then Zb (bG s e most).2.1 (bG s e most).2.2 ((bG s e most).1:Nat)
  else(bs [],s,(Zb (bG s e most).2.1 (bG s e most).2.2 ((bG s e most).1:Nat)).2.2):=rfl;generalize bG s e most=q at*;obtain⟨n,s1,I⟩:=q;generalize ZB s e most=r at*;obtain⟨⟨t,a1,j⟩,aS⟩:=ay (Zb s1 I (n:Int));simp only at g l z;rw[aS] at g;simp only at g;have M:=J aS;have u:=J g;clear aS g;go_in;go_wp21;refine aP l.o λw1 ⟨G,E⟩=>?_;have y:=J (Zr G (co z D) (n:Int));rw[M.o] at y;go_wp21;refine aP y.o λa2 ⟨d,F⟩=>?_;have S:=d.c1;have R:=d.c0;have a0:=d.f0;have B:=E.trans F;by_cases k:j=0;.subst k;go_wp2;go_ret;rw[u.o];exact⟨rfl,d,B⟩
 have Q:((j:Int) !=0)=true:=eV;have L:Hid (r=(bs [],s,j)):=J (by rw[u.o,aD k]);clear k;go_wp2;go_ret;rw[L.o];exact⟨rfl,by simpa [RV] using Bk.put d 0 (.string s),B.setCell (p:=⟨b,0,none⟩) (.inl rfl) _⟩
def iQ (s:aT) (e:Nat):Nat:=if e=0/\s.size≠0 then 12 else e
theorem C7 (h:RV w b s e):
  Calls prog 83 #[(b,0)] w λx w'=>x=.returned ((iQ s e:Nat):Int)/\Fr (only b) w w':=by
 have h0:=h.c0;have h1:=h.c1;by_cases k:e=0
 .subst k;by_cases j:s.size=0;.have d:iQ s 0=0:=(by unfold iQ;rw[aD O]);have t:=HX j;have g:=J d;clear j d;go_in;go_wp2;go_ret;exact⟨ZZ (by rw[g.o];rfl),Fr.refl _ _⟩
  have d:iQ s 0=12:=(by unfold iQ;rw[Vag ⟨rfl,j⟩]);have t:=HW (s:=s) O;have g:=J d;have l:=J (QS h 12);clear j d;go_in;go_wp21;refine aP l.o λz ⟨q,p⟩=>?_;have y:=q.c1;go_wp2;go_ret;exact⟨ZZ (by rw[g.o];rfl),p⟩
 have d:iQ s e=e:=(by unfold iQ;rw[aD O]);have u:((e:Int)==0)=false:=rT;have g:=J d;clear d k;go_in;go_wp2;go_ret;exact⟨ZZ (by rw[g.o]),Fr.refl _ _⟩
end Go.Proofs.Y
namespace Wv
set_option linter.unusedSectionVars false
def nx (l:List Nat):Nat:=l.foldl (λa x=>if x=a then a+1 else a) 0
structure RunsOk (I C:List Nat) (len dl:Nat):Prop where
 size:I.length=C.length
 sum:C.sum=len
 next:nx I=dl
 pos:∀c∈C,1<=c
 each:∀k (h:k<I.length),I[k]<=nx (I.take k)
 apart:∀k (h:k+1<I.length),I[k]≠I[k+1]
section
variable {α:Type} [DecidableEq α]
end
end Wv
namespace Wv
open Go Go.RowKit
variable{B n:Nat}{v v' v1 v2:aI}{w w' w0 wb:aq}{xs ys:List aI}
structure pe (wb:World) (B:Nat) (e:TypeId) (v1:Value) (xs:List Value) (v2:Value) (ys:List Value) (w:World):Prop where
 own1:w.ownsRow B e 1 v1 xs.length xs
 own2:w.ownsRow B e 1 v2 ys.length ys
 apart:∀g,v1.ownBlock=some g->v2.ownBlock≠some g
 bel:Below B wb w
 base:B<=w.heap.size
theorem pe.alloc {e:TypeId} (h:pe wb B e v1 xs v2 ys w) (o:Obj):pe wb B e v1 xs v2 ys (w.alloc o):=
 ⟨h.own1.alloc o,h.own2.alloc o,h.apart,h.bel.alloc h.base o,co h.base (by simp)⟩
theorem pe.drew {e:TypeId} (h:pe wb B e v1 xs v2 ys w):pe wb B e v1 xs v2 ys w.drew:=⟨h.own1,h.own2,h.apart,h.bel.drew,h.base⟩
theorem pe.swap {e:TypeId} (h:pe wb B e v1 xs v2 ys w):pe wb B e v2 ys v1 xs w:=⟨h.own2,h.own1,λg h1 d=>h.apart g d h1,h.bel,h.base⟩
theorem A0 {P : Program} (t e : TypeId) (z : aI) (bytes : Nat) (a1 : P.underlying t = some (.slice e)) (F : (P.info? e).map (λi => (i.zero, i.size, i.bytes)) = some (some z, 1, bytes)) (G : z.cells.size = 1) {wb w : aq} {B : Nat} {v1 v2 : aI} {xs ys : List aI} (h : pe wb B e v1 xs v2 ys w) (a : Nat) (x : aI) (M : w.cell? (a,0) = some x) (h1 : x.oneCell' = true) (L : xs.length + 1 <= maxLen) (I : (xs.length + 1) * bytes <= 140737488355328) :
    ∃v' w',(Builtin.append_ #[t,t] t #[v1,.slice (some (a,0)) 1 1]).run P w=.ok v' w'/\pe wb B e v' (xs++[x]) v2 ys w'/\(∀b,some b≠v1.ownBlock->b<w.heap.size->w'.cell? ⟨b,0,none⟩=w.cell? ⟨b,0,none⟩)/\(∀E T d,Bk w E T d->T≠e->Bk w' E T d):=by obtain⟨i,hi,a2,a0,hb⟩:=info_parts F;obtain ⟨v', w', S, a3, y, _, l⟩ := run_append_own_at (P := P) w B t t e i z 1 bytes a1 hi a2 a0 hb G O v1 xs.length xs h.own1 ⟨a, 0, none⟩ 1 1 [x] rfl (λj u hu => Pt) aO L I h.base;have q:Fr (λk=>v1.ownBlock=some k) w w':=(Fr.refl _ w).grown y (λk D=>.inl D);refine⟨v',w',S,⟨aO,Z6 h.own2 q (λg R e=>h.apart g e R),λg R=> ?_,h.bel.grown y h.base (λk D=>(h.own1.lt k D).1),co h.base q.size⟩,λb hb ab=>q.cell (p:=⟨b,0,none⟩) ab (λe=>hb e.symm),λE T d hb Q=>hb.grown y (λe=>Z1 h.own1 hb (λe=>Q e.symm) e.symm)⟩;exact Oh
theorem VL {P:Program} (t e:TypeId) (z:aI) (bytes:Nat) (D:P.underlying t=some (.slice e)) (p:(P.info? e).map (λi=>(i.zero,i.size,i.bytes))=some (some z,1,bytes)) (q:z.cells.size=1) (h:pe wb B e v1 xs v2 ys w) (x y:aI) (Q:x.oneCell'=true) (R:y.oneCell'=true) (M:xs+1<=maxLen) (S:(xs.length+1)*bytes<=140737488355328)
  (a3:ys+1<=maxLen) (a0:(ys.length+1)*bytes<=140737488355328) (k:Nat) (T:TypeId) (j:Array aI) (u:Bk w k T j) (l:T≠e):
  (∃a1 w1 a2 d,(Builtin.append_ #[t,t] t #[v1,.slice (some (w,0)) 1 1]).run P (w.alloc (.cells #[x] e)).drew=.ok a1 w1/\(Builtin.append_ #[t,t] t #[v2,.slice (some ⟨w1.heap.size,0,none⟩) 1 1]).run P (w1.alloc (.cells #[y] e))=.ok a2 d/\pe wb B e a1 (xs++[x]) a2 (ys++[y]) d/\Bk w1 k T j/\Bk d k T j)/\
  (∃a1 w1 a2 d,(Builtin.append_ #[t,t] t #[v1,.slice (some (w,0)) 1 1]).run P ((w.alloc (.cells #[x] e)).alloc (.cells #[y] e)).drew=.ok a1 w1/\(Builtin.append_ #[t,t] t #[v2,.slice (some (w.heap.size+1,0)) 1 1]).run P w1=.ok a2 d/\pe wb B e a1 (xs++[x]) a2 (ys++[y]) d/\Bk w1 k T j/\Bk d k T j)/\
  (∃a1 w1 a2 d,(Builtin.append_ #[t,t] t #[v1,.slice (some (w.heap.size+1,0)) 1 1]).run P ((w.alloc (.cells #[y] e)).alloc (.cells #[x] e)).drew=.ok a1 w1/\(Builtin.append_ #[t,t] t #[v2,.slice (some (w,0)) 1 1]).run P w1=.ok a2 d/\pe wb B e a1 (xs++[x]) a2 (ys++[y]) d/\Bk w1 k T j/\Bk d k T j):=by
 have a8:∀g,v1.ownBlock=some g->g<w.heap.size:=λg a7=>(h.own1.lt g a7).2;have a5:(w.alloc (.cells #[x] e)).cell? (w,0)=some x:=(Bk.new w e #[x]).cell 0;have a9:(w.alloc (.cells #[y] e)).cell? (w,0)=some y:=(Bk.new w e #[y]).cell 0;have a4:(w.alloc (.cells #[x] e))=w.heap.size+1:=(by simp);have a6:(w.alloc (.cells #[y] e))=w.heap.size+1:=(by simp);refine⟨?_,?_,?_⟩;.obtain⟨a1,w1,F,t1,_,b1⟩:=A0 t e z bytes D p q (h.alloc (.cells #[x] e)).drew w x a5 Q M S;obtain⟨a2,d,G,I,_,E⟩:=A0 t e z bytes D p q (t1.swap.alloc (.cells #[y] e)) w1.heap.size y ((Bk.new w1 e #[y]).cell 0) R a3 a0;exact⟨a1,w1,a2,d,F,G,I.swap,b1 k T j (u.alloc (.cells #[x] e)).drew l,E k T j ((b1 k T j (u.alloc (.cells #[x] e)).drew l).alloc (.cells #[y] e)) l⟩
 .have c1:((w.alloc (.cells #[x] e)).alloc (.cells #[y] e)).drew.cell? (w,0)=some x:=((Bk.new w e #[x]).alloc (.cells #[y] e)).cell 0;have c2:((w.alloc (.cells #[x] e)).alloc (.cells #[y] e)).drew.cell? (w.heap.size+1,0)=some y:=by have:=(Bk.new (w.alloc (.cells #[x] e)) e #[y]).cell 0;rw[a4] at this;exact this
  obtain⟨a1,w1,F,t1,k1,b1⟩:=A0 t e z bytes D p q ((h.alloc (.cells #[x] e)).alloc (.cells #[y] e)).drew w x c1 Q M S;have L:=(k1 (w.heap.size+1) (λe=>aO) nk).trans c2;obtain⟨a2,d,G,I,_,E⟩:=A0 t e z bytes D p q t1.swap (w.heap.size+1) y L R a3 a0;exact⟨a1,w1,a2,d,F,G,I.swap,b1 k T j ((u.alloc (.cells #[x] e)).alloc (.cells #[y] e)).drew l,E k T j (b1 k T j ((u.alloc (.cells #[x] e)).alloc (.cells #[y] e)).drew l) l⟩
 have c1:((w.alloc (.cells #[y] e)).alloc (.cells #[x] e)).drew.cell? (w,0)=some y:=((Bk.new w e #[y]).alloc (.cells #[x] e)).cell 0;have c2:((w.alloc (.cells #[y] e)).alloc (.cells #[x] e)).drew.cell? (w.heap.size+1,0)=some x:=by have:=(Bk.new (w.alloc (.cells #[y] e)) e #[x]).cell 0;rw[a6] at this;exact this
 obtain⟨a1,w1,F,t1,k1,b1⟩:=A0 t e z bytes D p q ((h.alloc (.cells #[y] e)).alloc (.cells #[x] e)).drew (w.heap.size+1) x c2 Q M S;have L:=(k1 w (λe=>by have:=a8 _ e.symm;omega) (by show _<((w.alloc (.cells #[y] e)).alloc (.cells #[x] e)).heap.size;simp<;>omega)).trans c1;obtain⟨a2,d,G,I,_,E⟩:=A0 t e z bytes D p q t1.swap w y L R a3 a0;exact⟨a1,w1,a2,d,F,G,I.swap,b1 k T j ((u.alloc (.cells #[y] e)).alloc (.cells #[x] e)).drew l,E k T j (b1 k T j ((u.alloc (.cells #[y] e)).alloc (.cells #[x] e)).drew l) l⟩
theorem ZfV {P:Program} (t e:TypeId) (z:aI) (bytes:Nat) (ht:P.underlying t=some (.slice e)) (B:(P.info? e).map (λi=>(i.zero,i.size,i.bytes))=some (some z,1,bytes)) (F:z.cells.size=1) {base:Nat} (q:w.ownsRow base e 1 v n xs) {A:bN} (R:At w A ys) (cap m:Nat) (p:m=ys) (d:A=none->ys=[]) (h1:∀y∈ys,y.oneCell'=true)
  (I:n+m<=maxLen) (D:(n+m)*bytes<=140737488355328) (E:base<=w):
  ∃v' w',(Builtin.append_ #[t,t] t #[v,(A,m,cap)]).run P w=.ok v' w'/\w'.ownsRow base e 1 v' (n+m) (xs++ys)/\w.grownBy w' v.ownBlock/\(v'.ownBlock=v.ownBlock\/v'.ownBlock=some w.heap.size):=by obtain⟨i,hi,a0,Q,G⟩:=info_parts B;rcases A with _|a;have S:=d rfl;subst S;simp at p;subst p;refine⟨v,w,?_,aO,⟨rfl,rfl,rfl,aU,λ_ _ _=>rfl⟩,.inl rfl⟩;exact Ns;obtain⟨v',w',a4,a1,a2,_,a3⟩:=run_append_own_at (P:=P) w base t t e i z 1 bytes ht hi a0 Q G F O v n xs q a m cap ys O (λj u M=>by obtain⟨ab,rfl⟩:=List.getElem?_eq_some_iff.1 M;obtain⟨b,o,d,hb,L⟩:=R j ab;injection d with d;subst d;rw[Go.WideShapes.add_plain];exact L) h1 I D E;grind
theorem ZeY (e:TypeId) (w:aq):(w.alloc (.cells #[] e)).ownsRow w e 1 (.slice (some (w,0)) 0 0) 0 []:=
 World.ownsRow_made w #[] 0 aU O rfl
theorem Z5 {P:Program} {d:Array Oper} {rest:List Oper} {o:Oper} {a:Act} {Q:Exit->Act->aq->Prop} (q:w=w0) (g:o.guard=none) (s x:Operand) (t:TypeId)
  (p:o.op=.call { callee:=.builtin .append,args:= #[s,x],argTypes:= #[t,t] }) (v u:aI) (F:a.eval s=v) (D:a.eval x=u)
  (B:(Builtin.append_ #[t,t] o.type #[v,u]).run P w0=.ok v' w') (h:wpList P d Q rest (a.put o.dst v') w'):wpList P d Q (o::rest) a w:=NC
theorem Bd {P:Program} {o:Oper} {a:Act} (w0:aq) {K:Act->aq->Prop} {Q:Exit->Act->aq->Prop} {E:Prop} {c:Prop} [Decidable c] (d:w=w0) (h:if c then Oper.wp P o a w0 K Q else E):if c then Oper.wp P o a w K Q else E:=aO
theorem Zgh {P:Program} {d:Array Oper} {o:Oper} {a:Act} {K:Act->aq->Prop} {Q:Exit->Act->aq->Prop} {E:Prop} (l:w=w0) (q:o.guard=none) (s x:Operand) (t:TypeId)
  (g:o.op=.call { callee:=.builtin .append,args:= #[s,x],argTypes:= #[t,t] }) (v u:aI) (k:a.eval s=v) (p:a.eval x=u)
  (j:(Builtin.append_ #[t,t] o.type #[v,u]).run P w0=.ok v' w') (h:K (a.put o.dst v') w'):
  if Region.wanted o (yielded d a.tmps)=true then Oper.wp P o a w K Q else E:=by subst l;exact YG q s x t g v u k p j h
theorem gN {P:Program} {d:Array Oper} {o:Oper} {a:Act} {K:Act->aq->Prop} {Q:Exit->Act->aq->Prop} {E:Prop} {s x:Operand} {t:TypeId} {u:aI} (j:(Builtin.append_ #[t,t] o.type #[v,u]).run P w0=.ok v' w') (h:K (a.put o.dst v') w') (l:w=w0:=by with_reducible rfl) (q:o.guard=none:=by rfl) (g:o.op=.call { callee:=.builtin .append,args:= #[s,x],argTypes:= #[t,t] } :=by rfl) (k:a.eval s=v:=by rfl) (p:a.eval x=u:=by rfl):if Region.wanted o (yielded d a.tmps)=true then Oper.wp P o a w K Q else E:=Zgh l q s x t g v u k p j h
theorem ZU {P:Program} (t e:TypeId) (z:aI) (bytes:Nat) (Q:P.underlying t=some (.slice e)) (q:(P.info? e).map (λi=>(i.zero,i.size,i.bytes))=some (some z,1,bytes)) (y:z.cells.size=1) (h:w.ownsRow B e 1 v n xs) (I:Below B wb w) (j:B<=w) (x:aI) (S:x.oneCell'=true) (E:n+1<=maxLen) (u:(n+1)*bytes<=140737488355328):
  ∃v' w',(Builtin.append_ #[t,t] t #[v,.slice (some (w,0)) 1 1]).run P (w.alloc (.cells #[x] e))=.ok v' w'/\w'.ownsRow B e 1 v' (n+1) (xs++[x])/\Below B wb w'/\(∀l T g,Bk w l T g->e≠T->Bk w' l T g):=by obtain⟨i,hi,R,M,D⟩:=info_parts q;obtain⟨v',w',L,F,p,_⟩:=run_append_own_at (P:=P) (w.alloc (.cells #[x] e)) B t t e i z 1 bytes Q hi R M D y O v n xs (h.alloc _) ⟨w,0,none⟩ 1 1 [x] rfl (Ql _ _ _) aO E u (co j (by simp));exact⟨v',w',L,F,(I.alloc j _).grown p (co j (by simp)) (λk d=>(h.lt k d).1),λl T g d G=>(d.alloc _).grown p (λe=>Z1 h d G e.symm)⟩
theorem Zhj {P:Program} (t e:TypeId) (z:aI) (bytes:Nat) (Q:P.underlying t=some (.slice e)) (q:(P.info? e).map (λi=>(i.zero,i.size,i.bytes))=some (some z,1,bytes)) (y:z.cells.size=1) (h:w.ownsRow B e 1 v n xs) (L:Below B wb w) (d:B<=w) (x:aI) (a0:x.oneCell'=true) (E:n+1<=maxLen) (u:(n+1)*bytes<=140737488355328):
  ∃v' w',(Builtin.append_ #[t,t] t #[v,.slice (some (w,0)) 1 1]).run P (w.alloc (.cells #[x] e))=.ok v' w'/\w'.ownsRow B e 1 v' (n+1) (xs++[x])/\Below B wb w'/\(v'.ownBlock=v.ownBlock\/v'.ownBlock=some (w.heap.size+1))/\w.heap.size+1<=w'.heap.size/\
   (∀A vs,At w A vs->(∀b o,A=some ⟨b,o,none⟩->v.ownBlock≠some b)->At w' A vs):=by obtain⟨i,hi,R,j,D⟩:=info_parts q;obtain⟨v',w',M,F,p,_,S⟩:=run_append_own_at (P:=P) (w.alloc (.cells #[x] e)) B t t e i z 1 bytes Q hi R j D y O v n xs (h.alloc _) ⟨w,0,none⟩ 1 1 [x] rfl (Ql _ _ _) aO E u (co d (by simp));have l:Fr (λk=>v.ownBlock=some k) (w.alloc (.cells #[x] e)) w':=(Fr.refl _ _).grown p (λk g=>.inl g);refine⟨v',w',M,F,(L.alloc d _).grown p (co d (by simp)) (λk g=>(h.lt k g).1),?_,?_,λA vs I G=> ?_⟩;exact nk;have:=l.size;simpa using this;exact(I.alloc _).keep l (λb o hb j=>G b o hb j)
theorem Gi {P : Program} (t e : TypeId) (z : aI) (bytes size : Nat) (a0 : P.underlying t = some (.slice e)) (D : (P.info? e).map (λi => (i.zero, i.size, i.bytes)) = some (some z, size, bytes)) (F : z.cells.size = size) (a2 : 0 < size) {w wb : aq} {B : Nat} {v : aI} {n : Nat} {xs : List aI} (h : w.ownsRow B e size v n xs) (R : Below B wb w) (d : B <= w.heap.size) (ys : List aI) (a3 : ys.length = size) (h1 : ∀ y ∈ ys, y.oneCell' = true) (I : n + 1 <= maxLen) (E : (n + 1) * bytes <= 140737488355328) :
    ∃v' w',(Builtin.append_ #[t,t] t #[v,.slice (some (w,0)) 1 1]).run P (w.alloc (.cells ys.toArray e))=.ok v' w'/\w'.ownsRow B e size v' (n+1) (xs++ys)/\Below B wb w'/\(v'.ownBlock=v.ownBlock\/v'.ownBlock=some (w.heap.size+1))/\w.heap.size+1<=w'.heap.size/\
      (∀A vs,At w A vs->(∀b o,A=some ⟨b,o,none⟩->v.ownBlock≠some b)->At w' A vs):=by obtain⟨i,hi,a1,l,G⟩:=info_parts D;obtain ⟨v', w', S, L, q, _, a4⟩ := run_append_own_at (P := P) (w.alloc (.cells ys.toArray e)) B t t e i z size bytes a0 hi a1 l G F a2 v n xs (h.alloc _) ⟨w, 0, none⟩ 1 1 ys O (λj u a5 => by have hb:=(Bk.new w e ys.toArray).cell j;rw[Go.WideShapes.add_plain,jK,hb];grind) h1 I E (co d (by simp));have p:Fr (λk=>v.ownBlock=some k) (w.alloc (.cells ys.toArray e)) w':=(Fr.refl _ _).grown q (λk g=>.inl g);refine⟨v',w',S,L,(R.alloc d _).grown q (co d (by simp)) (λk g=>(h.lt k g).1),?_,?_,λA vs Q M=> ?_⟩;exact nk;have:=p.size;simpa using this;exact(Q.alloc _).keep p (λb o hb l=>M b o hb l)
end Wv
namespace Wv
variable{l r x:List Int}
def tv:Int->List Int->Bool
 |_,[]=>true
 |last,t::r=>decide (last<t)&&decide (t<=1099511627776)&&tv t r
def Zi (l:List Int):Bool:=tv (-1) l&&decide (l.length<=4096)
def gp:Int->List Int->List Int
 |_,[]=>[]
 |last,t::r=>(t-last-1)::gp t r
def Za (l:List Int):List Int:=gp (-1) l
def jn:Int->List Int->Option (List Int)
 |_,[]=>some []
 |last,g::r=>if g<0\/1099511627776<g\/1099511627776<last+g+1 then none else(jn (last+g+1) r).map ((last+g+1)::·)
def kS (x:List Int):Option (List Int):=match jn (-1) x with
 |some l=>if l.length<=4096 then some l else none
 |none=>none
theorem QR {last t:Int} :tv last (t::r)=true↔last<t/\t<=1099511627776/\tv t r=true:=by show(decide _&&decide _&&_)=true↔_;grind
theorem Zq9 :∀ {last:Int},tv last l=true->∀t∈l,last<t/\t<=1099511627776:=by
 induction l with
 |nil=>exact aO
 |cons a r ih=>intro last h t j;obtain⟨h1,d,g⟩:=QR.1 h;grind
theorem ZgJ :∀ {last:Int},tv last l=true->l.Pairwise (· <·):=by
 induction l with
 |nil=>exact nk
 |cons a r ih=>intro last h;obtain⟨_,_,d⟩:=QR.1 h;exact List.Pairwise.cons (λt g=>(Zq9 d t g).1) (ih d)
theorem Zr5 :∀ {last:Int},l.Pairwise (· <·)->(∀t∈l,last<t/\t<=1099511627776)->tv last l=true:=by
 induction l with
 |nil=>intro _ _ _;rfl
 |cons a r ih=>intro last h hb;rw[List.pairwise_cons] at h;refine QR.2 ⟨(hb a fi).1,(hb a fi).2,ih h.2 (λt d=>⟨h.1 t d,(hb t (gM _ d)).2⟩)⟩
theorem Zd :Zi l=true↔l.Pairwise (· <·)/\(∀t∈l,0<=t/\t<=1099511627776)/\l.length<=4096:=by unfold Zi;rw[gm,fq];constructor;rintro⟨h1,d⟩;exact⟨ZgJ h1,λt g=>by have:=Zq9 h1 t g;omega,d⟩;rintro⟨h1,d,j⟩;exact⟨Zr5 h1 (λt g=>aO),j⟩
theorem Y4 (l:List Int):∀last,(gp last l)=l.length:=by
 induction l with
 |nil=>intro _;rfl
 |cons a r ih=>simp[gp,ih]
theorem Zp7 :∀ {last:Int},-1<=last->tv last l=true->∀g∈gp last l,0<=g/\g<=1099511627776:=by
 induction l with
 |nil=>intro last _ _ g d;cases d
 |cons a r ih=>intro last h0 h g d;obtain⟨h1,j,k⟩:=QR.1 h;rcases jA.1 d with rfl|d;exact O;grind
theorem ZqG :∀ {last:Int},-1<=last->tv last l=true->jn last (gp last l)=some l:=by
 induction l with
 |nil=>intro _ _ _;rfl
 |cons a r ih=>intro last h0 h;obtain⟨h1,d,g⟩:=QR.1 h;show(if _ then none else _)=_;grind
theorem ZqH :∀ {last:Int} {l:List Int},-1<=last->jn last x=some l->tv last l=true/\gp last l=x/\l=x.length:=by
 induction x with
 |nil=>intro last l _ h;injection h with h;subst h;exact⟨rfl,rfl,rfl⟩
 |cons g r ih=>
  intro last l h0 h;unfold jn at h;split at h;exact aO
  match hj:jn (last+g+1) r,h with
  |none,h=>cases h
  |some l',h=>injection h with h;subst h;obtain⟨i1,d,j⟩:=ih O hj;exact⟨QR.2 ⟨O,O,i1⟩,by simp[gp,d];omega,aO⟩
theorem Gu (h:Zi l=true):kS (Za l)=some l:=by unfold Zi at h;rw[gm,fq] at h;unfold kS Za;rw[ZqG O h.1];grind
theorem J6 (h:kS x=some l):Zi l=true/\Za l=x:=by
 unfold kS at h;match hj:jn (-1) x,h with
 |none,h=>cases h
 |some l',h=>simp only at h;split at h;injection h with h;subst h;obtain⟨i1,d,_⟩:=ZqH O hj;exact⟨by unfold Zi;grind,d⟩;grind
theorem Xz (h:Zi l=true):∀g∈Za l,0<=g/\g<=1099511627776:=by unfold Zi at h;rw[gm] at h;exact Zp7 O h.1
structure dX where
 st:Int
 f:Int
 s:Int
 n:Int
deriving DecidableEq
def zo:dX:=⟨0,0,0,0⟩
def fL (c:dX) (i:Nat):Int:=c.st+((i+1)/2:Nat)*c.f+(i/2:Nat)*c.s
def DP (c:dX) (i:Nat):Int:=if i % 2=0 then c.f else c.s
theorem Zhl (c:dX):fL c 0=c.st:=by unfold fL;simp
theorem Zhk (c:dX) (i:Nat):fL c (i+1)=fL c i+DP c i:=by unfold fL DP;rcases Nat.mod_two_eq_zero_or_one i with h|h;rw[Vag h,show(i+1+1)/2=(i+1)/2+1 by omega,show(i+1)/2=i/2 by omega,xb,Int.add_mul];omega;rw[aD O,show(i+1+1)/2=(i+1)/2 by omega,show(i+1)/2=i/2+1 by omega,xb,Int.add_mul,Int.add_mul];omega
def sw (c:dX):Prop:=1<=c.n/\c.n<=4096/\0<=c.st/\c.st<=1099511627776/\1<=c.f/\c.f<=1099511627776/\1<=c.s/\c.s<=1099511627776
instance (c:dX):Decidable (sw c):=by unfold sw;infer_instance
def nU (c:dX):Bool:=decide (sw c)&&decide (fL c (c.n-1).toNat<=1099511627776)
theorem YH {c:dX} :nU c=true↔sw c/\fL c (c.n-1).toNat<=1099511627776:=by unfold nU;grind
theorem ZjY {c:dX} (h:sw c) (i:Nat):1<=DP c i/\DP c i<=1099511627776:=by obtain⟨_,_,_,_,h1,d,g,j⟩:=h;unfold DP;grind
theorem Zom {c:dX} (h:sw c):∀ {i j:Nat},i<j->fL c i<fL c j:=by
 intro i j d;induction j with
 |zero=>exact O
 |succ j ih=>have g:=ZjY h j;rw[Zhk];grind
def ZP (c:dX):List Int:=(List.range c.n.toNat).map (fL c)
theorem Ru (c:dX):(ZP c)=c.n.toNat:=by simp[ZP]
theorem Rw {c:dX} (h:sw c):(ZP c).Pairwise (· <·):=by unfold ZP;rw[List.pairwise_map];exact List.Pairwise.imp (λd=>Zom h d) List.pairwise_lt_range
def nD (c:dX) (m:Int):Nat->Nat->Nat
 |0,k=>k
 |fuel+1,k=>if k<4096/\fL c k<=m then nD c m fuel (k+1) else k
theorem Zd7 (c:dX) (m:Int):∀(fuel k:Nat),¬(k<4096/\fL c k<=m)->nD c m fuel k=k:=by
 intro fuel k h;cases fuel with
 |zero=>rfl
 |succ f=>rw[nD,aD h]
theorem Zd6 (c:dX) (m:Int) (fuel k:Nat) (h:k<4096/\fL c k<=m):nD c m (fuel+1) k=nD c m fuel (k+1):=by rw[nD,Vag h]
theorem Zd5 (c:dX) (m:Int):∀(fuel k:Nat),k<=4096->4096-k<=fuel->k<=nD c m fuel k/\nD c m fuel k<=4096/\(∀i,k<=i->i<nD c m fuel k->fL c i<=m)/\(nD c m fuel k<4096->m<fL c (nD c m fuel k)):=by
 intro fuel;induction fuel with
 |zero=>intro k h1 d;rw[nD];grind
 |succ f ih=>intro k h1 d;rw[nD];by_cases h:k<4096/\fL c k<=m;exact aO;rw[aD h];exact⟨aU,h1,λi _ _=>O,λ_=>O⟩
def tw (a b:Int) (r:List Int):dX:=⟨a,b-a,match r with|[]=>b-a|t::_=>t-b,1⟩
def Zt (l:List Int):dX:=match l with
 |a::b::r=>if Zi l=true then { tw a b r with n:=(nD (tw a b r) ((a::b::r).getLast (by simp)) 4096 1:Nat) } else zo
 |_=>zo
theorem Zqt (c:dX) (n:Int) (i:Nat):fL { c with n:=n } i=fL c i:=rfl
theorem Qf (h:Zi l=true) (p:2<=l.length):nU (Zt l)=true:=by
 match l,p with
 |a::b::r,_=>
  have hd:Zt (a::b::r)= { tw a b r with n:=(nD (tw a b r) ((a::b::r).getLast (by simp)) 4096 1:Nat) } :=by show(if _ then _ else _)=_;grind
  obtain⟨v1,v2,G⟩:=Zd.1 h;obtain⟨m,y⟩:=ay ((a::b::r).getLast (by simp));have D:=v2 m aO;rw[hd,y];obtain⟨i1,z,j,B⟩:=Zd5 (tw a b r) m 4096 1 O O;obtain⟨k,w⟩:=ay (nD (tw a b r) m 4096 1);rw[w] at i1 z j B⊢;have d:=v2 a fi;have hb:=v2 b (gM _ fi);rw[List.pairwise_cons] at v1;obtain⟨w1,E⟩:=v1;have I:=w1 b fi;have g:1<=(tw a b r).s/\(tw a b r).s<=1099511627776:=by unfold tw;rcases r with _|⟨t,q⟩;exact aO;have F:=v2 t (gM _ (gM _ fi));rw[List.pairwise_cons] at E;grind
  refine YH.2 ⟨⟨aO,aO,d.1,d.2,by show 1<=b-a;omega,by show b-a<=_;omega,g.1,g.2⟩,?_⟩;rw[Zqt];show fL _ ((k:Int)-1).toNat<=_;rw[show((k:Int)-1).toNat=k-1 by omega];rcases Nat.lt_or_ge 1 k with u|u;exact Int.le_trans (j (k-1) O O) D.2;rw[show k-1=0 by omega,Zhl];exact d.2
def vA (l:List Int):List Int:=l.mergeSort (λa b=>decide (a<=b))
theorem Wl (l:List Int):(vA l).Perm l:=List.mergeSort_perm _ _
theorem Zcb (l:List Int):(vA l).Pairwise (· <=·):=by have:=List.pairwise_mergeSort (le:=λa b:Int=>decide (a<=b)) (λa b c h1 d=>aO) (λa b=>aO) l;exact this.imp (λh=>aO)
theorem Zq2 (h:r.Perm l) (g:r.Pairwise (· <=·)):vA l=r:=
 List.Perm.eq_of_pairwise (le:=(· <=·)) (λa b _ _ h1 d=>Int.le_antisymm h1 d) (Zcb l) g ((Wl l).trans h.symm)
def Qy (c:dX) (l:List Int):List Int:=((List.range c.n.toNat).filter (λi=> !l.contains (fL c i))).map Int.ofNat
def qg (c:dX) (l:List Int):List Int:=l.filter (λt=> !(ZP c).contains t)
def HY (c:dX) (l:List Int):Option (List Int×List Int):=if nU c=true/\Zi l=true then some (Qy c l,qg c l) else none
def DN (c:dX) (m:List Int):List Int:=((List.range c.n.toNat).filter (λ(i:Nat)=> !m.contains (i:Int))).map (fL c)
def zB (c:dX) (m x:List Int):List Int:=vA (DN c m++x)
theorem Zep (c:dX) (l:List Int):DN c (Qy c l)=(ZP c).filter (λt=>l.contains t):=by unfold DN ZP;rw[List.filter_map];congr 1;apply List.filter_congr;unfold Qy;grind
theorem KY (h:l.Pairwise (· <·)):l.Nodup:=h.imp (λh e=>O)
theorem Znm {c:dX} (g:sw c) (j:Zi l=true):zB c (Qy c l) (qg c l)=l:=by
 obtain⟨v1,v2,q⟩:=Zd.1 j;refine Zq2 ?_ (v1.imp (λh=>Int.le_of_lt h));rw[Zep];have d:=Rw g;have n1:((ZP c).filter (λt=>l.contains t)++qg c l).Nodup:=by rw[List.nodup_append];refine⟨KY (d.sublist List.filter_sublist),KY (v1.sublist List.filter_sublist),?_⟩;rintro a p b hb rfl;have k:=(List.mem_filter.1 hb).2;grind
 refine(List.perm_ext_iff_of_nodup (KY v1) n1).2 (λa=> ?_);unfold qg;grind
theorem Xi {c:dX} (d:sw c) (l:List Int):Zi (Qy c l)=true:=by refine Zd.2 ⟨?_,?_,?_⟩;unfold Qy;rw[List.pairwise_map];exact(List.pairwise_lt_range.sublist List.filter_sublist).imp (λh=>Int.ofNat_lt.2 h);intro t g;obtain⟨i,hi,rfl⟩:=iX.1 g;have:=d.2.1;grind;unfold Qy;rw[c'];have h1:=List.length_filter_le (λi=> !l.contains (fL c i)) (List.range c.n.toNat);rw[rm] at h1;have:=d.2.1;omega
theorem FI {c:dX} (d:Zi l=true):Zi (qg c l)=true:=by obtain⟨v1,v2,j⟩:=Zd.1 d;refine Zd.2 ⟨v1.sublist List.filter_sublist,λt g=>v2 t (List.mem_filter.1 g).1,?_⟩;have h1:=List.length_filter_le (λt=> !(ZP c).contains t) l;unfold qg;omega
end Wv
namespace Go.Proofs.Y
open Wv Go.RowKit
section
variable{A:bN}{b eb g n z:Nat}{l t:List Nat}{most:Int}{s:ax}{w w':aq}
theorem ZcL (n:Nat) (h:0<n):eO n=eO (n/2)+1:=by unfold eO;rw[aD O];by_cases h1:n/2=0;rw[Vag h1,Nat.log2_def,aD O];rw[aD h1,Nat.log2_def,Vag O]
theorem bitLen_eq (x:Nat) (h:x<2 ^ 64):Go.Lib.bitLen x=eO x:=by
  have key:∀f y,y<2 ^ f->Go.Lib.bitLenAux f y=eO y:=by
    intro f;induction f with
    | zero => intro y hy; have : y = 0 := by simpa using hy
              subst this;rfl
    |succ f ih=>
      intro y hy;unfold Go.Lib.bitLenAux;split;. rename_i h0;subst h0;rfl
      rename_i h0;rw[ih (y/2) (by rw[rn] at hy;omega),ZcL y O];omega
  exact key _ x h
theorem KA (v:Nat) (h:v<=9223372036854775807) (w:aq):
  cK 164 #[.int .u64 (v:Int)] w λx w'=>x=.returned ((eO v:Nat):Int)/\w=w':=by refine(Tryz.bits_Len (v:Int) w O O).mono ?_;rintro x w' ⟨rfl,d⟩;exact⟨ZZ (by rw[ep,bitLen_eq _ O]),d.symm⟩
theorem K0 {dv:aI} {e:En} (h:fp w b g t) (ht:lK t) (F:dY w eb dv e) (I:dE 0 e) (v:Nat) (a8:v<4611686018427387904) (a5:e.out.length<=800000):
  Calls prog 120 #[(b,0),(eb,0),v] w λx w'=>x=.returned (.tuple #[])/\fp w' b g (kU v (t,e)).1/\∃R,dY w' eb R (kU v (t,e)).2/\Fr (tc g eb dv) w w'/\Zu w dv R:=by
 have hb:=Jv a8;have z:=J (KA v O);obtain⟨n,G⟩:=ay (eO v);have E:kU v (t,e)=((fM 6 n 1 t e).1,if 2<=n then mO (n-1) v (fM 6 n 1 t e).2 else(fM 6 n 1 t e).2):=(by unfold kU;rw[G]);rw[G] at z hb;obtain⟨k1,k2,k3⟩:=AY 6 n 1 ht.1 vN I;have B:=J (Zk9 h ht F I n O a5)
 have d:(fM 6 n 1 t e).2.out<=e.out.length+12:=by
  have key:∀(j m:Nat) (t:List Nat) (e:En),(fM j n m t e).2.out<=e.out.length+2*j:=by intro j;exact Nu
  have:=key 6 1 t e;omega
 have a9:=h.foot F;generalize fM 6 n 1 t e=D at*;obtain⟨b3,b2⟩:=D;simp only at E B k3 d;have k:=J E;have b0:¬(4611686018427387903:Int)<v:=O;have b1:¬(v:Int)<0:=O;clear E G k1 k2 h F ht I a9;by_cases L:2<=n;.rw[Vag L] at k;have a7:(2:Int)<=n:=O;have i1:(n:Int)-1=((n-1:Nat):Int):=O;obtain⟨q,S⟩:=ay (n-1);rw[S] at i1 k;have a2:q<=62:=O;clear S;go_in;go_wp21;refine cp (z.o _) ?_;go_wp21;refine aP B.o λw1 ⟨u,a0,p,l,y⟩=>?_;have Hd:=J (Z8a p k3 q v a2 O O);have a6:=l.size;have Q:=u.foot p;go_wp21;refine aP Hd.o λb4 ⟨a1,a3,M,a4⟩=>?_;go_wp2;go_end0;rw[k.o];exact⟨rfl,u.fr M Q.1 Q.2,a1,a3,KG l M y,y.trans a4 a6⟩
 rw[aD L] at k;have a7:¬(2:Int)<=n:=O;clear L;go_in;go_wp21;refine cp (z.o _) ?_;go_wp21;refine aP B.o λw1 ⟨u,a0,p,l,y⟩=>?_;go_wp2;go_end0;rw[k.o];exact⟨rfl,u,a0,p,l,y⟩
theorem ZpB (n x:Nat) (d:n<=61) (g:x<2 ^ n):bits .or .i64 (IntKind.i64.wrap (2 ^ n)) (x:Int)=((2 ^ n+x:Nat):Int):=by have h1:(2:Nat) ^ n<=2 ^ 61:=pQ O d;have e:((2:Int) ^ n)=((2 ^ n:Nat):Int):=(by rw[Int.natCast_pow];rfl);rw[e,IntWalk.i64_in _ O,W9 _ _ O O,nat_join n _ _ (by rw[Nat.mod_self]) g]
theorem ZbI (d:De) (h:n<2):wA n d=n:=by unfold wA;rw[Vag h]
theorem ZeQ (d:De):wA 63 d= -1:=rfl
theorem Zj7 (d:De) (h:¬n<2) (g:n≠63):wA n d=((2 ^ (n-1)+(lr (n-1) 0 d).1:Nat):Int):=by unfold wA;rw[aD h,aD g]
theorem ZmT (t:List Nat) (d:De) (n:Nat) (j:List Nat) (g:De) (h:ej 6 1 t d=(n+64,j,g)):
  gC t d=(wA n g,j,if n<2 then g else if n=63 then g else(lr (n-1) 0 g).2):=by unfold gC;rw[h];simp only[vI]
theorem KZ {d:De} (h:fp w b g t) (ht:lK t) (S:dD w eb d) (I:DV 0 d):
  Calls prog 217 #[(b,0),(eb,0)] w λx w'=>x=.returned (.int .i64 (gC t d).1)/\fp w' b g (gC t d).2.1/\dD w' eb (gC t d).2.2/\Fr (vg g eb) w w':=by
 have p:=Zk8 h ht S I;obtain⟨k1,k2,k3,a1,a2⟩:=DK 6 1 t d ht.1 vN I;have k:=ZmT t d;generalize ej 6 1 t d=D at*;obtain⟨m,a9,u⟩:=D;simp only at p k3 a1 a2;obtain⟨n,rfl⟩:∃n,m=n+64:=⟨m-64,O⟩;have k:=k n a9 u rfl;rw[vI] at p;have p:=J p;have G:=J k;have b3:n<64:=O;clear k1 k2 a1 a2 k h ht S I;by_cases l:n<2
 .have j:=G.o;rw[Vag l,ZbI u l] at j;have E:=J j;have a7:n=0\/n=1:=O;clear j l;rcases a7 with rfl|rfl
  all_goals
   go_in;go_wp21;refine aP p.o λw1 ⟨y,z,B⟩=>?_;go_wp2;go_ret;rw[E.out];exact⟨rfl,y,z,B⟩
 have b0:((n:Int)==0)=false:=rT;have b1:((n:Int)==1)=false:=rT;by_cases F:n=63;.have j:=G.o;rw[aD l,Vag F] at j;subst F;rw[ZeQ] at j;have E:=J j;clear j l;go_in;go_wp21;refine aP p.o λw1 ⟨y,z,B⟩=>?_;go_wp2;go_ret;rw[E.out];exact⟨rfl,y,z,B⟩
 have R:((n:Int)==63)=false:=rT;have j:=G.o;rw[aD l,aD F,Zj7 u l F] at j;have E:=J j;obtain⟨q,a0⟩:=ay (n-1);rw[a0] at E;have a5:q<=61:=O;have i1:(n:Int)-1=(q:Int):=O;have b2:IntKind.i64.wrap (q:Int)=(q:Int):=lO;have b5:0<=(q:Int):=O;have L:=(Ma q 0 u k3).2;rw[jK,Et] at L;have a3:=ZpB q (lr q 0 u).1 a5 L;have a4:=J a3;clear j l F a0 L a3;go_in;go_wp21;refine aP p.o λw1 ⟨y,z,B⟩=>?_;have Hd:=J (λW (a6:dD W eb u)=>Z86 a6 k3 q O);have Q:=y.onl z;go_wp2;go_region_with ((go_at_call 247;refine(Hd.o _ z.drew).mono ?_;rintro x b4 ⟨rfl,a8,M⟩))
 all_goals
  go_wp2;go_ret;rw[E.out];exact⟨ZZ a4.o,y.drew.fr M Q.1 Q.2,a8,B.drew.trans' M (λi hi e=>.inr e)⟩
theorem ZbD (l:List Nat) (v:Nat):∀x:List Nat×En,XW (l++[v]) x=kU v (XW l x):=by
 induction l with
 |nil=>intro x;rfl
 |cons a l ih=>intro x;exact ih _
theorem ZbE (l:List Nat) (k:Nat) (h:k<l) (x:List Nat×En):XW (l.take (k+1)) x=kU (l.getD k 0) (XW (l.take k) x):=by rw[dK h,ZbD];congr 1;simp[List.getD,h]
theorem KR (n:Nat) (j:Nat):∀(m:Nat) (t:List Nat) (e:En),(fM j n m t e).2.out<=e.out.length+2*j:=Nu
theorem K1 (v:Nat) (d:v<4611686018427387904) (x:List Nat×En):(kU v x).2.out<=x.2.out.length+134:=by have hb:=Jv d;have h1:=KR (eO v) 6 1 x.1 x.2;unfold kU;simp only;split;have:=Vc (eO v-1) v (fM 6 (eO v) 1 x.1 x.2).2;omega;omega
theorem Uc (l:List Nat):∀(x:List Nat×En),(∀v∈l,v<4611686018427387904)->(XW l x).2.out.length<=x.2.out+134*l.length:=by
 induction l with
 |nil=>intro x _;exact aU
 |cons v l ih=>intro x h;have h1:=ih (kU v x) (λu d=>h u (gM _ d));have g:=K1 v (h v fi) x;rw[XW,gd];omega
def bO (l:List Int):List aI:=l.map iv
theorem XN (l:List Int) (i:Nat) (h:i<l):(bO l)[i]? =(l.getD i 0:Int):=by have:l.getD i 0=l[i]:=(by simp[List.getD,h]);rw[this];simp[bO,iv,fb h]
theorem Ziq (h:fp w b g t0) (b6:At w A (bO (l.map Int.ofNat))) (a0:l≠[]->∀F o,A=some ⟨F,o,none⟩->F≠g) (n cap:Nat) (I:n=l) (g1:l.length<=4096) (a4:∀v∈l,v<4611686018427387904):
  Calls prog 191 #[.iface 191 (.pointer (some (b,0))),(A,n,cap)] w λx w'=>x=.returned (bs (jk l))/\Fr (only g) w w':=by
 have d:=Zj (n:Int) O O w;rw[ep,I] at d;have e8:=rK l;rw[<-Z0] at e8;have L:jk l=bi l.length++if l=[] then[] else ji (XW l (t0,e0)).2:=rfl;generalize D:bs (bi l.length)=s1 at*;obtain⟨d,a6,S,Ha,B⟩:=ii d D h b6 I;have g2:n<=4096:=O;rw[<-I] at d;clear D h b6 I;by_cases h0:l=[];.rw[Vag h0,fg] at L;have b9:n=0:=(by rw[B.o,h0];rfl);subst b9;have M:=J L;go_in;go_wp21;refine aP d.o λw1 G=>?_;go_wp2;go_ret;exact⟨Bc (by rw[M.o,a6.o]),Fr.of_below G⟩
 rw[aD h0] at L;have a0:=a0 h0;have b9:0<n:=by rw[B.o];exact List.length_pos_iff.2 h0
 have f5:((n:Int)==0)=false:=rT;obtain⟨M,R,y⟩:=bD L a0 a4;go_in;go_wp21;refine aP d.o λw1 G=>?_;have d1:=J (Vf w1);go_wp21;refine aP d1.o λe9 ⟨d7,aa⟩=>?_;have D:=G.size;have a1:=G.trans (aa.mono D);have e4:=S.o.below a1;have e3:=Ha.o.below a1;have f3:b<w:=S.o.1.lt;have f6:g<w:=S.o.2.lt;have e5:Fr (only g) w e9:=Fr.of_below a1;go_wp2;go_loopw [8,19] (λ_ i wr=>∃(k:Nat) (a2:aI),k<=n/\i=k/\fp wr b g (XW (l.take k) (t0,e0)).1/\dY wr w1.heap.size a2 (XW (l.take k) (t0,e0)).2/\At wr A (bO (l.map Int.ofNat))/\Fr (only g) w wr/\(∀j,a2.ownBlock=some j->w.heap.size<=j)) (λ_ i _=>(n-intOf i).toNat);exact⟨0,_,O,rfl,e4,d7,e3,e5,Cx⟩;obtain⟨k,a2,g0,rfl,c3,t,a8,a5,f2⟩:=hrel;obtain⟨b8,u⟩:=Ud (l.take k) (x:=(t0,e0)) zi xG;have Q:=Uc (l.take k) (t0,e0) (λv a4=>y.o v (Ag a4));rw[show(e0.out.length)=0 from rfl,ek] at Q;by_cases ab:k<n
 .have z:k<l:=(by rw[<-B.o];exact ab);have b2:=ZbE l k z (t0,e0);obtain⟨v,q⟩:=ay (l.getD k 0);have e6:v<4611686018427387904:=EL;obtain⟨f7,g3,d9,f8,g4⟩:=a8.get k (v:Int) D8;subst d9;rw[q] at b2;generalize XW (l.take k) (t0,e0)=X at*;obtain⟨g6,f9⟩:=X;simp only at b8 u Q c3 t;obtain⟨c9,b1,c8,a9⟩:=dc (K0 c3 b8 t u v e6 O) b2 a8 f2;go_wp21;refine aP c9.o λc4 ⟨d3,b0,c5,d4,e7⟩=>?_;have b3:Fr (only g) w c4:=a5.trans' d4 (λi hi p=>by rcases p with p|p|p;exact p;exact O;have:=a9.o i p;omega);have f4:=a5.size;have c6:=Ha.o.keep b3 (λF o e e2=>R.o F o e e2);have c7:∀j,b0.ownBlock=some j->w.heap.size<=j:=by intro j b7;rcases e7 with a3|a3;exact a9.o j (a3▸b7);have:=a3 j b7;omega
  go_wp2;go_roundw;exact⟨k+1,b0,O,ci,by rw[b1.o];exact d3,by rw[b1.o];exact c5,c6,b3,c7⟩;simp[intOf]<;>omega
 have d8:k=n:=O;subst d8;have d5:l.take k=l:=d' (by rw[B.o];exact aU);rw[d5] at t u Q;obtain⟨E,e1⟩:=ay (XW l (t0,e0));rw[e1] at t u Q M;have a7:=J (RK t u.low O);have b5:(ji E.2).length<=600000:=by unfold ji;rw[bV,Ye];omega
 rw[<-Z0] at b5;obtain⟨g5,b4⟩:=ay (bs (ji E.2));rw[b4] at a7 b5;have d2:=J b4;go_wp21;refine aP a7.o λc4 d6=>?_;go_wp2;go_ret;exact⟨Bc (by rw[M.o,<-Z9,a6.o,d2.o]),a5.below d6⟩
theorem YF (t:At w A (bO (l.map Int.ofNat))) (n cap:Nat) (B:n=l) (u:l.length<=4096) (D:∀v∈l,v<4611686018427387904):
  Calls prog 139 #[(A,n,cap)] w (bM w (.tuple #[bs (jk l),(0:Int)])):=by
 have G:=J (K2 w);have p:=J B;have b0:n<=4096:=O;obtain⟨Ha,y,E⟩:=bD t D u;clear B t D u;go_in;go_wp2;go_loop [5,11] (λ_ i=>∃k:Nat,k<=n/\i=k) (λ_ i=>(n-intOf i).toNat);exact Cw;obtain⟨k,a9,rfl⟩:=hrel;by_cases ab:k<n;.have z:k<l:=(by rw[<-p.o];exact ab);obtain⟨v,q⟩:=ay (l.getD k 0);have R:v<4611686018427387904:=EL;obtain⟨a3,b3,g,a4,b4⟩:=Ha.o.get k (v:Int) D8;subst g;have a0:¬(4611686018427387903:Int)<v:=O;have a5:¬(v:Int)<0:=O;clear R q;go_wp2;go_round;exact⟨k+1,O,ci⟩;simp[intOf]<;>omega
 have M:k=n:=O;subst M;go_wp21;refine(G.o).mono ?_;rintro x w1 ⟨b,rfl,S,Q,d⟩;have F:=J (Ziq Q (Ha.o.below d) (λI a1 o g a7=>by obtain⟨a2,b1,h1,a6,_⟩:=Ha.o 0 (by simp only[bO,c'];exact List.length_pos_iff.2 I);rw[g] at h1;injection h1 with h1;injection h1 with h1;omega) k cap p.o E.o y.o);go_wp21;refine aP F.o λb5 L=>?_;go_wp2;go_returns;exact⟨rfl,d.trans (L.toBelow' d.size (λj a8 e=>Jd))⟩
theorem Mc {d:De} (ht:lK t) (g:DV 0 d):lK (gC t d).2.1/\DV 0 (gC t d).2.2:=by obtain⟨k1,k2,k3,_⟩:=DK 6 1 t d ht.1 vN g;refine⟨⟨k1,k2.trans ht.2⟩,?_⟩;unfold gC;simp only;split;exact k3;split;exact k3;exact(Ma _ 0 _ k3).1
def gW:Nat->List Nat->De->List Int×List Nat×De
 |0,t,d=>([],t,d)
 |k+1,t,d=>((gW k t d).1++[(gC (gW k t d).2.1 (gW k t d).2.2).1],(gC (gW k t d).2.1 (gW k t d).2.2).2)
theorem ZeK (k:Nat):∀t d,gW (k+1) t d=((gC t d).1::(gW k (gC t d).2.1 (gC t d).2.2).1,(gW k (gC t d).2.1 (gC t d).2.2).2):=by
 induction k with
 |zero=>intro t d;rfl
 |succ k ih=>intro t d;rw[gW,ih,gW];rfl
theorem TV (k:Nat):∀t d,(uc k t d).1=(gW k t d).1/\(uc k t d).2=(gW k t d).2.2:=by
 induction k with
 |zero=>intro t d;exact⟨rfl,rfl⟩
 |succ k ih=>intro t d;rw[ZeK,uc];have:=ih (gC t d).2.1 (gC t d).2.2;exact⟨by rw[this.1],this.2⟩
theorem ZqM (k:Nat) {d:De} (g:lK t) (j:DV 0 d):lK (gW k t d).2.1/\DV 0 (gW k t d).2.2:=by
 induction k with
 |zero=>exact⟨g,j⟩
 |succ k ih=>exact Mc ih.1 ih.2
theorem JG (k:Nat) (t:List Nat) (d:De):(gW k t d).1=k:=by
 induction k with
 |zero=>rfl
 |succ k ih=>simp[gW,ih]
theorem d0_v (s:ax):DV 0 (d0 s):=by
 have h1:(uq s).size=4294967295:=by unfold uq;rw[yZ.1,yZ.1,yZ.1,yZ.1]
 exact⟨by show B6 0 (uq s).size;rw[h1];exact⟨aY,aY⟩,(yZ (d:=Xt (Xt (Xt ⟨s,0,4294967295,false,false⟩)))).2⟩
def xW (l:List Int):Array aI:=(bO l).toArray
theorem Zmv (l:List Int) (i:Nat) (z:Int):(xW l).setIfInBounds i z=xW (l.set i z):=by apply pS.1;simp[xW,bO,iv,List.map_set]
theorem ZiP (n:Nat):Array.replicate n (.int .i64 0:aI)=xW (List.replicate n 0):=by apply pS.1;simp[xW,bO,iv]
theorem Zmu (l:List Int) (i:Nat) (h:i<l):(xW l)[i]? =(l.getD i 0:Int):=by have:=XN l i h;simpa [xW] using this
def hG (w:aq) (v:aI) (l:List Int):Prop:=∃A cap,v=.slice A l cap/\At w A (bO l)
theorem hG.nil (w:aq):hG w (.slice none 0 0) []:=⟨none,0,rfl,At.nil _ _⟩
def dl (s:ax) (most:Int):List Int×Nat:=
 match gP s with
 |none=>([],12)
 |some (n,z)=>if 4096<n then([],12) else if most<(n:Int) then([],2) else if n=0 then([],if z<s then 12 else 0)
  else if pH (gW n t0 (d0 (s.drop z))).2.2=true then((gW n t0 (d0 (s.drop z))).1,0) else([],12)
def rh (w:aq) (x:Ending) (w':aq) (r:List Int×Nat):Prop:=∃v,x=.returned (.tuple #[v,r.2])/\hG w' v r.1/\Below w w w'
theorem Qk (e:Nat) (hb:Below w w w'):rh w (.returned (.tuple #[.slice none 0 0,e])) w' ([],e):=⟨_,rfl,hG.nil _,hb⟩
theorem Hk (h:gP s=some (n,z)) (d:¬most<(n:Int)):bG (bs s) 0 most=(n,bs (s.drop z),0):=by unfold bG;rw[Vag rfl,Zm,h];simp only;rw[aD d]
theorem VE (h:gP s=some (n,z)) (d:most<(n:Int)):bG (bs s) 0 most=(0,bs s,2):=by unfold bG;rw[Vag rfl,Zm,h];simp only;rw[Vag d]
theorem Ue (h:gP s=none):bG (bs s) 0 most=(0,bs s,12):=by unfold bG;rw[Vag rfl,Zm,h]
theorem Zf {w1 d:aq} (h:Below w w w1) (hb:w<=b) (k:Fr (only b) w1 d):Below w w d:=
 h.trans (k.toBelow' h.size (λj g e=>Cz))
theorem U8 (b:Nat) (s:ax) (F:s.length<=1099511627776) (most:Int) (hd:gP s=none\/∃n z,gP s=some (n,z)/\4096<n):
  Calls prog 218 #[.iface 191 (.pointer (some (b,0))),bs s,(4096:Int),most] w λx w'=>rh w x w' ([],12):=by
 have l:∃e,bG (bs s) 0 4096=(0,bs s,e)/\e≠0:=by rcases hd with h|⟨n,z,h,B⟩;exact⟨12,Ue h,O⟩;exact⟨2,VE h O,O⟩
 obtain⟨e,l,u⟩:=l;have G:(bs s).size<=1099511627776:=Cs;have p:=J (ZT (bs s) w);have q:=J (λW (h:RV W w (bs s) 0)=>E5);have y:((e:Int) !=0)=true:=eV;clear hd l u;generalize bs s=S at*;go_in;go_wp21;refine aP p.o λw1 ⟨j,k⟩=>?_;go_wp21;refine aP (q.o _ j) λD ⟨g,d⟩=>?_;have t:=J (Ze g);have aa:=Zf k aU d;clear j g k d;go_wp21;refine cp t.o ?_;go_wp2;go_returns;exact Qk 12 aa
theorem Zie (b:Nat) (s:ax) (F:s.length<=1099511627776) (most:Int) (hd:gP s=some (n,z)) (y:n<=4096) (u:most<(n:Int)):
  Calls prog 218 #[.iface 191 (.pointer (some (b,0))),bs s,(4096:Int),most] w λx w'=>rh w x w' ([],2):=by have l:=Hk (most:=4096) hd O;have G:(bs s).size<=1099511627776:=Cs;have p:=J (ZT (bs s) w);have q:=J (λW (h:RV W w (bs s) 0)=>E5);clear hd l;generalize bs s=S at*;generalize bs (s.drop z)=S2 at*;go_in;go_wp21;refine aP p.o λw1 ⟨j,k⟩=>?_;go_wp21;refine aP (q.o _ j) λB ⟨g,d⟩=>?_;have t:=J (Ze g);have aa:=Zf k aU d;clear j g k d;go_wp21;refine cp t.o ?_;go_wp2;go_returns;exact Qk 2 aa
theorem Zdo (b:Nat) (s:ax) (F:s.length<=1099511627776) (most:Int) (hd:gP s=some (0,z)) (I:¬most<0) (j:Nat) (d:j=if z<s then 12 else 0):
  Calls prog 218 #[.iface 191 (.pointer (some (b,0))),bs s,(4096:Int),most] w λx w'=>rh w x w' ([],j):=by have l:=Hk (most:=4096) hd O;have G:(bs s).size<=1099511627776:=Cs;have t:=J (ZT (bs s) w);have u:=J (λW (h:RV W w (bs s) 0)=>E5);have E:Hid (iQ (bs (s.drop z)) 0=j):=J (by rw[d];unfold iQ;rw[Z0,iW];by_cases h:z<s;rw[Vag h,Vag ⟨rfl,O⟩];rw[aD h,aD O]);clear hd l d;generalize bs s=S at*;generalize bs (s.drop z)=S2 at*;go_in;go_wp21;refine aP t.o λw1 ⟨p,q⟩=>?_;go_wp21;refine aP (u.o _ p) λL ⟨g,k⟩=>?_;have y:=J (Ze g);have B:=J (C7 g);have aa:=Zf q aU k;clear p g q k;go_wp21;refine cp y.o ?_;go_wp21;refine aP B.o λM D=>?_;go_wp2;go_returns;rw[E.o];exact Qk _ (Zf aa aU D)
theorem Zj5 (k:Nat) (t:List Nat) (d:De):gW (k+1) t d=((gW k t d).1++[(gC (gW k t d).2.1 (gW k t d).2.2).1],(gC (gW k t d).2.1 (gW k t d).2.2).2):=rfl
theorem Zn3 (L:List Int) (n:Nat) (v:Int) (h:L<n):(L++List.replicate (n-L.length) 0).set L v=(L++[v])++List.replicate (n-(L.length+1)) 0:=IU
def Zqo (w:aq) (g:Nat) (D:List Int×List Nat×De) (x:Ending) (w':aq):Prop:=
 ∃v,x=.returned (.tuple #[v,(Bw D.2.2:Int)])/\(pH D.2.2=true->hG w' v D.1)/\(pH D.2.2=false->v=.slice none 0 0)/\Fr (only g) w w'
theorem F4 (T:ax):Zb (bs T) 0 ((bs T).size:Int)=(bs T,bs [],0):=by unfold Zb;rw[Vag rfl,aD O,aD O,ep,Zm,Z0,Vbq,wY]
theorem Zdn (e2:fp w b g t0) (s:ax) (F:s.length<=1099511627776) (most:Int) (hd:gP s=some (n,z)) (i2:n<=4096) (i3:0<n) (i1:¬most<(n:Int)):
  Calls prog 218 #[.iface 191 (.pointer (some (b,0))),bs s,(4096:Int),most] w λx w'=>Zqo w g (gW n t0 (d0 (s.drop z))) x w':=by
 have l:=Hk (most:=4096) hd O;have G:(bs s).size<=1099511627776:=Cs;have g3:=J (ZT (bs s) w);have b3:=J (λW (h:RV W w (bs s) 0)=>E5);obtain⟨T,c8⟩:=ay (s.drop z);rw[c8] at b3⊢;have f9:(bs T).size<=1099511627776:=(by rw[Z0,<-c8,iW];omega);have e7:=F4 T;have d4:=J (λW (h:RV W w (bs T) 0)=>by have:=Zr h f9 ((bs T).size:Int);rw[e7] at this;exact this);have d5:=J (U' T);have h6:((n:Int)==0)=false:=rT;have f8:=d0_v T;clear hd l c8 e7;generalize bs s=S at*;obtain⟨h8,f5⟩:=ay (bs T);rw[f5] at b3 d4 d5 f9;have b8:=J e2;have g2:=J f8;clear f5 e2 f8;go_in;go_wp21;refine aP g3.o λw1 ⟨f2,f3⟩=>?_;go_wp21;refine aP (b3.o _ f2) λi5 ⟨a2,e8⟩=>?_;have d2:=J (Ze a2);have d3:=J (ZA a2 O);have aa:=Zf f3 aU e8;have f4:=J a2;clear f2 a2 f3 e8;go_wp21;refine cp d2.o ?_;go_wp21;refine cp d3.o ?_;go_wp21;refine aP (d4.o _ f4.o) λb1 ⟨h3,e6⟩=>?_;have c3:=Zf aa aU e6;clear e6 h3 d2 d3 f4 aa;go_wp21;refine aP (d5.o _) λd ⟨b2,an⟩=>?_;have g4:=c3.size;have i4:=b2.lt;have e5:=c3.trans (an.mono g4);have d9:=b8.o.below e5;have c6:=Y5 (P:=prog) 123 3 _ _ underlying123 Y2 rfl (n:Int) n rfl O O d;rw[ZiP] at c6;have d1:=J d9;have b4:=J b2;clear c3 an d9 b2;go_wp2;have h4:b<w:=b8.o.1.lt;have h7:g<w:=b8.o.2.lt;go_loopw [14,40] (λ_ i wr=>∃k:Nat,k<=n/\i=k/\fp wr b g (gW k t0 (d0 T)).2.1/\dD wr b1.heap.size (gW k t0 (d0 T)).2.2/\Bk wr d.heap.size 3 (xW ((gW k t0 (d0 T)).1++List.replicate (n-k) 0))/\Fr (only g) w wr) (λ_ i _=>(n-intOf i).toNat);exact⟨0,O,rfl,⟨d1.o.1.alloc _,d1.o.2.alloc _⟩,Bk.alloc b4.o _,Bk.new _ _ _,(Fr.of_below e5).alloc _⟩;obtain⟨k,i0,rfl,a0,E,u,a8⟩:=hrel;obtain⟨a5,a6⟩:=ZqM k zi g2.o;have a7:=JG k t0 (d0 T);by_cases ab:k<n
 .have a1:=Zj5 k t0 (d0 T);generalize gW k t0 (d0 T)=X at*;obtain⟨L,a9,a3⟩:=X;simp only at a5 a6 a7 a0 E u a1;have a4:=Zn3 L n (gC a9 a3).1 O;rw[a7] at a4;have t:=J (KZ a0 a5 E a6);have h1:=a0.onl E;have d8:d.heap.size≠g:=O;have d7:d.heap.size≠b1.heap.size:=O;obtain⟨y,f7⟩:=ay ((gC a9 a3).1);rw[f7] at a4 t a1;obtain⟨b9,g8,f6,e3⟩:=dc a1 a4 u (And.intro d8 d7);clear a1 a4 f7 a0 E a5 a6 u c6 h1 d8 d7;go_wp21;refine aP t.o λB ⟨e1,M,c9⟩=>?_;have b0:=f6.o.fr c9 (λF=>by rcases F with F|F;exact e3.o.1 F;exact e3.o.2 F);have h2:(L++List.replicate (n-k) 0).length=n:=CA;obtain⟨g1,h9⟩:∃g1:Int,B.cell? (d.heap.size,k)=g1:=⟨_,by rw[b0.cell,Zmu _ _ O]⟩;have h5:=b0.frozen k;have c5:=b0.put k y;rw[Zmv,g8.o] at c5;have R:fp (B.setCell (d.heap.size,k) y) b g (gC a9 a3).2.1:=e1.fr (S:=only d.heap.size) ((Fr.refl (only d.heap.size) B).setCell (p:=⟨d.heap.size,k,none⟩) (.inl rfl) _) (λe=>by have:b=d.heap.size:=e;omega) (λe=>by have:g=d.heap.size:=e;omega);have Q:dD (B.setCell (d.heap.size,k) y) b1.heap.size (gC a9 a3).2.2:=M.fr (S:=only d.heap.size) ((Fr.refl (only d.heap.size) B).setCell (p:=⟨d.heap.size,k,none⟩) (.inl rfl) _) (λe=>by have:b1.heap.size=d.heap.size:=e;omega);have g0:Fr (only g) w (B.setCell (d.heap.size,k) y):=(a8.trans' c9 (λi hi F=>by rcases F with F|F;exact F;omega)).setCell (p:=⟨d.heap.size,k,none⟩) (.inr (by show w.heap.size<=d.heap.size;omega)) _;obtain⟨g6,b6,b5,g5⟩:=dc c5 R Q g0;clear c5 R Q g0 e1 M c9 b0 a8 f6 h2;go_wp2;go_roundw;exact⟨k+1,O,ci,by rw[b9.o];exact b6.o,by rw[b9.o];exact b5.o,by rw[b9.o];exact g6.o,g5.o⟩;simp[intOf]<;>omega
 have h0:k=n:=O;subst h0;rw[fh,List.replicate_zero,fg] at u;have I:=J (Zih E);have c4:=u.at_;have e4:=J a7;obtain⟨D,c7⟩:=ay (gW k t0 (d0 T));rw[c7] at I c4 e4;have d6:=J c7;have g9:=J c4;clear c7 u a0 E a5 a6 c6 c4 a7;have g7:pH D.2.2=true\/pH D.2.2=false:=(by cases pH D.2.2<;>simp);rcases g7 with j|j;.have q:=L7 j;rw[q] at I;have t:=J j;have b7:=J q;clear j q;go_wp21;refine cp I.o ?_;go_wp2;go_returns;rw[d6.o];refine⟨.slice (some ⟨d.heap.size,0,none⟩) k k,by rw[b7.o];rfl,λ_=>⟨_,k,by rw[e4.o],g9.o⟩,(λh=>by rw[t.o] at h;cases h),a8⟩
 have q:=GL j;rw[q] at I;have t:=J j;have b7:=J q;clear j q;go_wp21;refine cp I.o ?_;go_wp2;go_returns;rw[d6.o];exact⟨.slice none 0 0,by rw[b7.o];rfl,(λh=>by rw[t.o] at h;cases h),λ_=>rfl,a8⟩
theorem ZlZ (s:ax) (most:Int):fc s most=if ∀v∈(dl s most).1,0<=v then dl s most else([],12):=by
 unfold fc dl;match gP s with
 |none=>simp
 |some (n,z)=>simp only;by_cases h1:4096<n;rw[Vag h1,Vag h1];simp;rw[aD h1,aD h1];by_cases d:most<(n:Int);rw[Vag d,Vag d];simp;rw[aD d,aD d];by_cases g:n=0;rw[Vag g,Vag g];simp;rw[aD g,aD g];obtain⟨l,p⟩:=TV n t0 (d0 (s.drop z));rw[l,p];by_cases j:pH (gW n t0 (d0 (s.drop z))).2.2=true;rw[Vag j];by_cases k:∀v∈(gW n t0 (d0 (s.drop z))).1,0<=v;rw[Vag ⟨j,k⟩,Vag k];rw[aD (λh=>k h.2),aD k];rw[aD (λh=>j h.1),aD j];simp
def Zod (w:aq) (g:Nat) (r:List Int×Nat) (x:Ending) (w':aq):Prop:=∃v,x=.returned (.tuple #[v,r.2])/\hG w' v r.1/\Fr (only g) w w'
theorem Zid (u:fp w b g t0) (s:ax) (k:s.length<=1099511627776) (most:Int):
  cK 218 #[.iface 191 (.pointer (some (b,0))),bs s,(4096:Int),most] w λx w'=>Zod w g (dl s most) x w':=by
 have conv:∀ {x w' e},rh w x w' ([],e)->dl s most=([],e)->Zod w g (dl s most) x w':=by rintro x w' e ⟨v,h1,d,l⟩ h;rw[h];exact⟨v,h1,d,Fr.of_below l⟩
 match hd:gP s with
 |none=>refine(U8 b s k most (.inl hd)).mono ?_;intro x w' h;exact conv h (by unfold dl;rw[hd])
 |some (n,z)=>
  by_cases h1:4096<n;.refine(U8 b s k most (.inr ⟨n,z,hd,h1⟩)).mono ?_;intro x w' h;exact conv h (by unfold dl;rw[hd];simp only;rw[Vag h1])
  by_cases d:most<(n:Int);.refine(Zie b s k most hd O d).mono ?_;intro x w' h;exact conv h (by unfold dl;rw[hd];simp only;rw[aD h1,Vag d])
  by_cases l:n=0;.subst l;refine(Zdo b s k most hd O _ rfl).mono ?_;intro x w' h;exact conv h (by unfold dl;rw[hd];simp only;rw[aD h1,aD d];simp only[if_true])
  refine(Zdn u s k most hd O O d).mono ?_;rintro x w' ⟨v,p,B,y,t⟩;have e:dl s most=if pH (gW n t0 (d0 (s.drop z))).2.2=true then((gW n t0 (d0 (s.drop z))).1,0) else([],12):=by unfold dl;rw[hd];simp only;rw[aD h1,aD d,aD l]
  rw[e];by_cases j:pH (gW n t0 (d0 (s.drop z))).2.2=true;rw[Vag j];rw[L7 j] at p;exact⟨v,p,B j,t⟩;have q:pH (gW n t0 (d0 (s.drop z))).2.2=false:=(by simpa using j);rw[aD j];rw[GL q] at p;have:=y q;subst this;exact⟨_,p,hG.nil _,t⟩
theorem rh.of {x:Ending} {r:List Int×Nat} {v:aI} (h1:x=.returned (.tuple #[v,r.2])) (d:hG w' v r.1) (g:Below w w w'):rh w x w' r:=⟨v,h1,d,g⟩
theorem Y1 (s:ax) (Q:s.length<=1099511627776) (most:Int):
  Calls prog 170 #[bs s,most] w λx w'=>rh w x w' (fc s most):=by
 obtain⟨F,G,MM⟩:=bD (K2 w) (λW b g (h:fp W b g t0)=>Zid h s Q most) (ZlZ s most);have L:(dl s most).1.length<=9223372036854775807:=by unfold dl;split;simp;split;simp;split;simp;split;split<;>simp;split;rw[JG];omega;simp
 generalize dl s most=r at*;obtain⟨l,I⟩:=r;simp only at MM L;generalize bs s=S at*;go_in;go_wp21;refine(F.o).mono ?_;rintro x w1 ⟨b,rfl,a0,D,y⟩;go_wp21;refine(G.o _ _ _ D).mono ?_;rintro x R ⟨v,rfl,⟨A,cap,rfl,t⟩,aj⟩;have aa:Below w w R:=y.trans (aj.toBelow' y.size (λj a4 e=>Jd));simp only at t;have z:=J t;clear t aj y D;go_wp2;go_loop [9,20] (λ_ i=>∃k:Nat,k<=l/\i=k/\Hid (∀v∈l.take k,0<=v)) (λ_ i=>(l.length-intOf i).toNat);exact⟨0,O,rfl,J (by simp)⟩;obtain⟨k,a5,rfl,ao⟩:=hrel;by_cases ab:k<l
 .obtain⟨v,p⟩:=ay (l.getD k 0);have d:l[k]=v:=(by rw[<-p];simp[List.getD,ab]);obtain⟨a2,a6,M,a3,a7⟩:=z.o.get k (.int .i64 v) (by rw[XN _ _ ab,p]);subst M;by_cases a1:v<0;.have B:¬∀u∈l,0<=u:=λh=>(by have:=h v (d▸dt _);omega);have q:Hid (fc s most=([],12)):=J (by rw[MM.o,aD B]);clear B p d;go_wp2;go_returns;rw[q.o];exact Qk 12 aa
  have E:Hid (∀u∈l.take (k+1),0<=u):=J (by intro u hu;rw[dK ab,d] at hu;exact PA);clear p d;exact Pj
 have E:∀u∈l,0<=u:=by have:=ao.o;rwa [d' O] at this
 have q:Hid (fc s most=(l,I)):=J (by rw[MM.o,Vag E]);clear E;go_wp2;go_returns;rw[q.o];exact rh.of rfl ⟨A,cap,rfl,z.o⟩ aa
end
variable{g:Nat}{r:List Nat}{w:aq}
def vy (j:Nat):List Nat:=List.range j++List.replicate (4096-j) 0
theorem ZjG (j:Nat) (h:j<4096):(vy j).set j j=vy (j+1):=by unfold vy;rw[nj _ _ (by simp),rm,fh,show 4096-j=(4096-(j+1))+1 from by exact O,pP,List.set_cons_zero,vK,er];rfl
theorem Z8X (j:Nat) (h:j<=4096):(vy j).length=4096:=by simp[vy];omega
theorem ZjF:vy 4096=r0:=by unfold vy r0;rw[fh,List.replicate_zero,fg]
theorem Kp (n:Nat):nc (List.replicate n 0)=Array.replicate n (.int .i64 0):=by apply pS.1;simp[nc]
theorem m_ (w:aq):
  Calls prog 291 #[] w λx w'=>x=.returned (.slice (some (w,0)) 4096 4096)/\Bk w' w 3 (nc r0)/\Below w w w':=by
 have g:=Y5 (P:=prog) 123 3 _ _ underlying123 Y2 rfl 4096 4096 rfl O O w;rw[<-Kp] at g;have h0:List.replicate 4096 0=vy 0:=(by unfold vy;rw[List.range_zero,pU]);rw[h0] at g;go_in;go_wp2;go_loopw [2,6] (λ_ i wr=>∃j:Nat,j<=4096/\i=j/\Bk wr w 3 (nc (vy j))/\Below w w wr) (λ_ i _=>(4096-intOf i).toNat);exact⟨0,O,rfl,Bk.new _ _ _,(bf _ _).alloc aU _⟩;obtain⟨j,u,rfl,d,k⟩:=hrel;by_cases ab:j<4096;.have t:=d.cell j;rw[Xj _ _ (by rw[Z8X j u];exact ab)] at t;have B:=d.frozen j;have l:=d.put j j;rw[uX,ZjG j ab] at l;have q:=J l;have z:(j:Int)<4096:=O;go_wp2;go_roundw;exact⟨j+1,O,ci,q.o,k.setCell (p:=⟨w,j,none⟩) aU _⟩;simp[intOf]<;>omega
 have y:j=4096:=O;subst y;rw[ZjF] at d;go_wp2;go_ret;exact⟨rfl,d,k⟩
theorem Zca (h:Bk w g 3 (nc r)) (D:r.length=4096) (n:Nat) (B:n∈r):
  Calls prog 264 #[.slice (some (g,0)) 4096 4096,n] w λx w'=>x=.returned ((ix r n:Nat):Int)/\w=w':=by
 obtain⟨d,E,t⟩:=bD h B D;have G:ix r n<4096:=(by rw[<-D];exact zj.2 B);go_in;go_wp2;go_loop [5,8] (λ_ i=>∃j:Nat,j<=ix r n/\i=j) (λ_ i=>(4096-intOf i).toNat);exact Cw;obtain⟨j,I,rfl⟩:=hrel;have z:=d.o.cell j;rw[Xj _ _ (by rw[t.o];omega)] at z;have L:(j:Int)<4096:=O;obtain⟨y,q⟩:=ay (r.getD j 0);have p:r[j]? =some y:=by have u:j<r:=(by rw[t.o];omega);rw[fb u,<-q];simp[List.getD,u]
 rw[q] at z;by_cases ab:j<ix r n
 .have F:((n:Int)==y)=false:=by rw[lL];intro e;have:n=y:=O;exact Zel j ab (this▸p)
  go_wp2;go_round;exact⟨j+1,O,ci⟩;simp[intOf]<;>omega
 have l:j=ix r n:=O;have F:((n:Int)==y)=true:=by rw[beq_iff_eq];have:=ix_get? E.o;rw[<-l,p] at this;injection this with this;omega
 have k:=J l;clear q p l;go_wp2;go_ret;exact⟨ZZ (by rw[k.o]),rfl⟩
theorem Zbl (h:Bk w g 3 (nc r)) (k:r.length=4096) (n:Nat) (j:n∈r):
  Calls prog 263 #[.slice (some (g,0)) 4096 4096,n] w λx w'=>x=.returned (.tuple #[((ix r n:Nat):Int),((ix r n:Nat):Int)])/\w=w':=by have d:=J (Zca h k n j);go_in;go_wp21;refine cp d.o ?_;go_wp2;go_ret2;exact⟨rfl,rfl⟩
theorem Z7E (h:Bk w g 3 (nc r)) (k:r.length=4096) (n:Nat) (j:n<4096):
  Calls prog 265 #[.slice (some (g,0)) 4096 4096,n] w λx w'=>x=.returned (.tuple #[((r.getD n 0:Nat):Int),n])/\w=w':=by have d:=h.cell n;rw[Xj _ _ (by rw[k];exact j)] at d;have p:(n:Int)<4096:=O;obtain⟨y,l⟩:=ay (r.getD n 0);rw[l] at d⊢;go_in;go_wp2;go_ret2;exact⟨rfl,rfl⟩
end Go.Proofs.Y
namespace Wv
open Go Go.RowKit
theorem Ze4 {S:Nat->Prop} {a w:aq} {g:Nat} (h:Fr S a w) (j:S g) (d:Array aI):Fr S a (w.setRow g d):=
 h.trans ⟨rfl,rfl,rfl,by simp[World.setRow],λk p l=>setRow_other w g k d (λe=>l (e▸j))⟩
end Wv
namespace Go.Proofs.Y
open Wv Go.RowKit
variable{A:bN}{g:Nat}{r:List Nat}{w:aq}
theorem ZbB (r:List Nat) (h:0<r.length):Xv r 0=r:=by
 unfold Xv;match r with
 |a::t=>rfl
theorem ZeF (r:List Nat) (p:Nat) (h:p<r):(r.take 1++r.take p++r.drop (1+p)).set 0 (r.getD p 0)=Xv r p:=by
 unfold Xv;match r,h with
 |a::t,h=>rw[List.eraseIdx_eq_take_drop_succ,IH 1 p];rfl
theorem Lj (t:List Nat):(nc t).toList=t.map (λn:Nat=>(Value.int .i64 (n:Int))):=by simp[nc]
theorem Zpc:(prog.info? 3).map (·.size)=some 1:=qD
theorem ZeE (h:Bk w g 3 (nc r)) (k:r.length=4096):
  Calls prog 292 #[.slice (some (g,0)) 4096 4096,(0:Int)] w λx w'=>x=.returned (.slice (some (g,0)) 4096 4096)/\Bk w' g 3 (nc (Xv r 0))/\Fr (only g) w w':=by
 have j:=h.cell 0;rw[Xj _ _ (by rw[k];omega)] at j;have z:=h.frozen 0;have d:=h.put 0 (.int .i64 ((r.getD 0 0:Nat):Int))
 have q:r.set 0 (r.getD 0 0)=Xv r 0:=by
  rw[ZbB r O];match r,k with
  |a::t,_=>rfl
 rw[uX,q] at d;obtain⟨y,u⟩:=ay (r.getD 0 0);have D:IntKind.i64.wrap 1=1:=lO;rw[u] at j d;have B:=run_copy_none (P:=prog) w.drew 123 123 3 3 (some ⟨g,0,none⟩) (some ⟨g,0,none⟩) 0 0 0 0 underlying123 Zpc rfl;have l:=J d;go_in;go_wp2;go_region;go_wp2;go_ret;exact⟨rfl,by have:=l.o.drew;exact this,((Fr.refl (only g) w).setCell (p:=⟨g,0,none⟩) (.inl rfl) _).drew⟩
theorem Zj2 {w : aq} {g : Nat} {r : List Nat} (h : Bk w g 3 (nc r)) (M : r.length = 4096) (p : Nat) (a6 : p < 4096) (a9 : 0 < p) :
    Calls prog 292 #[.slice (some (g,0)) 4096 4096,p] w λx w'=>x=.returned (.slice (some (g,0)) 4096 4096)/\Bk w' g 3 (nc (Xv r p))/\Fr (only g) w w':=by
  have B:=h.cell p;rw[Xj _ _ (by rw[M];omega)] at B;have a4:(p:Int)<4096:=O;have a5:IntKind.i64.wrap ((p:Int)+1)=(p:Int)+1:=lO;have b0:(1:Int)<=p:=O;have L:(p:Int)+1<=4096:=O;have a8:(0:Int)<=p+1:=O;have a1:max ((p:Int)+1) 0=(p:Int)+1:=O;have b1:(1:Int)<=p+1:=O;have a2:((p:Int)+1).toNat=p+1:=O;have a7:¬p=0:=O;have D:(0:Int)<=p:=O;have S:(p:Int)<=4096:=O;have t := run_copy_row (P := prog) w.drew 123 123 3 3 g 1 p p ⟨g, 0, none⟩ p p (nc r) 3 ((r.take p).map (λn : Nat => (Value.int .i64 (n : Int)))) underlying123 Zpc h (by simp; omega) (λj v d => by rw[Go.WideShapes.add_plain,jK];have h1:=h.cell j;show w.cell? _=_;rw[h1,<-Array.getElem?_toList,Lj];rw[B',List.getElem?_take] at d;split at d;exact d;cases d) (by simp[nc];omega) (λv d=>by obtain⟨n,_,rfl⟩:=iX.1 d;rfl);obtain⟨C,z⟩:=ay (((nc r).toList.take 1++(r.take p).map (λn:Nat=>(Value.int .i64 (n:Int)))++(nc r).toList.drop (1+((r.take p).map (λn:Nat=>(Value.int .i64 (n:Int)))).length)).toArray);rw[z] at t;have q:C=nc (r.take 1++r.take p++r.drop (1+p)):=by rw[<-z];apply pS.1;rw[Lj,Lj,c',ek,show min p r.length=p from by exact O];simp[B',List.map_drop]
  have l:Bk (w.drew.setRow g C) g 3 C:=setRow_heap w.drew g _ C _ (0,0) h;have I:Fr (only g) w (w.drew.setRow g C):=Ze4 ((Fr.refl (only g) w).drew) rfl C;generalize w.drew.setRow g C=W at*;obtain⟨y,Q⟩:=ay (r.getD p 0);rw[q] at l;have u:=l.put 0 y;have E:=ZeF r p O;rw[Q] at E B;rw[uX,E] at u;obtain⟨F,a3⟩:∃F:Int,W.cell? ⟨g,0,none⟩=F:=⟨_,by rw[l.cell,Xj _ _ (by rw[bV,bV,ek];omega)]⟩;have a0:=l.frozen 0;have k:(goInt ((r.take p).map (λn:Nat=>(Value.int .i64 (n:Int)))))=.int .i64 (p:Int):=by rw[c',ek,show min p r.length=p from by exact O];rfl
  rw[k] at t;have G:=J u;have R:=J I;go_in;go_wp2;go_region;go_wp2;go_ret;exact⟨rfl,G.o,R.o.setCell (p:=⟨g,0,none⟩) (.inl rfl) _⟩
theorem VC (h:Bk w g 3 (nc r)) (d:r.length=4096) (p:Nat) (j:p<4096):
  cK 292 #[.slice (some (g,0)) 4096 4096,p] w λx w'=>x=.returned (.slice (some (g,0)) 4096 4096)/\Bk w' g 3 (nc (Xv r p))/\Fr (only g) w w':=by rcases rS p with rfl|h0;exact ZeE h d;exact Zj2 h d p j h0
def vw:List Nat->List Nat->List Nat
 |r,[]=>r
 |r,n::t=>vw (Xv r (ix r n)) t
def wE:List Nat->List Nat->List Nat
 |r,[]=>r
 |r,n::t=>wE (Xv r n) t
theorem Z8u (l:List Nat) (n:Nat):∀r,Yn r (l++[n])=Yn r l++[ix (vw r l) n]/\vw r (l++[n])=Xv (vw r l) (ix (vw r l) n):=by
 induction l with
 |nil=>intro r;exact⟨rfl,rfl⟩
 |cons a l ih=>intro r;obtain⟨h1,d⟩:=ih (Xv r (ix r a));exact⟨by rw[jw,Yn,h1];rfl,by rw[jw,vw,d];rfl⟩
theorem Z5S (l:List Nat) (n:Nat):∀r,Yc r (l++[n])=Yc r l++[(wE r l).getD n 0]/\wE r (l++[n])=Xv (wE r l) n:=by
 induction l with
 |nil=>intro r;exact⟨rfl,rfl⟩
 |cons a l ih=>intro r;obtain⟨h1,d⟩:=ih (Xv r a);exact⟨by rw[jw,Yc,h1];rfl,by rw[jw,wE,d];rfl⟩
theorem Znn (l:List Nat):∀r,(∀n∈l,n∈r)->(vw r l).length=r.length/\∀m,m∈r->m∈vw r l:=by
 induction l with
 |nil=>intro r _;exact⟨rfl,λm h=>h⟩
 |cons a l ih=>intro r h;have h1:=zj.2 (h a fi);obtain⟨a1,a2⟩:=ih (Xv r (ix r a)) (λn g=>FZ h1 (h n (gM _ g)));exact⟨a1.trans (XB h1),λm d=>a2 m (FZ h1 d)⟩
theorem Zno (l:List Nat):∀r,(∀n∈l,n<r.length)->(wE r l).length=r.length:=by
 induction l with
 |nil=>intro r _;rfl
 |cons a l ih=>intro r h;have h1:=h a fi;exact(ih (Xv r a) (λn d=>by rw[XB h1];exact h n (gM _ d))).trans (XB h1)
theorem VD (L:List Nat) (n v:Nat) (h:L<n):(L++List.replicate (n-L.length) 0).set L v=(L++[v])++List.replicate (n-(L.length+1)) 0:=IU
theorem ZkY (l:List Nat):(nc l).toList=bO (l.map Int.ofNat):=by simp[nc,bO,iv]
theorem Sb (l:List Nat) (k:Nat) (h:k<l):l.take (k+1)=l.take k++[l.getD k 0]:=by rw[dK h];simp[List.getD,h]
def vC (w:aq) (x:Ending) (w':aq) (r:List Nat×Nat):Prop:=∃v,x=.returned (.tuple #[v,r.2])/\hG w' v (r.1.map Int.ofNat)/\Below w w w'
theorem Jy {w':aq} (e:Nat) (hb:Below w w w'):vC w (.returned (.tuple #[.slice none 0 0,e])) w' ([],e):=⟨_,rfl,hG.nil _,hb⟩
theorem Z3Z {l:List Int} (M:At w A (bO l)) (n cap:Nat) (F:n=l) (j:n<=9223372036854775807) (hb:lm l≠0):
  Calls prog 262 #[(A,n,cap),.func (.func 263) #[] #[]] w λx w'=>vC w x w' ([],lm l):=Ng
theorem Z56 {l:List Nat} (d3:At w A (bO (l.map Int.ofNat))) (n cap:Nat) (d4:n=l) (e8:l.length<=4096) (d5:∀v∈l,v<4096):
  Calls prog 262 #[(A,n,cap),.func (.func 263) #[] #[]] w λx w'=>vC w x w' (Yn r0 l,0):=by obtain⟨Ha,d,y⟩:=bD d3 d4 d5;have f6:n<=4096:=O;have f4:¬(4096:Int)<n:=O;obtain⟨e9,d7,e2⟩:=bD (m_ w) (λ(v:Nat) (h:v<4096)=>show v∈r0 from List.mem_range.2 h) (show r0.length=4096 from rm);clear d3 d4 d5 e8;go_in;go_wp2;go_loop [7,19] (λ_ i=>∃k:Nat,k<=n/\i=k) (λ_ i=>(n-intOf i).toNat);exact Cw;obtain⟨k,g1,rfl⟩:=hrel;by_cases ab:k<n;exact KK;have e6:k=n:=O;subst e6;go_wp21;refine aP e9.o λw1 ⟨c4,c3⟩=>?_;have e4:=c3.size;have c7:=Y5 (P:=prog) 123 3 _ _ underlying123 Y2 rfl (k:Int) k rfl O O w1;rw[<-Kp] at c7;have d2:=Ha.o.below c3;have f8:=c4.lt;have c6:=c4.alloc (.cells (nc (List.replicate k 0)) 3);have aa:=c3.alloc e4 (.cells (nc (List.replicate k 0)) 3);have d6:=d2.alloc (.cells (nc (List.replicate k 0)) 3);have c8:=Bk.new w1 3 (nc (List.replicate k 0));have M:=J (show w.heap.size<w1.heap.size/\w.heap.size≠w1.heap.size from⟨O,O⟩);clear c4 c3 d2;go_wp2;go_loopw [8,10,11,12,13,36] (λf3 _ _ _ _ i wr=>∃j:Nat,j<=k/\i=j/\f3=.slice (some (w,0)) 4096 4096/\Bk wr w 3 (nc (vw r0 (l.take j)))/\Bk wr w1.heap.size 3 (nc (Yn r0 (l.take j)++List.replicate (k-j) 0))/\At wr A (bO (l.map Int.ofNat))/\Below w w wr) (λ_ _ _ _ _ i _=>(k-intOf i).toNat);exact⟨0,O,rfl,rfl,c6,c8,d6,aa⟩;clear c6 c8 d6 aa c7;obtain⟨j,g0,rfl,rfl,G,g,a2,E⟩:=hrel;have a8:∀m∈l.take j,m<4096:=λm c5=>y.o m (Ag c5);by_cases e7:j<k;have z:j<l:=(by rw[<-d.o];exact e7);obtain⟨v,q⟩:=ay (l.getD j 0);have a5:v<4096:=EN;obtain⟨f9,g3,S,D,b1⟩:=a2.get j (v:Int) Ee;subst S;obtain⟨F,a3⟩:=Z8u (l.take j) v r0;rw[<-q,<-Sb l j z,q] at F a3;have I:=YY (l.take j) r0;rw[ek,Nat.min_eq_left O] at I;obtain⟨e3,e1⟩:=Znn (l.take j) r0 (λm c5=>d7.o m (a8 m c5));have a1:=e3.trans e2.o;have a9:=e1 v (d7.o v a5);obtain⟨R,t⟩:=ay (vw r0 (l.take j));obtain⟨Q,u⟩:=ay (Yn r0 (l.take j));rw[t] at F a3 G a1 a9;rw[u] at F g I;have b6:=J (Zbl G a1 v a9);have c9:ix R v<4096:=(by rw[<-a1];exact zj.2 a9);obtain⟨a4,d8⟩:=ay (ix R v);rw[d8] at F a3 b6 c9;clear d8;obtain⟨b7,b9,g2⟩:=bD F a3 G;have a7:=VD Q k a4 O;rw[I] at a7;have e5:=J a7;have a6:=g.put j (.int .i64 ((a4:Nat):Int));rw[uX,e5.o] at a6;have b5:(Q++List.replicate (k-j) 0).length=k:=CA;obtain⟨d9,f7⟩:∃d9:Int,wr.cell? (w1.heap.size,j)=d9:=⟨_,by rw[g.cell,Xj _ _ O]⟩;have f5:=g.frozen j;have b0:=G.off (p:=⟨w1.heap.size,j,none⟩) (M.o.2) (.int .i64 ((a4:Nat):Int));have b2:=E.setCell (p:=⟨w1.heap.size,j,none⟩) (II M.o.1) (.int .i64 ((a4:Nat):Int));obtain⟨b3,a0,L⟩:=bD (VC b0 a1 a4 (by exact c9)) a6 b2;exact K8;have f2:j=k:=O;subst f2;have B:l.take j=l:=d' (by rw[<-d.o];exact aU);rw[B,fh,List.replicate_zero,fg] at g;have b4:=J g.at_;have I:=J (YY l r0);exact NM
