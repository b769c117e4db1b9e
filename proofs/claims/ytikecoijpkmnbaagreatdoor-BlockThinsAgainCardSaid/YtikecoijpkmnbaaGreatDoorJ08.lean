import Derived.Test.YtikecoijpkmnbaaGreatDoorJ07
import Derived.Test.YtikecoijpkmnbaaGreatDoorLShelf
import Derived.Laws.CopyOwn
set_option linter.all false
set_option maxRecDepth 100000
set_option maxHeartbeats 0
open Go.Proofs.Tryz (prog underlying103)
section
variable{P Q:Prop}
theorem rT(h:P:=by rw[lL];omega):P:=h
theorem Cs(h:P:=by rw[Z0];exact F):P:=h
theorem Cz(h:P:=by have:j=b:=e;omega):P:=h
theorem CA(h:P:=by rw[Vab,iE];omega):P:=h
theorem E5(h:P:=by have:=Zk h G 4096;rw[u] at this;exact this):P:=h
theorem PA(h:P:=by rcases lc.1 hu with h|h;exact ao.o u h;rw[jv] at h;omega):P:=h
theorem Pt(h:P:=by
 cases j with
 |zero=>simp at hu;subst hu;exact M
 |succ j=>grind):P:=h
theorem W2A(h:P:=by exact⟨0,by omega,rfl,Bk.new _ _ _,(bf _ _).alloc aU _,by simp⟩):P:=h
theorem Pj(h:P:=by
 go_wp2;go_round;case rel=>exact⟨k+1,by omega,by go_num,z⟩
 simp[intOf]<;>omega):P:=h
theorem Pf(h:P:=by have h1:l.getD k 0=l[k]:=(by simp[List.getD,y]);rw[<-q,h1];exact z.o _ (dt _)):P:=h
theorem PW(h:P:=by have h1:l.getD j 0=l[j]:=(by simp[List.getD,y]);rw[<-q,h1];exact z.o _ (dt _)):P:=h
theorem IU(h:P:=by rw[nj _ _ aU,fh,show n-L.length=(n-(L.length+1))+1 from by omega,pP,List.set_cons_zero];simp):P:=h
theorem O'{P:Prop}(h:P:=by exact((hb.off (p:=⟨w+1,0,none⟩) (by simp) _).off (p:=⟨w+1,1,none⟩) (by simp) _).drew):P:=h
theorem O4(h:P:=by exact((I.setCell (p:=⟨w+1,0,none⟩) (by simp) _).setCell (p:=⟨w+1,1,none⟩) (by simp) _).drew):P:=h
theorem Fe(h:P:=by rw[XN _ _ (by rw[Vah];exact y)];have h1:(l.map Int.ofNat).getD k 0=((l.getD k 0:Nat):Int):=(by simp[List.getD,y]);rw[h1,q]):P:=h
theorem Fo(h:P:=by rw[XN _ _ (by rw[Vah];exact y)];have h1:(l.map Int.ofNat).getD j 0=((l.getD j 0:Nat):Int):=(by simp[List.getD,y]);rw[h1,q]):P:=h
theorem EL(h:P:=by obtain⟨ab,rfl⟩:=List.getElem?_eq_some_iff.1 D;obtain⟨b,o,S,hb,g⟩:=hu j ab;injection S with S;subst S;rw[Go.WideShapes.add_plain];exact g):P:=h
theorem Oh(h:P:=by rcases l with l|l;exact h.apart g (l▸R);intro u;have p:some g=some w.heap.size:=R.symm.trans l;injection p with p;have:=(h.own2.lt g u).2;omega):P:=h
theorem NM(h:P:=by clear B g a2 G a9;go_wp2;go_returns;have t:=b4.o;rw[ZkY] at t;exact⟨.slice (some ⟨w1,0,none⟩) j j,rfl,⟨some ⟨w1,0,none⟩,j,by rw[Vah,M.o,<-a0.o],t⟩,I⟩):P:=h
theorem NJ(h:P:=by
 have t:=J q;have k:=J G;clear q g G l;go_wp2;go_roundw;case rel=>exact⟨j+1,by omega,by go_num,t.o,I.setCell (p:=⟨w,j,none⟩) aU _,by simpa using k.o⟩
 simp[intOf]<;>omega):P:=h
theorem NC(h:P:=by subst q;refine wpList_plain g λK k=> ?_;unfold Oper.wp execOp;simp only[p,resolve,invoke,builtin,Sem.run_bind,Sem.run_pure,Result.andThen_ok,List.map_toArray,tR,List.map_nil,F,D,B];exact k _ _ h):P:=h
theorem Nu(h:P:=by
 induction j with
 |zero=>intro m t e;exact aU
 |succ j ih=>intro m t e;rw[fM];have h1:=ih (2*m+n/2 ^ j % 2) (t.set m (Yd (t.getD m 0) (n/2 ^ j % 2))) (nG (t.getD m 0) (n/2 ^ j % 2) e);have h2:=FR (t.getD m 0) (n/2 ^ j % 2) e;omega):P:=h
theorem NY(h:P:=by
 clear F a5 a8 a7 b5 B g t u q M a9 b1 b6 a2 I a1 b0;go_wp21;refine cp E.o ?_;go_wp21;refine aP b3.o λb8 ⟨d1,a6⟩=>?_;have l:=a4.o.fr a6 (λe=>Q.o.2 e.symm);have an:Below w w b8:=a3.o.trans (a6.toBelow' a3.o.size (λi hi e=>by have:i=w.heap.size:=e;omega));have k:=Ha.o.below an;go_wp2;go_roundw;case rel=>exact⟨j+1,by omega,by go_num,rfl,by rw[b9.o];exact d1,by rw[b7.o];exact l,k,an⟩
 simp[intOf]<;>omega):P:=h
theorem NA(h:P:=by
 have y:k<l:=(by rw[<-a0.o];exact ab);obtain⟨v,q⟩:=ay (l.getD k 0);have a6:v<4096:=by have h1:l.getD k 0=l[k]:=(by simp[List.getD,y]);rw[<-q,h1];exact z.o _ (dt _)
 obtain⟨f9,g3,S,D,b2⟩:=Ha.o.get k v (by rw[XN _ _ (by rw[Vah];exact y)];have h1:(l.map Int.ofNat).getD k 0=((l.getD k 0:Nat):Int):=(by simp[List.getD,y]);rw[h1,q]);subst S;have I:¬(v:Int)<0:=(by omega);have a2:¬(4096:Int)<=v:=(by omega);clear q a6;go_wp2;go_round;case rel=>exact⟨k+1,by omega,by go_num⟩
 simp[intOf]<;>omega):P:=h
theorem Ng(h:P:=by
 have Ha:=J M;have a0:=J F;have R:Below w w w:=bf _ _;by_cases t:4096<n;.have g:Hid (lm l=9):=J (by unfold lm;rw[Vag (by omega)]);have G:(4096:Int)<n:=(by omega);clear M F hb t;go_in;go_wp2;go_returns;rw[g.o];exact Jy 9 R
 have g:Hid (lm l=2):=J (by unfold lm at hb⊢;rw[Vae (by omega)] at hb⊢;by_cases h:∀n∈l,0<=n/\n<4096;rw[Vag h] at hb;exact absurd rfl hb;rw[Vae h]);have p:Hid (¬∀n∈l,0<=n/\n<4096):=J (by intro h;apply hb;exact Gg (by omega) h);have G:¬(4096:Int)<n:=(by omega);clear M F hb t;go_in;go_wp2;go_loop [7,19] (λ_ i=>∃k:Nat,k<=n/\i=k/\Hid (∀v∈l.take k,0<=v/\v<4096)) (λ_ i=>(n-intOf i).toNat);case atStart=>exact⟨0,by omega,rfl,J (by simp)⟩
 obtain⟨k,Q,rfl,ao⟩:=hrel;by_cases ab:k<n
 .have y:k<l:=(by rw[<-a0.o];exact ab);obtain⟨v,q⟩:=ay (l.getD k 0);have b3:l[k]=v:=(by rw[<-q];simp[List.getD,y]);obtain⟨f9,g3,S,D,b2⟩:=Ha.o.get k (.int .i64 v) (by rw[XN _ _ y,q]);subst S;by_cases B:0<=v/\v<4096
  .obtain⟨E,a1⟩:=B;have I:¬v<0:=(by omega);have a2:¬4096<=v:=(by omega);have z:Hid (∀u∈l.take (k+1),0<=u/\u<4096):=J (by intro u hu;rw[dK y,b3] at hu;rcases lc.1 hu with h|h;exact ao.o u h;rw[jv] at h;omega);clear q b3;go_wp2;go_round;case rel=>exact⟨k+1,by omega,by go_num,z⟩
   simp[intOf]<;>omega
  clear q b3;by_cases E:v<0;.clear B;go_wp2;go_returns;rw[g.o];exact Jy 2 R
  have a1:4096<=v:=(by omega);clear B;go_wp2;go_returns;rw[g.o];exact Jy 2 R
 exfalso;apply p.o;have:=ao.o;rwa [d' (by rw[<-a0.o];omega)] at this):P:=h
end
namespace Wv
variable{a b v:ax}{w:Int}
def cd (c:cj):Nat:=if c=48 then 0 else if c=49 then 1 else if c=120 then 2 else if c=122 then 3 else 4
def ch (n:Nat):cj:=if n=0 then 48 else if n=1 then 49 else if n=2 then 120 else 122
theorem Gl (c:cj):(c=48/\cd c=0)\/(c=49/\cd c=1)\/(c=120/\cd c=2)\/(c=122/\cd c=3)\/(c≠48/\c≠49/\c≠120/\c≠122/\cd c=4):=by unfold cd;by_cases h1:c=48;exact aO;grind
theorem Zqy (c:cj):cd c<=4:=by rcases Gl c with ⟨_,h⟩|⟨_,h⟩|⟨_,h⟩|⟨_,h⟩|⟨_,_,_,_,h⟩<;>omega
theorem HI (n:Nat) (h:n<4):cd (ch n)=n:=by rcases(show n=0\/n=1\/n=2\/n=3 by omega) with rfl|rfl|rfl|rfl<;>decide
theorem My (c:cj) (h:cd c<4):ch (cd c)=c:=by rcases Gl c with ⟨rfl,_⟩|⟨rfl,_⟩|⟨rfl,_⟩|⟨rfl,_⟩|⟨_,_,_,_,g⟩;rfl;rfl;rfl;rfl;omega
def nP (c:cj):Bool:=decide (cd c<4)
def isV (v:ax):Bool:=v.all nP&& !v.isEmpty&&decide (v.length<=128)
def jM (v:ax):Bool:=isV v&&v.all (λc=>decide (cd c<2))
def gH (w:Int) (v:ax):Bool:=isV v&&decide ((v.length:Int)=w)
theorem Zp :isV v=true↔(∀c∈v,cd c<4)/\v≠[]/\v.length<=128:=by unfold isV nP;grind
theorem YA :jM v=true↔(∀c∈v,cd c<2)/\v≠[]/\v.length<=128:=by unfold jM;rw[gm,Zp,uI];grind
theorem He (h:jM v=true):isV v=true:=by unfold jM at h;grind
theorem ZN :gH w v=true↔isV v=true/\(v.length:Int)=w:=by unfold gH;grind
def mr (w:Int) (c:cj):ax:=if w<1\/128<w\/nP c=false then[] else List.replicate w.toNat c
def fr (c:cj):cj:=if c=49 then 48 else c
theorem ZqD (c:cj):fr (fr c)=fr c:=by unfold fr;grind
theorem ZqC {c:cj} (h:cd c<4):cd (fr c)<4:=by unfold fr;split;exact aY;omega
def ext (w:Int) (s:ax):ax×Nat:=
 if w<1\/128<w then([],1) else match s with
  |[]=>([],3)
  |c::t=>if(c::t).all nP=false then([],3) else if w<((c::t).length:Int) then([],8) else(List.replicate (w.toNat-(c::t).length) (fr c)++(c::t),0)
def rO:ax->ax
 |a::b::r=>if a=fr b then rO (b::r) else a::b::r
 |l=>l
def fw (v:ax):ax:=if isV v=true then rO v else[]
theorem Ks (a b:cj) (r:ax):rO (a::b::r)=if a=fr b then rO (b::r) else a::b::r:=rfl
theorem KP:∀(v:ax),v≠[]->∃k c t,rO v=c::t/\v=List.replicate k (fr c)++(c::t)
 |[],h=>absurd rfl h
 |[a],_=>⟨0,a,[],rfl,rfl⟩
 |a::b::r,_=>by
  obtain⟨k,c,t,h1,g⟩:=KP (b::r) (by simp);rw[Ks];by_cases h:a=fr b
  .rw[Vag h];refine⟨k+1,c,t,h1,?_⟩
   have hb:fr b=fr c:=by
    cases k with
    |zero=>exact aO
    |succ k=>injection g with l _;rw[l,ZqD]
   grind
  rw[Vae h];exact⟨0,a,b::r,rfl,rfl⟩
theorem Ls (h:isV v=true):ext (v.length:Int) (fw v)=(v,0):=by
 obtain⟨h1,g,q⟩:=Zp.1 h;obtain⟨k,c,t,l,p⟩:=KP v g;unfold fw ext;have u:(c::t).all nP=true:=by unfold nP;grind
 grind
theorem F_ (v:ax):(fw v)<=v.length/\(isV v=true->fw v≠[]):=by unfold fw;by_cases h:isV v=true;obtain⟨k,c,t,g,l⟩:=KP v (Zp.1 h).2.1;grind;grind
theorem Yb (v:ax):(fw v).length<=128:=by by_cases h:isV v=true;have:=(F_ v).1;have:=(Zp.1 h).2.2;omega;unfold fw;grind
theorem WM {s:ax} (h:ext w s=(v,0)):gH w v=true:=by
 unfold ext at h;split at h;exact aO;rename_i hw;rcases s with _|⟨c,t⟩;exact aO;simp only at h;split at h;exact aO;rename_i ha;split at h;exact aO;rename_i hl;injection h with h _;subst h;have jz:∀x∈c::t,cd x<4:=by have:(c::t).all nP=true:=aO;rw[uI] at this;intro x hx;have:=this x hx;unfold nP at this;grind
 have hlen:(List.replicate (w.toNat-(c::t).length) (fr c)++(c::t)).length=w.toNat:=aO;refine ZN.2 ⟨Zp.2 ⟨λx hx=> ?_,by simp,O⟩,O⟩;rcases lc.1 hx with hx|hx;rw[List.eq_of_mem_replicate hx];exact ZqC (jz c fi);grind
def mx (a b:cj):cj:=ch (cd a ^^^ cd b)
def jp (a b:ax):ax×Nat:=if isV a=false\/isV b=false then([],1) else if a.length≠b then([],8) else(List.zipWith mx a b,0)
theorem Mw:∀x,x<4->∀y,y<4->x ^^^ y<4/\(x ^^^ y) ^^^ y=x/\x ^^^ y=y ^^^ x/\(x+y) % 2+2*((x/2+y/2) % 2)=x ^^^ y:=aY
theorem ZqK {a b:cj} (g:cd a<4) (hb:cd b<4):cd (mx a b)<4:=by unfold mx;have:=(Mw _ g _ hb).1;rw[HI _ this];exact this
theorem ZqL {a b:cj} (g:cd a<4) (hb:cd b<4):mx (mx a b) b=a:=by have h1:=Mw _ g _ hb;show ch (cd (ch (cd a ^^^ cd b)) ^^^ cd b)=a;rw[HI _ h1.1,h1.2.1,My a g]
theorem Zoc (k:isV a=true) (hb:isV b=true) (p:a=b.length):isV (List.zipWith mx a b)=true/\(List.zipWith mx a b)=a.length:=by obtain⟨a1,a2,a3⟩:=Zp.1 k;obtain⟨b1,_⟩:=Zp.1 hb;have g:(List.zipWith mx a b)=a.length:=aO;refine⟨Zp.2 ⟨λc l=> ?_,λh=> ?_,O⟩,g⟩;obtain⟨i,hi,rfl⟩:=List.getElem_of_mem l;rw[List.getElem_zipWith];exact ZqK (a1 _ (dt _)) (b1 _ (dt _));grind
theorem ZiY (g:isV a=true) (hb:isV b=true) (k:a=b.length):∃m,jp a b=(m,0)/\isV m=true/\m.length=a.length/\jp m b=(a,0):=by obtain⟨l,p⟩:=Zoc g hb k;obtain⟨a1,_⟩:=Zp.1 g;obtain⟨b1,_⟩:=Zp.1 hb;refine⟨List.zipWith mx a b,?_,l,p,?_⟩;unfold jp;grind;unfold jp;rw[Vae aO,Vae O];congr 1;apply Vco;exact aO;intro i k1 k2;rw[List.getElem_zipWith,List.getElem_zipWith];exact ZqL (a1 _ (dt _)) (b1 _ (dt _))
def sm:ax->ax->Nat->ax×Nat
 |x::a,y::b,c=>(UInt8.ofNat (48+(cd x+cd y+(sm a b c).2) % 2)::(sm a b c).1,(cd x+cd y+(sm a b c).2)/2)
 |_,_,c=>([],c)
def qW (v:ax):ax:=v.map (λc=>ch (if cd c<2 then 1-cd c else cd c))
def qc (a b:ax):ax×Bool:=if jM a=true/\jM b=true/\a=b.length then((sm a b 0).1,true) else([],false)
def vp (a b:ax):ax×Bool:=if jM a=true/\jM b=true/\a=b.length then((sm b (qW a) 1).1,true) else([],false)
theorem Zau:∀(a b:ax) (c:Nat),a=b.length->(sm a b c).1.length=a
 |[],[],_,_=>rfl
 |x::a,y::b,c,h=>by show((sm a b c).1.length+1)=_;rw[Zau a b c aO];rfl
theorem Mt:∀(a b:ax) (c:Nat),∀d∈(sm a b c).1,cd d<2
 |[],_,_=>λd hd=>by simp[sm] at hd
 |_::_,[],_=>λd hd=>by simp[sm] at hd
 |x::a,y::b,c=>λd hd=>by rcases jA.1 hd with rfl|hd;rcases Nat.mod_two_eq_zero_or_one (cd x+cd y+(sm a b c).2) with h|h<;>rw[h]<;>decide;exact Mt a b c d hd
theorem R6 (h:qc a b=(v,true)):jM v=true/\v=a.length/\jM a=true/\jM b=true/\a=b.length:=by
 unfold qc at h;split at h;.rename_i hc;injection h with h _;subst h;obtain⟨a1,a2,a3⟩:=YA.1 hc.1;have hl:=Zau a b 0 hc.2.2;refine⟨YA.2 ⟨Mt a b 0,λe=> ?_,O⟩,hl,hc⟩;grind
 grind
theorem Ta (h:vp a b=(v,true)):jM v=true/\v=a.length:=by
 unfold vp at h;split at h;.rename_i hc;injection h with h _;subst h;obtain⟨a1,a2,a3⟩:=YA.1 hc.1;have hl:=Zau b (qW a) 1 (by unfold qW;grind);refine⟨YA.2 ⟨Mt b (qW a) 1,λe=> ?_,O⟩,O⟩;grind
 grind
end Wv
namespace Go.Proofs.Y
open Wv Go.RowKit
theorem Y2:(prog.info? 3).map (λi=>(i.zero,i.size,i.bytes))=some (some (.int .i64 0),1,8):=qD
def vt (j:Nat):List Nat:=List.replicate j 1024++List.replicate (64-j) 0
theorem ZiN (j:Nat) (h:j<64):(vt j).set j 1024=vt (j+1):=by unfold vt;rw[nj _ _ (by simp),iE,fh,show 64-j=(64-(j+1))+1 from by exact O,pP,List.set_cons_zero,List.replicate_succ',er];rfl
theorem Z8w (j:Nat) (h:j<=64):(vt j).length=64:=by simp[vt];omega
theorem ZiM:vt 64=t0:=aY
theorem Zef:nc (vt 0)=Array.replicate 64 (.int .i64 0):=by apply pS.1;simp[nc,vt]
theorem Zfg (w:aq):
  Calls prog 196 #[(1:Int),(6:Int)] w λx w'=>x=.returned (.slice (some (w.heap.size+1,0)) 1 1)/\Bk w' w 3 (nc t0)/\Bk w' (w.heap.size+1) 239 #[(6:Int),.slice (some (w,0)) 64 64]/\Below w w w':=by
 have l:=Y5 (P:=prog) 103 3 _ _ underlying103 Y2 rfl 64 64 rfl O O w;rw[<-Zef] at l;have a5:∀w:aq,(Instr.makeSlice 283 (1:Int) (1:Int)).run prog w=.ok (.slice (some (w,0)) 1 1) (w.alloc (.cells #[(0:Int),.slice none 0 0] 239)):=λ_=>qD;go_in;go_wp2;go_loopw [6,17] (λ_ i wr=>∃j:Nat,j<=64/\i=j/\Bk wr w 3 (nc (vt j))/\Below w w wr/\wr=w.heap.size+1) (λ_ i _=>(64-intOf i).toNat);exact W2A;obtain⟨j,D,rfl,g,I,G⟩:=hrel;by_cases ab:j<64;have a0:=g.cell j;rw[Xj _ _ (by rw[Z8w j D];exact ab)] at a0;have a4:=g.frozen j;have q:=g.put j (.int .i64 ((1024:Nat):Int));rw[Z0k,ZiN j ab] at q;exact NJ;have a1:j=64:=O;subst a1;have k:=J G;have M:=J g;clear G g l;go_wp2;rw[k.o];have B:=I.alloc I.size (.cells #[(0:Int),.slice none 0 0] 239);have aa:=M.o.alloc (.cells #[(0:Int),.slice none 0 0] 239);have z:Bk (wr.alloc (.cells #[(0:Int),.slice none 0 0] 239)) (w.heap.size+1) 239 #[(0:Int),.slice none 0 0]:=k.o▸Bk.new wr _ _;go_loopw [8,9,10,28] (λ_ _ _ i y=>∃j:Nat,j<=1/\i=j/\(j=0->Bk y (w.heap.size+1) 239 #[(0:Int),.slice none 0 0])/\(j=1->Bk y (w.heap.size+1) 239 #[(6:Int),.slice (some (w,0)) 64 64])/\Bk y w 3 (nc (vt 64))/\Below w w y) (λ_ _ _ i _=>(1-intOf i).toNat);exact⟨0,O,rfl,λ_=>z,λh=>O,aa,B⟩;clear B aa z I;obtain⟨j,D,rfl,h0,h1,hb,I⟩:=hrel;by_cases ab:j<1
 .have S:j=0:=O;subst S;have u:=h0 rfl;have a2:=u.cell 0;have q1:=u.cell 1;have a6:=u.frozen 0;have a7:=u.frozen 1;simp at a2 q1;have E:=J u;clear h0 h1 u ab;go_wp2;go_region;go_wp2;go_roundw;.refine⟨1,O,rfl,λh=>O,λ_=> ?_,?_,?_⟩;have R:=(E.o.put 0 (6:Int)).put 1 (.slice (some ⟨w,0,none⟩) 64 64);have Q:=R.drew;simpa using Q;exact O';exact O4
  simp[intOf]
 have a3:j=1:=O;subst a3;have F:=J (h1 rfl);clear h0 h1;go_wp2;go_ret;exact⟨rfl,by rw[<-ZiM];exact hb,F.o,I⟩
theorem K2 (w:aq):
  Calls prog 151 #[] w λx w'=>∃b,x=.returned (.pointer (some ⟨b,0,none⟩))/\w.heap.size<=b/\fp w' b w t0/\Below w w w':=by have l:=J (Zfg w);go_in;go_wp21;refine aP l.o λw1 ⟨h0,h1,hb⟩=>?_;have p:=h1.cell 0;have q1:=h1.cell 1;simp at p q1;have g:=hb.size;have k:=J h0;clear h0 h1;go_wp2;go_ret;exact⟨w1.heap.size,rfl,g,⟨Bk.new _ _ _,k.o.alloc _⟩,hb.alloc g _⟩
variable{b e:Nat}{s:aT}{w:aq}
def ZB (s:aT) (e:Nat) (most:Int):aT×aT×Nat:=
 if(Zb (bG s e most).2.1 (bG s e most).2.2 ((bG s e most).1:Nat)).2.2=0 then Zb (bG s e most).2.1 (bG s e most).2.2 ((bG s e most).1:Nat)
 else(bs [],s,(Zb (bG s e most).2.1 (bG s e most).2.2 ((bG s e most).1:Nat)).2.2)
theorem Zv {most:Int} :(bG s e most).2.1.size<=s.size:=by unfold bG;split;split;exact aU;split;exact aU;rw[Z0,iW,Z2];omega;exact aU
theorem ZY (h:RV w b s e) (F:s.size<=1099511627776) (most:Int):
  Calls prog 77 #[(b,0),most] w λx w'=>x=.returned (.string (ZB s e most).1)/\RV w' b (ZB s e most).2.1 (ZB s e most).2.2/\Fr (only b) w w':=by
 have h0:=h.c0;have ab:=Bk.lt h;have y:=J (Zk h F most);have D:=Zv (s:=s) (e:=e) (most:=most)
 have k:ZB s e most=if(Zb (bG s e most).2.1 (bG s e most).2.2 ((bG s e most).1:Nat)).2.2=0 then Zb (bG s e most).2.1 (bG s e most).2.2 ((bG s e most).1:Nat)
  else(bs [],s,(Zb (bG s e most).2.1 (bG s e most).2.2 ((bG s e most).1:Nat)).2.2):=rfl;generalize bG s e most=q at*;obtain⟨n,s1,Q⟩:=q;generalize ZB s e most=r at*;obtain⟨⟨t,a4,l⟩,aS⟩:=ay (Zb s1 Q (n:Int));simp only at k y D;rw[aS] at k;simp only at k;have S:=J aS;have z:=J k;clear aS k;go_in;go_wp21;refine aP y.o λw1 ⟨M,G⟩=>?_;have B:=J (Zr M (co D F) (n:Int));rw[S.o] at B;go_wp21;refine aP B.o λa5 ⟨g,I⟩=>?_;have a2:=g.c1;have a1:=g.c0;have a3:=g.f0;have E:=G.trans I;by_cases u:l=0;.subst u;go_wp2;go_ret;rw[z.o];exact⟨rfl,g,E⟩
 have a0:((l:Int) !=0)=true:=eV;have R:Hid (r=(bs [],s,l)):=J (by rw[z.o,Vae u]);clear u;go_wp2;go_ret;rw[R.o];exact⟨rfl,by simpa [RV] using Bk.put g 0 (.string s),E.setCell (p:=⟨b,0,none⟩) (.inl rfl) _⟩
def iQ (s:aT) (e:Nat):Nat:=if e=0/\s.size≠0 then 12 else e
theorem C7 (h:RV w b s e):
  Calls prog 57 #[(b,0)] w λx w'=>x=.returned ((iQ s e:Nat):Int)/\Fr (only b) w w':=by
 have h0:=h.c0;have h1:=h.c1;by_cases p:e=0
 .subst p;by_cases l:s.size=0;.have g:iQ s 0=0:=(by unfold iQ;rw[Vae O]);have y:=HX l;have k:=J g;clear l g;go_in;go_wp2;go_ret;exact⟨ZZ (by rw[k.o];rfl),Fr.refl _ _⟩
  have g:iQ s 0=12:=(by unfold iQ;rw[Vag ⟨rfl,l⟩]);have y:=HW (s:=s) O;have k:=J g;have q:=J (QS h 12);clear l g;go_in;go_wp21;refine aP q.o λD ⟨u,t⟩=>?_;have B:=u.c1;go_wp2;go_ret;exact⟨ZZ (by rw[k.o];rfl),t⟩
 have g:iQ s e=e:=(by unfold iQ;rw[Vae O]);have z:((e:Int)==0)=false:=rT;have k:=J g;clear g p;go_in;go_wp2;go_ret;exact⟨ZZ (by rw[k.o]),Fr.refl _ _⟩
end Go.Proofs.Y
namespace Wv
set_option linter.unusedSectionVars false
def nx (l:List Nat):Nat:=l.foldl (λa x=>if x=a then a+1 else a) 0
structure RunsOk (I C:List Nat) (len dl:Nat):Prop where
 size:I.length=C.length
 sum:C.sum=len
 next:nx I=dl
 pos:∀c∈C,1<=c
 each:∀k (h:k<I.length),I[k]<=nx (I.take k)
 apart:∀k (h:k+1<I.length),I[k]≠I[k+1]
section
variable {α:Type} [DecidableEq α]
end
end Wv
namespace Wv
open Go Go.RowKit
variable{B n:Nat}{v v' v1 v2:aI}{w w' w0 wb:aq}{xs ys:List aI}
structure pe (wb:World) (B:Nat) (e:TypeId) (v1:Value) (xs:List Value) (v2:Value) (ys:List Value) (w:World):Prop where
 own1:w.ownsRow B e 1 v1 xs.length xs
 own2:w.ownsRow B e 1 v2 ys.length ys
 apart:∀g,v1.ownBlock=some g->v2.ownBlock≠some g
 bel:Below B wb w
 base:B<=w.heap.size
theorem pe.alloc {e:TypeId} (h:pe wb B e v1 xs v2 ys w) (o:Obj):pe wb B e v1 xs v2 ys (w.alloc o):=
 ⟨h.own1.alloc o,h.own2.alloc o,h.apart,h.bel.alloc h.base o,co h.base (by simp)⟩
theorem pe.drew {e:TypeId} (h:pe wb B e v1 xs v2 ys w):pe wb B e v1 xs v2 ys w.drew:=⟨h.own1,h.own2,h.apart,h.bel.drew,h.base⟩
theorem pe.swap {e:TypeId} (h:pe wb B e v1 xs v2 ys w):pe wb B e v2 ys v1 xs w:=⟨h.own2,h.own1,λg h1 k=>h.apart g k h1,h.bel,h.base⟩
theorem A0 {P : Program} (t e : TypeId) (z : aI) (bytes : Nat) (a3 : P.underlying t = some (.slice e)) (G : (P.info? e).map (λi => (i.zero, i.size, i.bytes)) = some (some z, 1, bytes)) (I : z.cells.size = 1) {wb w : aq} {B : Nat} {v1 v2 : aI} {xs ys : List aI} (h : pe wb B e v1 xs v2 ys w) (a : Nat) (x : aI) (M : w.cell? (a,0) = some x) (h1 : x.oneCell' = true) (S : xs.length + 1 <= maxLen) (Q : (xs.length + 1) * bytes <= 140737488355328) :
    ∃v' w',(Builtin.append_ #[t,t] t #[v1,.slice (some (a,0)) 1 1]).run P w=.ok v' w'/\pe wb B e v' (xs++[x]) v2 ys w'/\(∀b,some b≠v1.ownBlock->b<w.heap.size->w'.cell? ⟨b,0,none⟩=w.cell? ⟨b,0,none⟩)/\(∀F T q,Bk w F T q->T≠e->Bk w' F T q):=by obtain⟨i,hi,a4,a2,hb⟩:=info_parts G;obtain ⟨v', w', a1, a5, D, _, l⟩ := run_append_own_at (P := P) w B t t e i z 1 bytes a3 hi a4 a2 hb I O v1 xs.length xs h.own1 ⟨a, 0, none⟩ 1 1 [x] rfl (λj u hu => Pt) aO S Q h.base;have y:Fr (λk=>v1.ownBlock=some k) w w':=(Fr.refl _ w).grown D (λk E=>.inl E);refine⟨v',w',a1,⟨aO,Z6 h.own2 y (λg R e=>h.apart g e R),λg R=> ?_,h.bel.grown D h.base (λk E=>(h.own1.lt k E).1),co h.base y.size⟩,λb hb ab=>y.cell (p:=⟨b,0,none⟩) ab (λe=>hb e.symm),λF T q hb a0=>hb.grown D (λe=>Z1 h.own1 hb (λe=>a0 e.symm) e.symm)⟩;exact Oh
theorem VL {P:Program} (t e:TypeId) (z:aI) (bytes:Nat) (F:P.underlying t=some (.slice e)) (u:(P.info? e).map (λi=>(i.zero,i.size,i.bytes))=some (some z,1,bytes)) (D:z.cells.size=1) (h:pe wb B e v1 xs v2 ys w) (x y:aI) (a0:x.oneCell'=true) (a3:y.oneCell'=true) (S:xs+1<=maxLen) (a4:(xs.length+1)*bytes<=140737488355328)
  (a6:ys+1<=maxLen) (a5:(ys.length+1)*bytes<=140737488355328) (p:Nat) (T:TypeId) (l:Array aI) (E:Bk w p T l) (q:T≠e):
  (∃a1 w1 a2 k,(Builtin.append_ #[t,t] t #[v1,.slice (some (w,0)) 1 1]).run P (w.alloc (.cells #[x] e)).drew=.ok a1 w1/\(Builtin.append_ #[t,t] t #[v2,.slice (some ⟨w1.heap.size,0,none⟩) 1 1]).run P (w1.alloc (.cells #[y] e))=.ok a2 k/\pe wb B e a1 (xs++[x]) a2 (ys++[y]) k/\Bk w1 p T l/\Bk k p T l)/\
  (∃a1 w1 a2 k,(Builtin.append_ #[t,t] t #[v1,.slice (some (w,0)) 1 1]).run P ((w.alloc (.cells #[x] e)).alloc (.cells #[y] e)).drew=.ok a1 w1/\(Builtin.append_ #[t,t] t #[v2,.slice (some (w.heap.size+1,0)) 1 1]).run P w1=.ok a2 k/\pe wb B e a1 (xs++[x]) a2 (ys++[y]) k/\Bk w1 p T l/\Bk k p T l)/\
  (∃a1 w1 a2 k,(Builtin.append_ #[t,t] t #[v1,.slice (some (w.heap.size+1,0)) 1 1]).run P ((w.alloc (.cells #[y] e)).alloc (.cells #[x] e)).drew=.ok a1 w1/\(Builtin.append_ #[t,t] t #[v2,.slice (some (w,0)) 1 1]).run P w1=.ok a2 k/\pe wb B e a1 (xs++[x]) a2 (ys++[y]) k/\Bk w1 p T l/\Bk k p T l):=by
 have b3:∀g,v1.ownBlock=some g->g<w.heap.size:=λg b0=>(h.own1.lt g b0).2;have a8:(w.alloc (.cells #[x] e)).cell? (w,0)=some x:=(Bk.new w e #[x]).cell 0;have b4:(w.alloc (.cells #[y] e)).cell? (w,0)=some y:=(Bk.new w e #[y]).cell 0;have a7:(w.alloc (.cells #[x] e))=w.heap.size+1:=(by simp);have a9:(w.alloc (.cells #[y] e))=w.heap.size+1:=(by simp);refine⟨?_,?_,?_⟩;.obtain⟨a1,w1,I,t1,_,b1⟩:=A0 t e z bytes F u D (h.alloc (.cells #[x] e)).drew w x a8 a0 S a4;obtain⟨a2,k,M,Q,_,G⟩:=A0 t e z bytes F u D (t1.swap.alloc (.cells #[y] e)) w1.heap.size y ((Bk.new w1 e #[y]).cell 0) a3 a6 a5;exact⟨a1,w1,a2,k,I,M,Q.swap,b1 p T l (E.alloc (.cells #[x] e)).drew q,G p T l ((b1 p T l (E.alloc (.cells #[x] e)).drew q).alloc (.cells #[y] e)) q⟩
 .have c1:((w.alloc (.cells #[x] e)).alloc (.cells #[y] e)).drew.cell? (w,0)=some x:=((Bk.new w e #[x]).alloc (.cells #[y] e)).cell 0;have c2:((w.alloc (.cells #[x] e)).alloc (.cells #[y] e)).drew.cell? (w.heap.size+1,0)=some y:=by have:=(Bk.new (w.alloc (.cells #[x] e)) e #[y]).cell 0;rw[a7] at this;exact this
  obtain⟨a1,w1,I,t1,k1,b1⟩:=A0 t e z bytes F u D ((h.alloc (.cells #[x] e)).alloc (.cells #[y] e)).drew w x c1 a0 S a4;have R:=(k1 (w.heap.size+1) (λe=>aO) nk).trans c2;obtain⟨a2,k,M,Q,_,G⟩:=A0 t e z bytes F u D t1.swap (w.heap.size+1) y R a3 a6 a5;exact⟨a1,w1,a2,k,I,M,Q.swap,b1 p T l ((E.alloc (.cells #[x] e)).alloc (.cells #[y] e)).drew q,G p T l (b1 p T l ((E.alloc (.cells #[x] e)).alloc (.cells #[y] e)).drew q) q⟩
 have c1:((w.alloc (.cells #[y] e)).alloc (.cells #[x] e)).drew.cell? (w,0)=some y:=((Bk.new w e #[y]).alloc (.cells #[x] e)).cell 0;have c2:((w.alloc (.cells #[y] e)).alloc (.cells #[x] e)).drew.cell? (w.heap.size+1,0)=some x:=by have:=(Bk.new (w.alloc (.cells #[y] e)) e #[x]).cell 0;rw[a9] at this;exact this
 obtain⟨a1,w1,I,t1,k1,b1⟩:=A0 t e z bytes F u D ((h.alloc (.cells #[y] e)).alloc (.cells #[x] e)).drew (w.heap.size+1) x c2 a0 S a4;have R:=(k1 w (λe=>by have:=b3 _ e.symm;omega) (by show _<((w.alloc (.cells #[y] e)).alloc (.cells #[x] e)).heap.size;simp<;>omega)).trans c1;obtain⟨a2,k,M,Q,_,G⟩:=A0 t e z bytes F u D t1.swap w y R a3 a6 a5;exact⟨a1,w1,a2,k,I,M,Q.swap,b1 p T l ((E.alloc (.cells #[y] e)).alloc (.cells #[x] e)).drew q,G p T l (b1 p T l ((E.alloc (.cells #[y] e)).alloc (.cells #[x] e)).drew q) q⟩
theorem ZfV {P:Program} (t e:TypeId) (z:aI) (bytes:Nat) (ht:P.underlying t=some (.slice e)) (B:(P.info? e).map (λi=>(i.zero,i.size,i.bytes))=some (some z,1,bytes)) (G:z.cells.size=1) {base:Nat} (q:w.ownsRow base e 1 v n xs) {A:Wto} (hu:At w A ys) (cap m:Nat) (p:m=ys) (S:A=none->ys=[]) (h1:∀y∈ys,y.oneCell'=true)
  (M:n+m<=maxLen) (E:(n+m)*bytes<=140737488355328) (F:base<=w):
  ∃v' w',(Builtin.append_ #[t,t] t #[v,(A,m,cap)]).run P w=.ok v' w'/\w'.ownsRow base e 1 v' (n+m) (xs++ys)/\w.grownBy w' v.ownBlock/\(v'.ownBlock=v.ownBlock\/v'.ownBlock=some w.heap.size):=by obtain⟨i,hi,a0,Q,I⟩:=info_parts B;rcases A with _|a;have R:=S rfl;subst R;simp at p;subst p;refine⟨v,w,?_,aO,⟨rfl,rfl,rfl,aU,λ_ _ _=>rfl⟩,.inl rfl⟩;exact Ns;obtain⟨v',w',a4,a1,a2,_,a3⟩:=run_append_own_at (P:=P) w base t t e i z 1 bytes ht hi a0 Q I G O v n xs q a m cap ys O (λj u D=>EL) h1 M E F;grind
theorem ZeY (e:TypeId) (w:aq):(w.alloc (.cells #[] e)).ownsRow w e 1 (.slice (some (w,0)) 0 0) 0 []:=
 World.ownsRow_made w #[] 0 aU O rfl
theorem Z5 {P:Program} {l:Array Oper} {rest:List Oper} {o:Oper} {a:Act} {Q:Exit->Act->aq->Prop} (q:w=w0) (g:o.guard=none) (s x:Operand) (t:TypeId)
  (p:o.op=.call { callee:=.builtin .append,args:= #[s,x],argTypes:= #[t,t] }) (v u:aI) (F:a.eval s=v) (D:a.eval x=u)
  (B:(Builtin.append_ #[t,t] o.type #[v,u]).run P w0=.ok v' w') (h:wpList P l Q rest (a.put o.dst v') w'):wpList P l Q (o::rest) a w:=NC
theorem Bd {P:Program} {o:Oper} {a:Act} (w0:aq) {K:Act->aq->Prop} {Q:Exit->Act->aq->Prop} {E:Prop} {c:Prop} [Decidable c] (g:w=w0) (h:if c then Oper.wp P o a w0 K Q else E):if c then Oper.wp P o a w K Q else E:=aO
theorem Zgh {P:Program} {g:Array Oper} {o:Oper} {a:Act} {K:Act->aq->Prop} {Q:Exit->Act->aq->Prop} {E:Prop} (q:w=w0) (z:o.guard=none) (s x:Operand) (t:TypeId)
  (k:o.op=.call { callee:=.builtin .append,args:= #[s,x],argTypes:= #[t,t] }) (v u:aI) (p:a.eval s=v) (y:a.eval x=u)
  (l:(Builtin.append_ #[t,t] o.type #[v,u]).run P w0=.ok v' w') (h:K (a.put o.dst v') w'):
  if Region.wanted o (yielded g a.tmps)=true then Oper.wp P o a w K Q else E:=by subst q;exact YG z s x t k v u p y l h
theorem gN {P:Program} {g:Array Oper} {o:Oper} {a:Act} {K:Act->aq->Prop} {Q:Exit->Act->aq->Prop} {E:Prop} {s x:Operand} {t:TypeId} {u:aI} (l:(Builtin.append_ #[t,t] o.type #[v,u]).run P w0=.ok v' w') (h:K (a.put o.dst v') w') (q:w=w0:=by with_reducible rfl) (z:o.guard=none:=by rfl) (k:o.op=.call { callee:=.builtin .append,args:= #[s,x],argTypes:= #[t,t] } :=by rfl) (p:a.eval s=v:=by rfl) (y:a.eval x=u:=by rfl):if Region.wanted o (yielded g a.tmps)=true then Oper.wp P o a w K Q else E:=Zgh q z s x t k v u p y l h
theorem ZU {P:Program} (t e:TypeId) (z:aI) (bytes:Nat) (a0:P.underlying t=some (.slice e)) (y:(P.info? e).map (λi=>(i.zero,i.size,i.bytes))=some (some z,1,bytes)) (E:z.cells.size=1) (h:w.ownsRow B e 1 v n xs) (Q:Below B wb w) (p:B<=w) (x:aI) (a2:x.oneCell'=true) (G:n+1<=maxLen) (D:(n+1)*bytes<=140737488355328):
  ∃v' w',(Builtin.append_ #[t,t] t #[v,.slice (some (w,0)) 1 1]).run P (w.alloc (.cells #[x] e))=.ok v' w'/\w'.ownsRow B e 1 v' (n+1) (xs++[x])/\Below B wb w'/\(∀q T l,Bk w q T l->e≠T->Bk w' q T l):=by obtain⟨i,hi,a1,S,F⟩:=info_parts y;obtain⟨v',w',R,I,u,_⟩:=run_append_own_at (P:=P) (w.alloc (.cells #[x] e)) B t t e i z 1 bytes a0 hi a1 S F E O v n xs (h.alloc _) ⟨w,0,none⟩ 1 1 [x] rfl (Ql _ _ _) aO G D (co p (by simp));exact⟨v',w',R,I,(Q.alloc p _).grown u (co p (by simp)) (λk g=>(h.lt k g).1),λq T l g M=>(g.alloc _).grown u (λe=>Z1 h g M e.symm)⟩
theorem Zhj {P:Program} (t e:TypeId) (z:aI) (bytes:Nat) (a0:P.underlying t=some (.slice e)) (y:(P.info? e).map (λi=>(i.zero,i.size,i.bytes))=some (some z,1,bytes)) (E:z.cells.size=1) (h:w.ownsRow B e 1 v n xs) (R:Below B wb w) (g:B<=w) (x:aI) (a3:x.oneCell'=true) (G:n+1<=maxLen) (D:(n+1)*bytes<=140737488355328):
  ∃v' w',(Builtin.append_ #[t,t] t #[v,.slice (some (w,0)) 1 1]).run P (w.alloc (.cells #[x] e))=.ok v' w'/\w'.ownsRow B e 1 v' (n+1) (xs++[x])/\Below B wb w'/\(v'.ownBlock=v.ownBlock\/v'.ownBlock=some (w.heap.size+1))/\w.heap.size+1<=w'.heap.size/\
   (∀A vs,At w A vs->(∀b o,A=some ⟨b,o,none⟩->v.ownBlock≠some b)->At w' A vs):=by obtain⟨i,hi,a1,p,F⟩:=info_parts y;obtain⟨v',w',S,I,u,_,a2⟩:=run_append_own_at (P:=P) (w.alloc (.cells #[x] e)) B t t e i z 1 bytes a0 hi a1 p F E O v n xs (h.alloc _) ⟨w,0,none⟩ 1 1 [x] rfl (Ql _ _ _) aO G D (co g (by simp));have q:Fr (λk=>v.ownBlock=some k) (w.alloc (.cells #[x] e)) w':=(Fr.refl _ _).grown u (λk l=>.inl l);refine⟨v',w',S,I,(R.alloc g _).grown u (co g (by simp)) (λk l=>(h.lt k l).1),?_,?_,λA vs Q M=> ?_⟩;exact nk;have:=q.size;simpa using this;exact(Q.alloc _).keep q (λb o hb p=>M b o hb p)
theorem Gi {P : Program} (t e : TypeId) (z : aI) (bytes size : Nat) (a2 : P.underlying t = some (.slice e)) (E : (P.info? e).map (λi => (i.zero, i.size, i.bytes)) = some (some z, size, bytes)) (G : z.cells.size = size) (a4 : 0 < size) {w wb : aq} {B : Nat} {v : aI} {n : Nat} {xs : List aI} (h : w.ownsRow B e size v n xs) (a0 : Below B wb w) (g : B <= w.heap.size) (ys : List aI) (a5 : ys.length = size) (h1 : ∀ y ∈ ys, y.oneCell' = true) (M : n + 1 <= maxLen) (F : (n + 1) * bytes <= 140737488355328) :
    ∃v' w',(Builtin.append_ #[t,t] t #[v,.slice (some (w,0)) 1 1]).run P (w.alloc (.cells ys.toArray e))=.ok v' w'/\w'.ownsRow B e size v' (n+1) (xs++ys)/\Below B wb w'/\(v'.ownBlock=v.ownBlock\/v'.ownBlock=some (w.heap.size+1))/\w.heap.size+1<=w'.heap.size/\
      (∀A vs,At w A vs->(∀b o,A=some ⟨b,o,none⟩->v.ownBlock≠some b)->At w' A vs):=by obtain⟨i,hi,a3,p,I⟩:=info_parts E;obtain ⟨v', w', a1, Q, D, _, a6⟩ := run_append_own_at (P := P) (w.alloc (.cells ys.toArray e)) B t t e i z size bytes a2 hi a3 p I G a4 v n xs (h.alloc _) ⟨w, 0, none⟩ 1 1 ys O (λj u a7 => by have hb:=(Bk.new w e ys.toArray).cell j;rw[Go.WideShapes.add_plain,jK,hb];grind) h1 M F (co g (by simp));have q:Fr (λk=>v.ownBlock=some k) (w.alloc (.cells ys.toArray e)) w':=(Fr.refl _ _).grown D (λk l=>.inl l);refine⟨v',w',a1,Q,(a0.alloc g _).grown D (co g (by simp)) (λk l=>(h.lt k l).1),?_,?_,λA vs S R=> ?_⟩;exact nk;have:=q.size;simpa using this;exact(S.alloc _).keep q (λb o hb p=>R b o hb p)
end Wv
namespace Wv
variable{l r x:List Int}
def tv:Int->List Int->Bool
 |_,[]=>true
 |last,t::r=>decide (last<t)&&decide (t<=1099511627776)&&tv t r
def Zi (l:List Int):Bool:=tv (-1) l&&decide (l.length<=4096)
def gp:Int->List Int->List Int
 |_,[]=>[]
 |last,t::r=>(t-last-1)::gp t r
def Za (l:List Int):List Int:=gp (-1) l
def jn:Int->List Int->Option (List Int)
 |_,[]=>some []
 |last,g::r=>if g<0\/1099511627776<g\/1099511627776<last+g+1 then none else(jn (last+g+1) r).map ((last+g+1)::·)
def jnL (x:List Int):Option (List Int):=match jn (-1) x with
 |some l=>if l.length<=4096 then some l else none
 |none=>none
theorem QR {last t:Int} :tv last (t::r)=true↔last<t/\t<=1099511627776/\tv t r=true:=by show(decide _&&decide _&&_)=true↔_;grind
theorem Zq9 :∀ {last:Int},tv last l=true->∀t∈l,last<t/\t<=1099511627776:=by
 induction l with
 |nil=>exact aO
 |cons a r ih=>intro last h t p;obtain⟨h1,g,k⟩:=QR.1 h;grind
theorem ZgJ :∀ {last:Int},tv last l=true->l.Pairwise (· <·):=by
 induction l with
 |nil=>exact nk
 |cons a r ih=>intro last h;obtain⟨_,_,g⟩:=QR.1 h;exact List.Pairwise.cons (λt k=>(Zq9 g t k).1) (ih g)
theorem Zr5 :∀ {last:Int},l.Pairwise (· <·)->(∀t∈l,last<t/\t<=1099511627776)->tv last l=true:=by
 induction l with
 |nil=>intro _ _ _;rfl
 |cons a r ih=>intro last h hb;rw[List.pairwise_cons] at h;refine QR.2 ⟨(hb a fi).1,(hb a fi).2,ih h.2 (λt g=>⟨h.1 t g,(hb t (gM _ g)).2⟩)⟩
theorem Zd :Zi l=true↔l.Pairwise (· <·)/\(∀t∈l,0<=t/\t<=1099511627776)/\l.length<=4096:=by unfold Zi;rw[gm,Vax];constructor;rintro⟨h1,g⟩;exact⟨ZgJ h1,λt k=>by have:=Zq9 h1 t k;omega,g⟩;rintro⟨h1,g,p⟩;exact⟨Zr5 h1 (λt k=>aO),p⟩
theorem Y4 (l:List Int):∀last,(gp last l)=l.length:=by
 induction l with
 |nil=>intro _;rfl
 |cons a r ih=>simp[gp,ih]
theorem Zp7 :∀ {last:Int},-1<=last->tv last l=true->∀g∈gp last l,0<=g/\g<=1099511627776:=by
 induction l with
 |nil=>intro last _ _ g k;cases k
 |cons a r ih=>intro last h0 h g k;obtain⟨h1,p,q⟩:=QR.1 h;rcases jA.1 k with rfl|k;exact O;grind
theorem ZqG :∀ {last:Int},-1<=last->tv last l=true->jn last (gp last l)=some l:=by
 induction l with
 |nil=>intro _ _ _;rfl
 |cons a r ih=>intro last h0 h;obtain⟨h1,g,k⟩:=QR.1 h;show(if _ then none else _)=_;grind
theorem ZqH :∀ {last:Int} {l:List Int},-1<=last->jn last x=some l->tv last l=true/\gp last l=x/\l=x.length:=by
 induction x with
 |nil=>intro last l _ h;injection h with h;subst h;exact⟨rfl,rfl,rfl⟩
 |cons g r ih=>
  intro last l h0 h;unfold jn at h;split at h;exact aO
  match hj:jn (last+g+1) r,h with
  |none,h=>cases h
  |some l',h=>injection h with h;subst h;obtain⟨i1,k,p⟩:=ih O hj;exact⟨QR.2 ⟨O,O,i1⟩,by simp[gp,k];omega,aO⟩
theorem Gu (h:Zi l=true):jnL (Za l)=some l:=by unfold Zi at h;rw[gm,Vax] at h;unfold jnL Za;rw[ZqG O h.1];grind
theorem J6 (h:jnL x=some l):Zi l=true/\Za l=x:=by
 unfold jnL at h;match hj:jn (-1) x,h with
 |none,h=>cases h
 |some l',h=>simp only at h;split at h;injection h with h;subst h;obtain⟨i1,g,_⟩:=ZqH O hj;exact⟨by unfold Zi;grind,g⟩;grind
theorem Xz (h:Zi l=true):∀g∈Za l,0<=g/\g<=1099511627776:=by unfold Zi at h;rw[gm] at h;exact Zp7 O h.1
structure Clk where
 st:Int
 f:Int
 s:Int
 n:Int
deriving DecidableEq
def zo:Clk:=⟨0,0,0,0⟩
def fL (c:Clk) (i:Nat):Int:=c.st+((i+1)/2:Nat)*c.f+(i/2:Nat)*c.s
def DP (c:Clk) (i:Nat):Int:=if i % 2=0 then c.f else c.s
theorem Zhl (c:Clk):fL c 0=c.st:=by unfold fL;simp
theorem Zhk (c:Clk) (i:Nat):fL c (i+1)=fL c i+DP c i:=by unfold fL DP;rcases Nat.mod_two_eq_zero_or_one i with h|h;rw[Vag h,show(i+1+1)/2=(i+1)/2+1 by omega,show(i+1)/2=i/2 by omega,xb,EK];omega;rw[Vae O,show(i+1+1)/2=(i+1)/2 by omega,show(i+1)/2=i/2+1 by omega,xb,EK,EK];omega
def sw (c:Clk):Prop:=1<=c.n/\c.n<=4096/\0<=c.st/\c.st<=1099511627776/\1<=c.f/\c.f<=1099511627776/\1<=c.s/\c.s<=1099511627776
instance (c:Clk):Decidable (sw c):=by unfold sw;infer_instance
def nU (c:Clk):Bool:=decide (sw c)&&decide (fL c (c.n-1).toNat<=1099511627776)
theorem YH {c:Clk} :nU c=true↔sw c/\fL c (c.n-1).toNat<=1099511627776:=by unfold nU;grind
theorem ZjY {c:Clk} (h:sw c) (i:Nat):1<=DP c i/\DP c i<=1099511627776:=by obtain⟨_,_,_,_,h1,g,k,l⟩:=h;unfold DP;grind
theorem Zom {c:Clk} (h:sw c):∀ {i j:Nat},i<j->fL c i<fL c j:=by
 intro i j g;induction j with
 |zero=>exact O
 |succ j ih=>have k:=ZjY h j;rw[Zhk];grind
def ZP (c:Clk):List Int:=(List.range c.n.toNat).map (fL c)
theorem Ru (c:Clk):(ZP c)=c.n.toNat:=by simp[ZP]
theorem Rw {c:Clk} (h:sw c):(ZP c).Pairwise (· <·):=by unfold ZP;rw[List.pairwise_map];exact List.Pairwise.imp (λg=>Zom h g) List.pairwise_lt_range
def nD (c:Clk) (m:Int):Nat->Nat->Nat
 |0,k=>k
 |fuel+1,k=>if k<4096/\fL c k<=m then nD c m fuel (k+1) else k
theorem Zd7 (c:Clk) (m:Int):∀(fuel k:Nat),¬(k<4096/\fL c k<=m)->nD c m fuel k=k:=by
 intro fuel k h;cases fuel with
 |zero=>rfl
 |succ f=>rw[nD,Vae h]
theorem Zd6 (c:Clk) (m:Int) (fuel k:Nat) (h:k<4096/\fL c k<=m):nD c m (fuel+1) k=nD c m fuel (k+1):=by rw[nD,Vag h]
theorem Zd5 (c:Clk) (m:Int):∀(fuel k:Nat),k<=4096->4096-k<=fuel->k<=nD c m fuel k/\nD c m fuel k<=4096/\(∀i,k<=i->i<nD c m fuel k->fL c i<=m)/\(nD c m fuel k<4096->m<fL c (nD c m fuel k)):=by
 intro fuel;induction fuel with
 |zero=>intro k h1 g;rw[nD];grind
 |succ f ih=>intro k h1 g;rw[nD];by_cases h:k<4096/\fL c k<=m;exact aO;rw[Vae h];exact⟨aU,h1,λi _ _=>O,λ_=>O⟩
def tw (a b:Int) (r:List Int):Clk:=⟨a,b-a,match r with|[]=>b-a|t::_=>t-b,1⟩
def Zt (l:List Int):Clk:=match l with
 |a::b::r=>if Zi l=true then { tw a b r with n:=(nD (tw a b r) ((a::b::r).getLast (by simp)) 4096 1:Nat) } else zo
 |_=>zo
theorem Zqt (c:Clk) (n:Int) (i:Nat):fL { c with n:=n } i=fL c i:=rfl
theorem Qf (h:Zi l=true) (y:2<=l.length):nU (Zt l)=true:=by
 match l,y with
 |a::b::r,_=>
  have hd:Zt (a::b::r)= { tw a b r with n:=(nD (tw a b r) ((a::b::r).getLast (by simp)) 4096 1:Nat) } :=by show(if _ then _ else _)=_;grind
  obtain⟨v1,v2,Q⟩:=Zd.1 h;obtain⟨m,D⟩:=ay ((a::b::r).getLast (by simp));have G:=v2 m aO;rw[hd,D];obtain⟨i1,E,u,F⟩:=Zd5 (tw a b r) m 4096 1 O O;obtain⟨k,B⟩:=ay (nD (tw a b r) m 4096 1);rw[B] at i1 E u F⊢;have g:=v2 a fi;have hb:=v2 b (gM _ fi);rw[List.pairwise_cons] at v1;obtain⟨w1,I⟩:=v1;have R:=w1 b fi;have p:1<=(tw a b r).s/\(tw a b r).s<=1099511627776:=by unfold tw;rcases r with _|⟨t,q⟩;exact aO;have M:=v2 t (gM _ (gM _ fi));rw[List.pairwise_cons] at I;grind
  refine YH.2 ⟨⟨aO,aO,g.1,g.2,by show 1<=b-a;omega,by show b-a<=_;omega,p.1,p.2⟩,?_⟩;rw[Zqt];show fL _ ((k:Int)-1).toNat<=_;rw[show((k:Int)-1).toNat=k-1 by omega];rcases Nat.lt_or_ge 1 k with z|z;exact Int.le_trans (u (k-1) O O) G.2;rw[show k-1=0 by omega,Zhl];exact g.2
def vA (l:List Int):List Int:=l.mergeSort (λa b=>decide (a<=b))
theorem Wl (l:List Int):(vA l).Perm l:=List.mergeSort_perm _ _
theorem Zcb (l:List Int):(vA l).Pairwise (· <=·):=by have:=List.pairwise_mergeSort (le:=λa b:Int=>decide (a<=b)) (λa b c h1 g=>aO) (λa b=>aO) l;exact this.imp (λh=>aO)
theorem Zq2 (h:r.Perm l) (k:r.Pairwise (· <=·)):vA l=r:=
 List.Perm.eq_of_pairwise (le:=(· <=·)) (λa b _ _ h1 g=>Int.le_antisymm h1 g) (Zcb l) k ((Wl l).trans h.symm)
def Qy (c:Clk) (l:List Int):List Int:=((List.range c.n.toNat).filter (λi=> !l.contains (fL c i))).map Int.ofNat
def qg (c:Clk) (l:List Int):List Int:=l.filter (λt=> !(ZP c).contains t)
def excT (c:Clk) (l:List Int):Option (List Int×List Int):=if nU c=true/\Zi l=true then some (Qy c l,qg c l) else none
def DN (c:Clk) (m:List Int):List Int:=((List.range c.n.toNat).filter (λ(i:Nat)=> !m.contains (i:Int))).map (fL c)
def zB (c:Clk) (m x:List Int):List Int:=vA (DN c m++x)
theorem Zep (c:Clk) (l:List Int):DN c (Qy c l)=(ZP c).filter (λt=>l.contains t):=by unfold DN ZP;rw[List.filter_map];congr 1;apply List.filter_congr;unfold Qy;grind
theorem KY (h:l.Pairwise (· <·)):l.Nodup:=h.imp (λh e=>O)
theorem Znm {c:Clk} (k:sw c) (p:Zi l=true):zB c (Qy c l) (qg c l)=l:=by
 obtain⟨v1,v2,y⟩:=Zd.1 p;refine Zq2 ?_ (v1.imp (λh=>Int.le_of_lt h));rw[Zep];have g:=Rw k;have n1:((ZP c).filter (λt=>l.contains t)++qg c l).Nodup:=by rw[List.nodup_append];refine⟨KY (g.sublist List.filter_sublist),KY (v1.sublist List.filter_sublist),?_⟩;rintro a u b hb rfl;have q:=(List.mem_filter.1 hb).2;grind
 refine(List.perm_ext_iff_of_nodup (KY v1) n1).2 (λa=> ?_);unfold qg;grind
theorem Xi {c:Clk} (g:sw c) (l:List Int):Zi (Qy c l)=true:=by refine Zd.2 ⟨?_,?_,?_⟩;unfold Qy;rw[List.pairwise_map];exact(List.pairwise_lt_range.sublist List.filter_sublist).imp (λh=>Int.ofNat_lt.2 h);intro t k;obtain⟨i,hi,rfl⟩:=Vbm.1 k;have:=g.2.1;grind;unfold Qy;rw[Vah];have h1:=List.length_filter_le (λi=> !l.contains (fL c i)) (List.range c.n.toNat);rw[rm] at h1;have:=g.2.1;omega
theorem FI {c:Clk} (g:Zi l=true):Zi (qg c l)=true:=by obtain⟨v1,v2,p⟩:=Zd.1 g;refine Zd.2 ⟨v1.sublist List.filter_sublist,λt k=>v2 t (List.mem_filter.1 k).1,?_⟩;have h1:=List.length_filter_le (λt=> !(ZP c).contains t) l;unfold qg;omega
end Wv
namespace Go.Proofs.Y
open Wv Go.RowKit
section
variable{A:Wto}{b eb g n z:Nat}{l t:List Nat}{most:Int}{s:ax}{w w':aq}
theorem ZcL (n:Nat) (h:0<n):eO n=eO (n/2)+1:=by unfold eO;rw[Vae O];by_cases h1:n/2=0;rw[Vag h1,Nat.log2_def,Vae O];rw[Vae h1,Nat.log2_def,Vag O]
theorem TA (x:Nat) (h:x<2 ^ 64):Go.Lib.bitLen x=eO x:=by
  have key:∀f y,y<2 ^ f->Go.Lib.bitLenAux f y=eO y:=by
    intro f;induction f with
    | zero => intro y hy; have : y = 0 := by simpa using hy
              subst this;rfl
    |succ f ih=>
      intro y hy;unfold Go.Lib.bitLenAux;split;. rename_i h0;subst h0;rfl
      rename_i h0;rw[ih (y/2) (by rw[rn] at hy;omega),ZcL y O];omega
  exact key _ x h
theorem KA (v:Nat) (h:v<=9223372036854775807) (w:aq):
  cK 154 #[.int .u64 (v:Int)] w λx w'=>x=.returned ((eO v:Nat):Int)/\w=w':=by refine(Tryz.bits_Len (v:Int) w O O).mono ?_;rintro x w' ⟨rfl,g⟩;exact⟨ZZ (by rw[ep,TA _ O]),g.symm⟩
theorem K0 {dv:aI} {e:En} (h:fp w b g t) (ht:TNum t) (G:dY w eb dv e) (M:dE 0 e) (v:Nat) (a9:v<4611686018427387904) (a6:e.out.length<=800000):
  Calls prog 117 #[(b,0),(eb,0),v] w λx w'=>x=.returned (.tuple #[])/\fp w' b g (kU v (t,e)).1/\∃S,dY w' eb S (kU v (t,e)).2/\Fr (tc g eb dv) w w'/\Zu w dv S:=by
 have hb:=Jv a9;have B:=J (KA v O);obtain⟨n,I⟩:=ay (eO v);have F:kU v (t,e)=((fM 6 n 1 t e).1,if 2<=n then mO (n-1) v (fM 6 n 1 t e).2 else(fM 6 n 1 t e).2):=(by unfold kU;rw[I]);rw[I] at B hb;obtain⟨k1,k2,k3⟩:=AY 6 n 1 ht.1 vN M;have E:=J (Zk9 h ht G M n O a6)
 have k:(fM 6 n 1 t e).2.out<=e.out.length+12:=by
  have key:∀(j m:Nat) (t:List Nat) (e:En),(fM j n m t e).2.out<=e.out.length+2*j:=by intro j;exact Nu
  have:=key 6 1 t e;omega
 have b0:=h.foot G;generalize fM 6 n 1 t e=D at*;obtain⟨b4,b3⟩:=D;simp only at F E k3 k;have l:=J F;have b1:¬(4611686018427387903:Int)<v:=O;have b2:¬(v:Int)<0:=O;clear F I k1 k2 h G ht M b0;by_cases h2:2<=n;.rw[Vag h2] at l;have a8:(2:Int)<=n:=O;have i1:(n:Int)-1=((n-1:Nat):Int):=O;obtain⟨q,a0⟩:=ay (n-1);rw[a0] at i1 l;have a3:q<=62:=O;clear a0;go_in;go_wp21;refine cp (B.o _) ?_;go_wp21;refine aP E.o λw1 ⟨y,a1,u,p,z⟩=>?_;have Hd:=J (Z8a u k3 q v a3 O O);have a7:=p.size;have R:=y.foot u;go_wp21;refine aP Hd.o λb5 ⟨a2,a4,Q,a5⟩=>?_;go_wp2;go_end0;rw[l.o];exact⟨rfl,y.fr Q R.1 R.2,a2,a4,KG p Q z,z.trans a5 a7⟩
 rw[Vae h2] at l;have a8:¬(2:Int)<=n:=O;clear h2;go_in;go_wp21;refine cp (B.o _) ?_;go_wp21;refine aP E.o λw1 ⟨y,a1,u,p,z⟩=>?_;go_wp2;go_end0;rw[l.o];exact⟨rfl,y,a1,u,p,z⟩
theorem ZpB (n x:Nat) (g:n<=61) (k:x<2 ^ n):bits .or .i64 (IntKind.i64.wrap (2 ^ n)) (x:Int)=((2 ^ n+x:Nat):Int):=by have h1:(2:Nat) ^ n<=2 ^ 61:=pQ O g;have e:((2:Int) ^ n)=((2 ^ n:Nat):Int):=(by rw[Int.natCast_pow];rfl);rw[e,IntWalk.i64_in _ O,W9 _ _ O O,nat_join n _ _ (by rw[Nat.mod_self]) k]
theorem ZbI (d:De) (h:n<2):wA n d=n:=by unfold wA;rw[Vag h]
theorem ZeQ (d:De):wA 63 d= -1:=rfl
theorem Zj7 (d:De) (h:¬n<2) (g:n≠63):wA n d=((2 ^ (n-1)+(ddir (n-1) 0 d).1:Nat):Int):=by unfold wA;rw[Vae h,Vae g]
theorem ZmT (t:List Nat) (d:De) (n:Nat) (k:List Nat) (g:De) (h:ej 6 1 t d=(n+64,k,g)):
  gC t d=(wA n g,k,if n<2 then g else if n=63 then g else(ddir (n-1) 0 g).2):=by unfold gC;rw[h];simp only[vI]
theorem Z5o {d:De} (h:fp w b g t) (ht:TNum t) (a1:dD w eb d) (M:DV 0 d):
  Calls prog 186 #[(b,0),(eb,0)] w λx w'=>x=.returned (.int .i64 (gC t d).1)/\fp w' b g (gC t d).2.1/\dD w' eb (gC t d).2.2/\Fr (vg g eb) w w':=by
 have u:=Zk8 h ht a1 M;obtain⟨k1,k2,k3,a3,a4⟩:=DK 6 1 t d ht.1 vN M;have l:=ZmT t d;generalize ej 6 1 t d=D at*;obtain⟨m,b1,y⟩:=D;simp only at u k3 a3 a4;obtain⟨n,rfl⟩:∃n,m=n+64:=⟨m-64,O⟩;have l:=l n b1 y rfl;rw[vI] at u;have u:=J u;have I:=J l;have b5:n<64:=O;clear k1 k2 a3 a4 l h ht a1 M;by_cases p:n<2
 .have k:=I.o;rw[Vag p,ZbI y p] at k;have E:=J k;have a9:n=0\/n=1:=O;clear k p;rcases a9 with rfl|rfl
  all_goals
   go_in;go_wp21;refine aP u.o λw1 ⟨z,B,F⟩=>?_;go_wp2;go_ret;rw[E.out];exact⟨rfl,z,B,F⟩
 have b2:((n:Int)==0)=false:=rT;have b3:((n:Int)==1)=false:=rT;by_cases G:n=63;.have k:=I.o;rw[Vae p,Vag G] at k;subst G;rw[ZeQ] at k;have E:=J k;clear k p;go_in;go_wp21;refine aP u.o λw1 ⟨z,B,F⟩=>?_;go_wp2;go_ret;rw[E.out];exact⟨rfl,z,B,F⟩
 have a0:((n:Int)==63)=false:=rT;have k:=I.o;rw[Vae p,Vae G,Zj7 y p G] at k;have E:=J k;obtain⟨q,a2⟩:=ay (n-1);rw[a2] at E;have a7:q<=61:=O;have i1:(n:Int)-1=(q:Int):=O;have b4:IntKind.i64.wrap (q:Int)=(q:Int):=lO;have b7:0<=(q:Int):=O;have Q:=(Ma q 0 y k3).2;rw[jK,Et] at Q;have a5:=ZpB q (ddir q 0 y).1 a7 Q;have a6:=J a5;clear k p G a2 Q a5;go_in;go_wp21;refine aP u.o λw1 ⟨z,B,F⟩=>?_;have Hd:=J (λW (a8:dD W eb y)=>Z86 a8 k3 q O);have S:=z.onl B;go_wp2;go_region_with ((go_at_call 227;refine(Hd.o _ B.drew).mono ?_;rintro x b6 ⟨rfl,b0,R⟩))
 all_goals
  go_wp2;go_ret;rw[E.out];exact⟨ZZ a6.o,z.drew.fr R S.1 S.2,b0,F.drew.trans' R (λi hi e=>.inr e)⟩
theorem ZbD (l:List Nat) (v:Nat):∀x:List Nat×En,XW (l++[v]) x=kU v (XW l x):=by
 induction l with
 |nil=>intro x;rfl
 |cons a l ih=>intro x;exact ih _
theorem ZbE (l:List Nat) (k:Nat) (h:k<l) (x:List Nat×En):XW (l.take (k+1)) x=kU (l.getD k 0) (XW (l.take k) x):=by rw[dK h,ZbD];congr 1;simp[List.getD,h]
theorem KR (n:Nat) (j:Nat):∀(m:Nat) (t:List Nat) (e:En),(fM j n m t e).2.out<=e.out.length+2*j:=Nu
theorem K1 (v:Nat) (g:v<4611686018427387904) (x:List Nat×En):(kU v x).2.out<=x.2.out.length+134:=by have hb:=Jv g;have h1:=KR (eO v) 6 1 x.1 x.2;unfold kU;simp only;split;have:=Vc (eO v-1) v (fM 6 (eO v) 1 x.1 x.2).2;omega;omega
theorem Uc (l:List Nat):∀(x:List Nat×En),(∀v∈l,v<4611686018427387904)->(XW l x).2.out.length<=x.2.out+134*l.length:=by
 induction l with
 |nil=>intro x _;exact aU
 |cons v l ih=>intro x h;have h1:=ih (kU v x) (λu g=>h u (gM _ g));have k:=K1 v (h v fi) x;rw[XW,gd];omega
def bO (l:List Int):List aI:=l.map iv
theorem XN (l:List Int) (i:Nat) (h:i<l):(bO l)[i]? =(l.getD i 0:Int):=by have:l.getD i 0=l[i]:=(by simp[List.getD,h]);rw[this];simp[bO,iv,fb h]
theorem Ziq (h:fp w b g t0) (b8:At w A (bO (l.map Int.ofNat))) (a2:l≠[]->∀G o,A=some ⟨G,o,none⟩->G≠g) (n cap:Nat) (M:n=l) (g3:l.length<=4096) (a6:∀v∈l,v<4611686018427387904):
  Calls prog 157 #[.iface 191 (.pointer (some (b,0))),(A,n,cap)] w λx w'=>x=.returned (bs (jk l))/\Fr (only g) w w':=by
 have p:=Zj (n:Int) O O w;rw[ep,M] at p;have f2:=rK l;rw[<-Z0] at f2;have Q:jk l=bi l.length++if l=[] then[] else ji (XW l (t0,e0)).2:=rfl;generalize F:bs (bi l.length)=s1 at*;obtain⟨p,a8,a1,Ha,D⟩:=ii p F h b8 M;have g4:n<=4096:=O;rw[<-M] at p;clear F h b8 M;by_cases h0:l=[];.rw[Vag h0,fg] at Q;have c4:n=0:=(by rw[D.o,h0];rfl);subst c4;have R:=J Q;go_in;go_wp21;refine aP p.o λw1 I=>?_;go_wp2;go_ret;exact⟨Bc (by rw[R.o,a8.o]),Fr.of_below I⟩
 rw[Vae h0] at Q;have a2:=a2 h0;have c4:0<n:=by rw[D.o];exact List.length_pos_iff.2 h0
 have f7:((n:Int)==0)=false:=rT;obtain⟨R,a0,z⟩:=bD Q a2 a6;go_in;go_wp21;refine aP p.o λw1 I=>?_;have d3:=J (Vf w1);go_wp21;refine aP d3.o λf3 ⟨d9,aa⟩=>?_;have F:=I.size;have a3:=I.trans (aa.mono F);have e6:=a1.o.below a3;have e5:=Ha.o.below a3;have f5:b<w:=a1.o.1.lt;have f8:g<w:=a1.o.2.lt;have e7:Fr (only g) w f3:=Fr.of_below a3;go_wp2;go_loopw [8,19] (λ_ i wr=>∃(k:Nat) (a4:aI),k<=n/\i=k/\fp wr b g (XW (l.take k) (t0,e0)).1/\dY wr w1.heap.size a4 (XW (l.take k) (t0,e0)).2/\At wr A (bO (l.map Int.ofNat))/\Fr (only g) w wr/\(∀j,a4.ownBlock=some j->w.heap.size<=j)) (λ_ i _=>(n-intOf i).toNat);exact⟨0,_,O,rfl,e6,d9,e5,e7,W4f⟩;obtain⟨k,a4,g2,rfl,c5,u,b0,a7,f4⟩:=hrel;obtain⟨c3,B⟩:=Ud (l.take k) (x:=(t0,e0)) zi xG;have S:=Uc (l.take k) (t0,e0) (λv a6=>z.o v (Ag a6));rw[show(e0.out.length)=0 from rfl,ek] at S;by_cases ab:k<n
 .have y:k<l:=(by rw[<-D.o];exact ab);have b4:=ZbE l k y (t0,e0);obtain⟨v,q⟩:=ay (l.getD k 0);have e8:v<4611686018427387904:=Pf;obtain⟨f9,g5,e2,g0,g6⟩:=b0.get k (v:Int) Fe;subst e2;rw[q] at b4;generalize XW (l.take k) (t0,e0)=X at*;obtain⟨g8,g1⟩:=X;simp only at c3 B S c5 u;obtain⟨d2,b3,d1,b1⟩:=dc (K0 c5 c3 u B v e8 O) b4 b0 f4;go_wp21;refine aP d2.o λc6 ⟨d5,b2,c7,d6,e9⟩=>?_;have b5:Fr (only g) w c6:=a7.trans' d6 (λi hi t=>by rcases t with t|t|t;exact t;exact O;have:=b1.o i t;omega);have f6:=a7.size;have c8:=Ha.o.keep b5 (λG o e e4=>a0.o G o e e4);have c9:∀j,b2.ownBlock=some j->w.heap.size<=j:=by intro j b9;rcases e9 with a5|a5;exact b1.o j (a5▸b9);have:=a5 j b9;omega
  go_wp2;go_roundw;exact⟨k+1,b2,O,ci,by rw[b3.o];exact d5,by rw[b3.o];exact c7,c8,b5,c9⟩;simp[intOf]<;>omega
 have e1:k=n:=O;subst e1;have d7:l.take k=l:=d' (by rw[D.o];exact aU);rw[d7] at u B S;obtain⟨E,e3⟩:=ay (XW l (t0,e0));rw[e3] at u B S R;have a9:=J (RK u B.low O);have b7:(ji E.2).length<=600000:=by unfold ji;rw[Vab,Ye];omega
 rw[<-Z0] at b7;obtain⟨g7,b6⟩:=ay (bs (ji E.2));rw[b6] at a9 b7;have d4:=J b6;go_wp21;refine aP a9.o λc6 d8=>?_;go_wp2;go_ret;exact⟨Bc (by rw[R.o,<-Z9,a8.o,d4.o]),a7.below d8⟩
theorem YF (u:At w A (bO (l.map Int.ofNat))) (n cap:Nat) (D:n=l) (B:l.length<=4096) (E:∀v∈l,v<4611686018427387904):
  Calls prog 121 #[(A,n,cap)] w (bM w (.tuple #[bs (jk l),(0:Int)])):=by
 have I:=J (K2 w);have t:=J D;have b3:n<=4096:=O;obtain⟨Ha,z,F⟩:=bD u E B;clear D u E B;go_in;go_wp2;go_loop [5,11] (λ_ i=>∃k:Nat,k<=n/\i=k) (λ_ i=>(n-intOf i).toNat);exact Cw;obtain⟨k,b1,rfl⟩:=hrel;by_cases ab:k<n;.have y:k<l:=(by rw[<-t.o];exact ab);obtain⟨v,q⟩:=ay (l.getD k 0);have a0:v<4611686018427387904:=Pf;obtain⟨a5,b5,p,a6,b6⟩:=Ha.o.get k (v:Int) Fe;subst p;have a2:¬(4611686018427387903:Int)<v:=O;have a7:¬(v:Int)<0:=O;clear a0 q;go_wp2;go_round;exact⟨k+1,O,ci⟩;simp[intOf]<;>omega
 have R:k=n:=O;subst R;go_wp21;refine(I.o).mono ?_;rintro x w1 ⟨b,rfl,a1,S,g⟩;have G:=J (Ziq S (Ha.o.below g) (λM a3 o p a9=>by obtain⟨a4,b4,h1,a8,_⟩:=Ha.o 0 (by simp only[bO,Vah];exact List.length_pos_iff.2 M);rw[p] at h1;injection h1 with h1;injection h1 with h1;omega) k cap t.o F.o z.o);go_wp21;refine aP G.o λb7 Q=>?_;go_wp2;go_returns;exact⟨rfl,g.trans (Q.toBelow' g.size (λj b0 e=>Jd))⟩
theorem Mc {d:De} (ht:TNum t) (g:DV 0 d):TNum (gC t d).2.1/\DV 0 (gC t d).2.2:=by obtain⟨k1,k2,k3,_⟩:=DK 6 1 t d ht.1 vN g;refine⟨⟨k1,k2.trans ht.2⟩,?_⟩;unfold gC;simp only;split;exact k3;split;exact k3;exact(Ma _ 0 _ k3).1
def gW:Nat->List Nat->De->List Int×List Nat×De
 |0,t,d=>([],t,d)
 |k+1,t,d=>((gW k t d).1++[(gC (gW k t d).2.1 (gW k t d).2.2).1],(gC (gW k t d).2.1 (gW k t d).2.2).2)
theorem ZeK (k:Nat):∀t d,gW (k+1) t d=((gC t d).1::(gW k (gC t d).2.1 (gC t d).2.2).1,(gW k (gC t d).2.1 (gC t d).2.2).2):=by
 induction k with
 |zero=>intro t d;rfl
 |succ k ih=>intro t d;rw[gW,ih,gW];rfl
theorem TV (k:Nat):∀t d,(uc k t d).1=(gW k t d).1/\(uc k t d).2=(gW k t d).2.2:=by
 induction k with
 |zero=>intro t d;exact⟨rfl,rfl⟩
 |succ k ih=>intro t d;rw[ZeK,uc];have:=ih (gC t d).2.1 (gC t d).2.2;exact⟨by rw[this.1],this.2⟩
theorem ZqM (k:Nat) {d:De} (g:TNum t) (l:DV 0 d):TNum (gW k t d).2.1/\DV 0 (gW k t d).2.2:=by
 induction k with
 |zero=>exact⟨g,l⟩
 |succ k ih=>exact Mc ih.1 ih.2
theorem Z1F (k:Nat) (t:List Nat) (d:De):(gW k t d).1=k:=by
 induction k with
 |zero=>rfl
 |succ k ih=>simp[gW,ih]
theorem d0_v (s:ax):DV 0 (d0 s):=by
 have h1:(uq s).size=4294967295:=by unfold uq;rw[yZ.1,yZ.1,yZ.1,yZ.1]
 exact⟨by show B6 0 (uq s).size;rw[h1];exact⟨aY,aY⟩,(yZ (d:=Xt (Xt (Xt ⟨s,0,4294967295,false,false⟩)))).2⟩
def xW (l:List Int):Array aI:=(bO l).toArray
theorem Zmv (l:List Int) (i:Nat) (z:Int):(xW l).setIfInBounds i z=xW (l.set i z):=by apply pS.1;simp[xW,bO,iv,List.map_set]
theorem ZiP (n:Nat):Array.replicate n (.int .i64 0:aI)=xW (List.replicate n 0):=by apply pS.1;simp[xW,bO,iv]
theorem Zmu (l:List Int) (i:Nat) (h:i<l):(xW l)[i]? =(l.getD i 0:Int):=by have:=XN l i h;simpa [xW] using this
def IRes (w:aq) (v:aI) (l:List Int):Prop:=∃A cap,v=.slice A l cap/\At w A (bO l)
theorem IRes.nil (w:aq):IRes w (.slice none 0 0) []:=⟨none,0,rfl,At.nil _ _⟩
def dl (s:ax) (most:Int):List Int×Nat:=
 match gP s with
 |none=>([],12)
 |some (n,z)=>if 4096<n then([],12) else if most<(n:Int) then([],2) else if n=0 then([],if z<s then 12 else 0)
  else if pH (gW n t0 (d0 (s.drop z))).2.2=true then((gW n t0 (d0 (s.drop z))).1,0) else([],12)
def rh (w:aq) (x:Ending) (w':aq) (r:List Int×Nat):Prop:=∃v,x=.returned (.tuple #[v,r.2])/\IRes w' v r.1/\Below w w w'
theorem Qk (e:Nat) (hb:Below w w w'):rh w (.returned (.tuple #[.slice none 0 0,e])) w' ([],e):=⟨_,rfl,IRes.nil _,hb⟩
theorem Hk (h:gP s=some (n,z)) (g:¬most<(n:Int)):bG (bs s) 0 most=(n,bs (s.drop z),0):=by unfold bG;rw[Vag rfl,Zm,h];simp only;rw[Vae g]
theorem VE (h:gP s=some (n,z)) (g:most<(n:Int)):bG (bs s) 0 most=(0,bs s,2):=by unfold bG;rw[Vag rfl,Zm,h];simp only;rw[Vag g]
theorem Ue (h:gP s=none):bG (bs s) 0 most=(0,bs s,12):=by unfold bG;rw[Vag rfl,Zm,h]
theorem Zf {w1 g:aq} (h:Below w w w1) (hb:w<=b) (k:Fr (only b) w1 g):Below w w g:=
 h.trans (k.toBelow' h.size (λj l e=>Cz))
theorem U8 (b:Nat) (s:ax) (F:s.length<=1099511627776) (most:Int) (hd:gP s=none\/∃n z,gP s=some (n,z)/\4096<n):
  Calls prog 187 #[.iface 191 (.pointer (some (b,0))),bs s,(4096:Int),most] w λx w'=>rh w x w' ([],12):=by
 have u:∃e,bG (bs s) 0 4096=(0,bs s,e)/\e≠0:=by rcases hd with h|⟨n,z,h,E⟩;exact⟨12,Ue h,O⟩;exact⟨2,VE h O,O⟩
 obtain⟨e,u,B⟩:=u;have G:(bs s).size<=1099511627776:=Cs;have q:=J (ZT (bs s) w);have t:=J (λW (h:RV W w (bs s) 0)=>E5);have D:((e:Int) !=0)=true:=eV;clear hd u B;generalize bs s=S at*;go_in;go_wp21;refine aP q.o λw1 ⟨l,p⟩=>?_;go_wp21;refine aP (t.o _ l) λI ⟨k,g⟩=>?_;have y:=J (Ze k);have aa:=Zf p aU g;clear l k p g;go_wp21;refine cp y.o ?_;go_wp2;go_returns;exact Qk 12 aa
theorem Zie (b:Nat) (s:ax) (F:s.length<=1099511627776) (most:Int) (hd:gP s=some (n,z)) (D:n<=4096) (B:most<(n:Int)):
  Calls prog 187 #[.iface 191 (.pointer (some (b,0))),bs s,(4096:Int),most] w λx w'=>rh w x w' ([],2):=by have u:=Hk (most:=4096) hd O;have G:(bs s).size<=1099511627776:=Cs;have q:=J (ZT (bs s) w);have t:=J (λW (h:RV W w (bs s) 0)=>E5);clear hd u;generalize bs s=S at*;generalize bs (s.drop z)=S2 at*;go_in;go_wp21;refine aP q.o λw1 ⟨l,p⟩=>?_;go_wp21;refine aP (t.o _ l) λE ⟨k,g⟩=>?_;have y:=J (Ze k);have aa:=Zf p aU g;clear l k p g;go_wp21;refine cp y.o ?_;go_wp2;go_returns;exact Qk 2 aa
theorem Zdo (b:Nat) (s:ax) (F:s.length<=1099511627776) (most:Int) (hd:gP s=some (0,z)) (Q:¬most<0) (l:Nat) (g:l=if z<s then 12 else 0):
  Calls prog 187 #[.iface 191 (.pointer (some (b,0))),bs s,(4096:Int),most] w λx w'=>rh w x w' ([],l):=by have u:=Hk (most:=4096) hd O;have G:(bs s).size<=1099511627776:=Cs;have y:=J (ZT (bs s) w);have B:=J (λW (h:RV W w (bs s) 0)=>E5);have M:Hid (iQ (bs (s.drop z)) 0=l):=J (by rw[g];unfold iQ;rw[Z0,iW];by_cases h:z<s;rw[Vag h,Vag ⟨rfl,O⟩];rw[Vae h,Vae O]);clear hd u g;generalize bs s=S at*;generalize bs (s.drop z)=S2 at*;go_in;go_wp21;refine aP y.o λw1 ⟨q,t⟩=>?_;go_wp21;refine aP (B.o _ q) λR ⟨k,p⟩=>?_;have D:=J (Ze k);have E:=J (C7 k);have aa:=Zf t aU p;clear q k t p;go_wp21;refine cp D.o ?_;go_wp21;refine aP E.o λa0 I=>?_;go_wp2;go_returns;rw[M.o];exact Qk _ (Zf aa aU I)
theorem Zj5 (k:Nat) (t:List Nat) (d:De):gW (k+1) t d=((gW k t d).1++[(gC (gW k t d).2.1 (gW k t d).2.2).1],(gC (gW k t d).2.1 (gW k t d).2.2).2):=rfl
theorem Zn3 (L:List Int) (n:Nat) (v:Int) (h:L<n):(L++List.replicate (n-L.length) 0).set L v=(L++[v])++List.replicate (n-(L.length+1)) 0:=IU
def Zqo (w:aq) (g:Nat) (D:List Int×List Nat×De) (x:Ending) (w':aq):Prop:=
 ∃v,x=.returned (.tuple #[v,(Bw D.2.2:Int)])/\(pH D.2.2=true->IRes w' v D.1)/\(pH D.2.2=false->v=.slice none 0 0)/\Fr (only g) w w'
theorem F4 (T:ax):Zb (bs T) 0 ((bs T).size:Int)=(bs T,bs [],0):=by unfold Zb;rw[Vag rfl,Vae O,Vae O,ep,Zm,Z0,pi,wY]
theorem Zdn (e4:fp w b g t0) (s:ax) (F:s.length<=1099511627776) (most:Int) (hd:gP s=some (n,z)) (i4:n<=4096) (i5:0<n) (i3:¬most<(n:Int)):
  Calls prog 187 #[.iface 191 (.pointer (some (b,0))),bs s,(4096:Int),most] w λx w'=>Zqo w g (gW n t0 (d0 (s.drop z))) x w':=by
 have u:=Hk (most:=4096) hd O;have G:(bs s).size<=1099511627776:=Cs;have g5:=J (ZT (bs s) w);have b5:=J (λW (h:RV W w (bs s) 0)=>E5);obtain⟨T,d1⟩:=ay (s.drop z);rw[d1] at b5⊢;have g1:(bs T).size<=1099511627776:=(by rw[Z0,<-d1,iW];omega);have f2:=F4 T;have d6:=J (λW (h:RV W w (bs T) 0)=>by have:=Zr h g1 ((bs T).size:Int);rw[f2] at this;exact this);have d7:=J (U' T);have h8:((n:Int)==0)=false:=rT;have g0:=d0_v T;clear hd u d1 f2;generalize bs s=S at*;obtain⟨i0,f7⟩:=ay (bs T);rw[f7] at b5 d6 d7 g1;have c3:=J e4;have g4:=J g0;clear f7 e4 g0;go_in;go_wp21;refine aP g5.o λw1 ⟨f4,f5⟩=>?_;go_wp21;refine aP (b5.o _ f4) λi7 ⟨a4,f3⟩=>?_;have d4:=J (Ze a4);have d5:=J (ZA a4 O);have aa:=Zf f5 aU f3;have f6:=J a4;clear f4 a4 f5 f3;go_wp21;refine cp d4.o ?_;go_wp21;refine cp d5.o ?_;go_wp21;refine aP (d6.o _ f6.o) λb3 ⟨h5,e8⟩=>?_;have c5:=Zf aa aU e8;clear e8 h5 d4 d5 f6 aa;go_wp21;refine aP (d7.o _) λl ⟨b4,an⟩=>?_;have g6:=c5.size;have i6:=b4.lt;have e7:=c5.trans (an.mono g6);have e2:=c3.o.below e7;have c8:=Y5 (P:=prog) 103 3 _ _ underlying103 Y2 rfl (n:Int) n rfl O O l;rw[ZiP] at c8;have d3:=J e2;have b6:=J b4;clear c5 an e2 b4;go_wp2;have h6:b<w:=c3.o.1.lt;have h9:g<w:=c3.o.2.lt;go_loopw [14,40] (λ_ i wr=>∃k:Nat,k<=n/\i=k/\fp wr b g (gW k t0 (d0 T)).2.1/\dD wr b3.heap.size (gW k t0 (d0 T)).2.2/\Bk wr l.heap.size 3 (xW ((gW k t0 (d0 T)).1++List.replicate (n-k) 0))/\Fr (only g) w wr) (λ_ i _=>(n-intOf i).toNat);exact⟨0,O,rfl,⟨d3.o.1.alloc _,d3.o.2.alloc _⟩,Bk.alloc b6.o _,Bk.new _ _ _,(Fr.of_below e7).alloc _⟩;obtain⟨k,i2,rfl,a2,M,E,b0⟩:=hrel;obtain⟨a7,a8⟩:=ZqM k zi g4.o;have a9:=Z1F k t0 (d0 T);by_cases ab:k<n
 .have a3:=Zj5 k t0 (d0 T);generalize gW k t0 (d0 T)=X at*;obtain⟨L,b1,a5⟩:=X;simp only at a7 a8 a9 a2 M E a3;have a6:=Zn3 L n (gC b1 a5).1 O;rw[a9] at a6;have B:=J (Z5o a2 a7 M a8);have h3:=a2.onl M;have e1:l.heap.size≠g:=O;have d9:l.heap.size≠b3.heap.size:=O;obtain⟨y,f9⟩:=ay ((gC b1 a5).1);rw[f9] at a6 B a3;obtain⟨c4,h0,f8,e5⟩:=dc a3 a6 E (And.intro e1 d9);clear a3 a6 f9 a2 M a7 a8 E c8 h3 e1 d9;go_wp21;refine aP B.o λI ⟨e3,R,d2⟩=>?_;have b2:=f8.o.fr d2 (λF=>by rcases F with F|F;exact e5.o.1 F;exact e5.o.2 F);have h4:(L++List.replicate (n-k) 0).length=n:=CA;obtain⟨g3,i1⟩:∃g3:Int,I.cell? (l.heap.size,k)=g3:=⟨_,by rw[b2.cell,Zmu _ _ O]⟩;have h7:=b2.frozen k;have c7:=b2.put k y;rw[Zmv,h0.o] at c7;have a1:fp (I.setCell (l.heap.size,k) y) b g (gC b1 a5).2.1:=e3.fr (S:=only l.heap.size) ((Fr.refl (only l.heap.size) I).setCell (p:=⟨l.heap.size,k,none⟩) (.inl rfl) _) (λe=>by have:b=l.heap.size:=e;omega) (λe=>by have:g=l.heap.size:=e;omega);have a0:dD (I.setCell (l.heap.size,k) y) b3.heap.size (gC b1 a5).2.2:=R.fr (S:=only l.heap.size) ((Fr.refl (only l.heap.size) I).setCell (p:=⟨l.heap.size,k,none⟩) (.inl rfl) _) (λe=>by have:b3.heap.size=l.heap.size:=e;omega);have g2:Fr (only g) w (I.setCell (l.heap.size,k) y):=(b0.trans' d2 (λi hi F=>by rcases F with F|F;exact F;omega)).setCell (p:=⟨l.heap.size,k,none⟩) (.inr (by show w.heap.size<=l.heap.size;omega)) _;obtain⟨g8,b8,b7,g7⟩:=dc c7 a1 a0 g2;clear c7 a1 a0 g2 e3 R d2 b2 b0 f8 h4;go_wp2;go_roundw;exact⟨k+1,O,ci,by rw[c4.o];exact b8.o,by rw[c4.o];exact b7.o,by rw[c4.o];exact g8.o,g7.o⟩;simp[intOf]<;>omega
 have h2:k=n:=O;subst h2;rw[fh,List.replicate_zero,fg] at E;have Q:=J (Zih M);have c6:=E.at_;have e6:=J a9;obtain⟨D,c9⟩:=ay (gW k t0 (d0 T));rw[c9] at Q c6 e6;have d8:=J c9;have h1:=J c6;clear c9 E a2 M a7 a8 c8 c6 a9;have g9:pH D.2.2=true\/pH D.2.2=false:=(by cases pH D.2.2<;>simp);rcases g9 with q|q;.have t:=L7 q;rw[t] at Q;have B:=J q;have b9:=J t;clear q t;go_wp21;refine cp Q.o ?_;go_wp2;go_returns;rw[d8.o];refine⟨.slice (some ⟨l.heap.size,0,none⟩) k k,by rw[b9.o];rfl,λ_=>⟨_,k,by rw[e6.o],h1.o⟩,(λh=>by rw[B.o] at h;cases h),b0⟩
 have t:=GL q;rw[t] at Q;have B:=J q;have b9:=J t;clear q t;go_wp21;refine cp Q.o ?_;go_wp2;go_returns;rw[d8.o];exact⟨.slice none 0 0,by rw[b9.o];rfl,(λh=>by rw[B.o] at h;cases h),λ_=>rfl,b0⟩
theorem ZlZ (s:ax) (most:Int):fc s most=if ∀v∈(dl s most).1,0<=v then dl s most else([],12):=by
 unfold fc dl;match gP s with
 |none=>simp
 |some (n,z)=>simp only;by_cases h1:4096<n;rw[Vag h1,Vag h1];simp;rw[Vae h1,Vae h1];by_cases g:most<(n:Int);rw[Vag g,Vag g];simp;rw[Vae g,Vae g];by_cases k:n=0;rw[Vag k,Vag k];simp;rw[Vae k,Vae k];obtain⟨q,t⟩:=TV n t0 (d0 (s.drop z));rw[q,t];by_cases l:pH (gW n t0 (d0 (s.drop z))).2.2=true;rw[Vag l];by_cases p:∀v∈(gW n t0 (d0 (s.drop z))).1,0<=v;rw[Vag ⟨l,p⟩,Vag p];rw[Vae (λh=>p h.2),Vae p];rw[Vae (λh=>l h.1),Vae l];simp
def Zod (w:aq) (g:Nat) (r:List Int×Nat) (x:Ending) (w':aq):Prop:=∃v,x=.returned (.tuple #[v,r.2])/\IRes w' v r.1/\Fr (only g) w w'
theorem Zid (B:fp w b g t0) (s:ax) (p:s.length<=1099511627776) (most:Int):
  cK 187 #[.iface 191 (.pointer (some (b,0))),bs s,(4096:Int),most] w λx w'=>Zod w g (dl s most) x w':=by
 have conv:∀ {x w' e},rh w x w' ([],e)->dl s most=([],e)->Zod w g (dl s most) x w':=by rintro x w' e ⟨v,h1,k,q⟩ h;rw[h];exact⟨v,h1,k,Fr.of_below q⟩
 match hd:gP s with
 |none=>refine(U8 b s p most (.inl hd)).mono ?_;intro x w' h;exact conv h (by unfold dl;rw[hd])
 |some (n,z)=>
  by_cases h1:4096<n;.refine(U8 b s p most (.inr ⟨n,z,hd,h1⟩)).mono ?_;intro x w' h;exact conv h (by unfold dl;rw[hd];simp only;rw[Vag h1])
  by_cases k:most<(n:Int);.refine(Zie b s p most hd O k).mono ?_;intro x w' h;exact conv h (by unfold dl;rw[hd];simp only;rw[Vae h1,Vag k])
  by_cases q:n=0;.subst q;refine(Zdo b s p most hd O _ rfl).mono ?_;intro x w' h;exact conv h (by unfold dl;rw[hd];simp only;rw[Vae h1,Vae k];simp only[if_true])
  refine(Zdn B s p most hd O O k).mono ?_;rintro x w' ⟨v,t,E,D,y⟩;have e:dl s most=if pH (gW n t0 (d0 (s.drop z))).2.2=true then((gW n t0 (d0 (s.drop z))).1,0) else([],12):=by unfold dl;rw[hd];simp only;rw[Vae h1,Vae k,Vae q]
  rw[e];by_cases l:pH (gW n t0 (d0 (s.drop z))).2.2=true;rw[Vag l];rw[L7 l] at t;exact⟨v,t,E l,y⟩;have u:pH (gW n t0 (d0 (s.drop z))).2.2=false:=(by simpa using l);rw[Vae l];rw[GL u] at t;have:=D u;subst this;exact⟨_,t,IRes.nil _,y⟩
theorem rh.of {x:Ending} {r:List Int×Nat} {v:aI} (h1:x=.returned (.tuple #[v,r.2])) (g:IRes w' v r.1) (k:Below w w w'):rh w x w' r:=⟨v,h1,g,k⟩
theorem Y1 (s:ax) (a0:s.length<=1099511627776) (most:Int):
  Calls prog 139 #[bs s,most] w λx w'=>rh w x w' (fc s most):=by
 obtain⟨G,I,MM⟩:=bD (K2 w) (λW b g (h:fp W b g t0)=>Zid h s a0 most) (ZlZ s most);have Q:(dl s most).1.length<=9223372036854775807:=by unfold dl;split;simp;split;simp;split;simp;split;split<;>simp;split;rw[Z1F];omega;simp
 generalize dl s most=r at*;obtain⟨l,M⟩:=r;simp only at MM Q;generalize bs s=S at*;go_in;go_wp21;refine(G.o).mono ?_;rintro x w1 ⟨b,rfl,a2,F,B⟩;go_wp21;refine(I.o _ _ _ F).mono ?_;rintro x a1 ⟨v,rfl,⟨A,cap,rfl,y⟩,aj⟩;have aa:Below w w a1:=B.trans (aj.toBelow' B.size (λj a6 e=>Jd));simp only at y;have D:=J y;clear y aj B F;go_wp2;go_loop [9,20] (λ_ i=>∃k:Nat,k<=l/\i=k/\Hid (∀v∈l.take k,0<=v)) (λ_ i=>(l.length-intOf i).toNat);exact⟨0,O,rfl,J (by simp)⟩;obtain⟨k,a7,rfl,ao⟩:=hrel;by_cases ab:k<l
 .obtain⟨v,q⟩:=ay (l.getD k 0);have p:l[k]=v:=(by rw[<-q];simp[List.getD,ab]);obtain⟨a4,a8,R,a5,a9⟩:=D.o.get k (.int .i64 v) (by rw[XN _ _ ab,q]);subst R;by_cases a3:v<0;.have E:¬∀u∈l,0<=u:=λh=>(by have:=h v (p▸dt _);omega);have t:Hid (fc s most=([],12)):=J (by rw[MM.o,Vae E]);clear E q p;go_wp2;go_returns;rw[t.o];exact Qk 12 aa
  have z:Hid (∀u∈l.take (k+1),0<=u):=J (by intro u hu;rw[dK ab,p] at hu;exact PA);clear q p;exact Pj
 have z:∀u∈l,0<=u:=by have:=ao.o;rwa [d' O] at this
 have t:Hid (fc s most=(l,M)):=J (by rw[MM.o,Vag z]);clear z;go_wp2;go_returns;rw[t.o];exact rh.of rfl ⟨A,cap,rfl,D.o⟩ aa
end
variable{g:Nat}{r:List Nat}{w:aq}
def vy (j:Nat):List Nat:=List.range j++List.replicate (4096-j) 0
theorem ZjG (j:Nat) (h:j<4096):(vy j).set j j=vy (j+1):=by unfold vy;rw[nj _ _ (by simp),rm,fh,show 4096-j=(4096-(j+1))+1 from by exact O,pP,List.set_cons_zero,vK,er];rfl
theorem Z8X (j:Nat) (h:j<=4096):(vy j).length=4096:=by simp[vy];omega
theorem ZjF:vy 4096=r0:=by unfold vy r0;rw[fh,List.replicate_zero,fg]
theorem Kp (n:Nat):nc (List.replicate n 0)=Array.replicate n (.int .i64 0):=by apply pS.1;simp[nc]
theorem m_ (w:aq):
  Calls prog 269 #[] w λx w'=>x=.returned (.slice (some (w,0)) 4096 4096)/\Bk w' w 3 (nc r0)/\Below w w w':=by
 have k:=Y5 (P:=prog) 103 3 _ _ underlying103 Y2 rfl 4096 4096 rfl O O w;rw[<-Kp] at k;have h0:List.replicate 4096 0=vy 0:=(by unfold vy;rw[List.range_zero,pU]);rw[h0] at k;go_in;go_wp2;go_loopw [2,6] (λ_ i wr=>∃j:Nat,j<=4096/\i=j/\Bk wr w 3 (nc (vy j))/\Below w w wr) (λ_ i _=>(4096-intOf i).toNat);exact⟨0,O,rfl,Bk.new _ _ _,(bf _ _).alloc aU _⟩;obtain⟨j,y,rfl,g,l⟩:=hrel;by_cases ab:j<4096;.have u:=g.cell j;rw[Xj _ _ (by rw[Z8X j y];exact ab)] at u;have D:=g.frozen j;have q:=g.put j j;rw[Z0k,ZjG j ab] at q;have t:=J q;have B:(j:Int)<4096:=O;go_wp2;go_roundw;exact⟨j+1,O,ci,t.o,l.setCell (p:=⟨w,j,none⟩) aU _⟩;simp[intOf]<;>omega
 have z:j=4096:=O;subst z;rw[ZjF] at g;go_wp2;go_ret;exact⟨rfl,g,l⟩
theorem Zca (h:Bk w g 3 (nc r)) (D:r.length=4096) (n:Nat) (B:n∈r):
  Calls prog 239 #[.slice (some (g,0)) 4096 4096,n] w λx w'=>x=.returned ((ix r n:Nat):Int)/\w=w':=by
 obtain⟨H,E,t⟩:=bD h B D;have G:ix r n<4096:=(by rw[<-D];exact zj.2 B);go_in;go_wp2;go_loop [5,8] (λ_ i=>∃j:Nat,j<=ix r n/\i=j) (λ_ i=>(4096-intOf i).toNat);exact Cw;obtain⟨j,I,rfl⟩:=hrel;have z:=H.o.cell j;rw[Xj _ _ (by rw[t.o];omega)] at z;have M:(j:Int)<4096:=O;obtain⟨y,q⟩:=ay (r.getD j 0);have p:r[j]? =some y:=by have u:j<r:=(by rw[t.o];omega);rw[fb u,<-q];simp[List.getD,u]
 rw[q] at z;by_cases ab:j<ix r n
 .have F:((n:Int)==y)=false:=by rw[lL];intro e;have:n=y:=O;exact Zel j ab (this▸p)
  go_wp2;go_round;exact⟨j+1,O,ci⟩;simp[intOf]<;>omega
 have l:j=ix r n:=O;have F:((n:Int)==y)=true:=by rw[beq_iff_eq];have:=ix_get? E.o;rw[<-l,p] at this;injection this with this;omega
 have k:=J l;clear q p l;go_wp2;go_ret;exact⟨ZZ (by rw[k.o]),rfl⟩
theorem Zbl (h:Bk w g 3 (nc r)) (l:r.length=4096) (n:Nat) (k:n∈r):
  Calls prog 238 #[.slice (some (g,0)) 4096 4096,n] w λx w'=>x=.returned (.tuple #[((ix r n:Nat):Int),((ix r n:Nat):Int)])/\w=w':=by have H:=J (Zca h l n k);go_in;go_wp21;refine cp H.o ?_;go_wp2;go_ret2;exact⟨rfl,rfl⟩
theorem Z7E (h:Bk w g 3 (nc r)) (p:r.length=4096) (n:Nat) (l:n<4096):
  Calls prog 240 #[.slice (some (g,0)) 4096 4096,n] w λx w'=>x=.returned (.tuple #[((r.getD n 0:Nat):Int),n])/\w=w':=by have k:=h.cell n;rw[Xj _ _ (by rw[p];exact l)] at k;have t:(n:Int)<4096:=O;obtain⟨y,q⟩:=ay (r.getD n 0);rw[q] at k⊢;go_in;go_wp2;go_ret2;exact⟨rfl,rfl⟩
end Go.Proofs.Y
namespace Wv
open Go Go.RowKit
theorem Ze4 {S:Nat->Prop} {a w:aq} {g:Nat} (h:Fr S a w) (p:S g) (l:Array aI):Fr S a (w.setRow g l):=
 h.trans ⟨rfl,rfl,rfl,by simp[World.setRow],λk t q=>setRow_other w g k l (λe=>q (e▸p))⟩
end Wv
namespace Go.Proofs.Y
open Wv Go.RowKit
variable{A:Wto}{g:Nat}{r:List Nat}{w:aq}
theorem ZbB (r:List Nat) (h:0<r.length):Xv r 0=r:=by
 unfold Xv;match r with
 |a::t=>rfl
theorem ZeF (r:List Nat) (p:Nat) (h:p<r):(r.take 1++r.take p++r.drop (1+p)).set 0 (r.getD p 0)=Xv r p:=by
 unfold Xv;match r,h with
 |a::t,h=>rw[List.eraseIdx_eq_take_drop_succ,IH 1 p];rfl
theorem Z8J (t:List Nat):(nc t).toList=t.map (λn:Nat=>(Value.int .i64 (n:Int))):=by simp[nc]
theorem Zpc:(prog.info? 3).map (·.size)=some 1:=qD
theorem ZeE (h:Bk w g 3 (nc r)) (q:r.length=4096):
  Calls prog 270 #[.slice (some (g,0)) 4096 4096,(0:Int)] w λx w'=>x=.returned (.slice (some (g,0)) 4096 4096)/\Bk w' g 3 (nc (Xv r 0))/\Fr (only g) w w':=by
 have l:=h.cell 0;rw[Xj _ _ (by rw[q];omega)] at l;have D:=h.frozen 0;have k:=h.put 0 (.int .i64 ((r.getD 0 0:Nat):Int))
 have z:r.set 0 (r.getD 0 0)=Xv r 0:=by
  rw[ZbB r O];match r,q with
  |a::t,_=>rfl
 rw[Z0k,z] at k;obtain⟨y,B⟩:=ay (r.getD 0 0);have F:IntKind.i64.wrap 1=1:=lO;rw[B] at l k;have E:=run_copy_none (P:=prog) w.drew 103 103 3 3 (some ⟨g,0,none⟩) (some ⟨g,0,none⟩) 0 0 0 0 underlying103 Zpc rfl;have u:=J k;go_in;go_wp2;go_region;go_wp2;go_ret;exact⟨rfl,by have:=u.o.drew;exact this,((Fr.refl (only g) w).setCell (p:=⟨g,0,none⟩) (.inl rfl) _).drew⟩
theorem Zj2 {w : aq} {g : Nat} {r : List Nat} (h : Bk w g 3 (nc r)) (R : r.length = 4096) (p : Nat) (a8 : p < 4096) (b1 : 0 < p) :
    Calls prog 270 #[.slice (some (g,0)) 4096 4096,p] w λx w'=>x=.returned (.slice (some (g,0)) 4096 4096)/\Bk w' g 3 (nc (Xv r p))/\Fr (only g) w w':=by
  have D:=h.cell p;rw[Xj _ _ (by rw[R];omega)] at D;have a6:(p:Int)<4096:=O;have a7:IntKind.i64.wrap ((p:Int)+1)=(p:Int)+1:=lO;have b2:(1:Int)<=p:=O;have Q:(p:Int)+1<=4096:=O;have b0:(0:Int)<=p+1:=O;have a3:max ((p:Int)+1) 0=(p:Int)+1:=O;have b3:(1:Int)<=p+1:=O;have a4:((p:Int)+1).toNat=p+1:=O;have a9:¬p=0:=O;have E:(0:Int)<=p:=O;have a1:(p:Int)<=4096:=O;have u := run_copy_row (P := prog) w.drew 103 103 3 3 g 1 p p ⟨g, 0, none⟩ p p (nc r) 3 ((r.take p).map (λn : Nat => (Value.int .i64 (n : Int)))) underlying103 Zpc h (by simp; omega) (λj v k => by rw[Go.WideShapes.add_plain,jK];have h1:=h.cell j;show w.cell? _=_;rw[h1,<-Array.getElem?_toList,Z8J];rw[B',List.getElem?_take] at k;split at k;exact k;cases k) (by simp[nc];omega) (λv k=>by obtain⟨n,_,rfl⟩:=Vbm.1 k;rfl);obtain⟨C,B⟩:=ay (((nc r).toList.take 1++(r.take p).map (λn:Nat=>(Value.int .i64 (n:Int)))++(nc r).toList.drop (1+((r.take p).map (λn:Nat=>(Value.int .i64 (n:Int)))).length)).toArray);rw[B] at u;have t:C=nc (r.take 1++r.take p++r.drop (1+p)):=by rw[<-B];apply pS.1;rw[Z8J,Z8J,Vah,ek,show min p r.length=p from by exact O];simp[B',List.map_drop]
  have q:Bk (w.drew.setRow g C) g 3 C:=setRow_heap w.drew g _ C _ (0,0) h;have M:Fr (only g) w (w.drew.setRow g C):=Ze4 ((Fr.refl (only g) w).drew) rfl C;generalize w.drew.setRow g C=W at*;obtain⟨y,S⟩:=ay (r.getD p 0);rw[t] at q;have z:=q.put 0 y;have F:=ZeF r p O;rw[S] at F D;rw[Z0k,F] at z;obtain⟨G,a5⟩:∃G:Int,W.cell? ⟨g,0,none⟩=G:=⟨_,by rw[q.cell,Xj _ _ (by rw[Vab,Vab,ek];omega)]⟩;have a2:=q.frozen 0;have l:(goInt ((r.take p).map (λn:Nat=>(Value.int .i64 (n:Int)))))=.int .i64 (p:Int):=by rw[Vah,ek,show min p r.length=p from by exact O];rfl
  rw[l] at u;have I:=J z;have a0:=J M;go_in;go_wp2;go_region;go_wp2;go_ret;exact⟨rfl,I.o,a0.o.setCell (p:=⟨g,0,none⟩) (.inl rfl) _⟩
theorem VC (h:Bk w g 3 (nc r)) (k:r.length=4096) (p:Nat) (l:p<4096):
  cK 270 #[.slice (some (g,0)) 4096 4096,p] w λx w'=>x=.returned (.slice (some (g,0)) 4096 4096)/\Bk w' g 3 (nc (Xv r p))/\Fr (only g) w w':=by rcases rS p with rfl|h0;exact ZeE h k;exact Zj2 h k p l h0
def vw:List Nat->List Nat->List Nat
 |r,[]=>r
 |r,n::t=>vw (Xv r (ix r n)) t
def wE:List Nat->List Nat->List Nat
 |r,[]=>r
 |r,n::t=>wE (Xv r n) t
theorem Z8u (l:List Nat) (n:Nat):∀r,Yn r (l++[n])=Yn r l++[ix (vw r l) n]/\vw r (l++[n])=Xv (vw r l) (ix (vw r l) n):=by
 induction l with
 |nil=>intro r;exact⟨rfl,rfl⟩
 |cons a l ih=>intro r;obtain⟨h1,g⟩:=ih (Xv r (ix r a));exact⟨by rw[jw,Yn,h1];rfl,by rw[jw,vw,g];rfl⟩
theorem Z5S (l:List Nat) (n:Nat):∀r,Yc r (l++[n])=Yc r l++[(wE r l).getD n 0]/\wE r (l++[n])=Xv (wE r l) n:=by
 induction l with
 |nil=>intro r;exact⟨rfl,rfl⟩
 |cons a l ih=>intro r;obtain⟨h1,g⟩:=ih (Xv r a);exact⟨by rw[jw,Yc,h1];rfl,by rw[jw,wE,g];rfl⟩
theorem Znn (l:List Nat):∀r,(∀n∈l,n∈r)->(vw r l).length=r.length/\∀m,m∈r->m∈vw r l:=by
 induction l with
 |nil=>intro r _;exact⟨rfl,λm h=>h⟩
 |cons a l ih=>intro r h;have h1:=zj.2 (h a fi);obtain⟨a1,a2⟩:=ih (Xv r (ix r a)) (λn k=>FZ h1 (h n (gM _ k)));exact⟨a1.trans (XB h1),λm g=>a2 m (FZ h1 g)⟩
theorem Zno (l:List Nat):∀r,(∀n∈l,n<r.length)->(wE r l).length=r.length:=by
 induction l with
 |nil=>intro r _;rfl
 |cons a l ih=>intro r h;have h1:=h a fi;exact(ih (Xv r a) (λn g=>by rw[XB h1];exact h n (gM _ g))).trans (XB h1)
theorem VD (L:List Nat) (n v:Nat) (h:L<n):(L++List.replicate (n-L.length) 0).set L v=(L++[v])++List.replicate (n-(L.length+1)) 0:=IU
theorem ZkY (l:List Nat):(nc l).toList=bO (l.map Int.ofNat):=by simp[nc,bO,iv]
theorem Sb (l:List Nat) (k:Nat) (h:k<l):l.take (k+1)=l.take k++[l.getD k 0]:=by rw[dK h];simp[List.getD,h]
def vC (w:aq) (x:Ending) (w':aq) (r:List Nat×Nat):Prop:=∃v,x=.returned (.tuple #[v,r.2])/\IRes w' v (r.1.map Int.ofNat)/\Below w w w'
theorem Jy {w':aq} (e:Nat) (hb:Below w w w'):vC w (.returned (.tuple #[.slice none 0 0,e])) w' ([],e):=⟨_,rfl,IRes.nil _,hb⟩
theorem Z3Z {l:List Int} (M:At w A (bO l)) (n cap:Nat) (F:n=l) (a3:n<=9223372036854775807) (hb:lm l≠0):
  Calls prog 237 #[(A,n,cap),.func (.func 238) #[] #[]] w λx w'=>vC w x w' ([],lm l):=Ng
theorem Z56 {l:List Nat} (d5:At w A (bO (l.map Int.ofNat))) (n cap:Nat) (d6:n=l) (f2:l.length<=4096) (d7:∀v∈l,v<4096):
  Calls prog 237 #[(A,n,cap),.func (.func 238) #[] #[]] w λx w'=>vC w x w' (Yn r0 l,0):=by obtain⟨Ha,a0,z⟩:=bD d5 d6 d7;have f8:n<=4096:=O;have f6:¬(4096:Int)<n:=O;obtain⟨f3,d9,e4⟩:=bD (m_ w) (λ(v:Nat) (h:v<4096)=>show v∈r0 from List.mem_range.2 h) (show r0.length=4096 from rm);clear d5 d6 d7 f2;go_in;go_wp2;go_loop [7,19] (λ_ i=>∃k:Nat,k<=n/\i=k) (λ_ i=>(n-intOf i).toNat);exact Cw;obtain⟨k,g4,rfl⟩:=hrel;by_cases ab:k<n;exact NA;have e8:k=n:=O;subst e8;go_wp21;refine aP f3.o λw1 ⟨c6,c5⟩=>?_;have e6:=c5.size;have c9:=Y5 (P:=prog) 103 3 _ _ underlying103 Y2 rfl (k:Int) k rfl O O w1;rw[<-Kp] at c9;have d4:=Ha.o.below c5;have g1:=c6.lt;have c8:=c6.alloc (.cells (nc (List.replicate k 0)) 3);have aa:=c5.alloc e6 (.cells (nc (List.replicate k 0)) 3);have d8:=d4.alloc (.cells (nc (List.replicate k 0)) 3);have d2:=Bk.new w1 3 (nc (List.replicate k 0));have Q:=J (show w.heap.size<w1.heap.size/\w.heap.size≠w1.heap.size from⟨O,O⟩);clear c6 c5 d4;go_wp2;go_loopw [8,10,11,12,13,36] (λf5 _ _ _ _ i wr=>∃j:Nat,j<=k/\i=j/\f5=.slice (some (w,0)) 4096 4096/\Bk wr w 3 (nc (vw r0 (l.take j)))/\Bk wr w1.heap.size 3 (nc (Yn r0 (l.take j)++List.replicate (k-j) 0))/\At wr A (bO (l.map Int.ofNat))/\Below w w wr) (λ_ _ _ _ _ i _=>(k-intOf i).toNat);exact⟨0,O,rfl,rfl,c8,d2,d8,aa⟩;clear c8 d2 d8 aa c9;obtain⟨j,g2,rfl,rfl,B,g,a2,I⟩:=hrel;have a9:∀m∈l.take j,m<4096:=λm c7=>z.o m (Ag c7);by_cases e9:j<k;have y:j<l:=(by rw[<-a0.o];exact e9);obtain⟨v,q⟩:=ay (l.getD j 0);have a6:v<4096:=PW;obtain⟨f9,g3,S,D,b2⟩:=a2.get j (v:Int) Fo;subst S;obtain⟨F,a5⟩:=Z8u (l.take j) v r0;rw[<-q,<-Sb l j y,q] at F a5;have M:=YY (l.take j) r0;rw[ek,Nat.min_eq_left O] at M;obtain⟨e5,e3⟩:=Znn (l.take j) r0 (λm c7=>d9.o m (a9 m c7));have a1:=e5.trans e4.o;have b0:=e3 v (d9.o v a6);obtain⟨R,t⟩:=ay (vw r0 (l.take j));obtain⟨c3,u⟩:=ay (Yn r0 (l.take j));rw[t] at F a5 B a1 b0;rw[u] at F g M;have E:=J (Zbl B a1 v b0);have d3:ix R v<4096:=(by rw[<-a1];exact zj.2 b0);obtain⟨c4,e1⟩:=ay (ix R v);rw[e1] at F a5 E d3;clear e1;obtain⟨b7,b9,g5⟩:=bD F a5 B;have a8:=VD c3 k c4 O;rw[M] at a8;have e7:=J a8;have a7:=g.put j (.int .i64 ((c4:Nat):Int));rw[Z0k,e7.o] at a7;have b5:(c3++List.replicate (k-j) 0).length=k:=CA;obtain⟨e2,g0⟩:∃e2:Int,wr.cell? (w1.heap.size,j)=e2:=⟨_,by rw[g.cell,Xj _ _ O]⟩;have f7:=g.frozen j;have b1:=B.off (p:=⟨w1.heap.size,j,none⟩) (Q.o.2) (.int .i64 ((c4:Nat):Int));have b6:=I.setCell (p:=⟨w1.heap.size,j,none⟩) (II Q.o.1) (.int .i64 ((c4:Nat):Int));obtain⟨b3,a4,a3⟩:=bD (VC b1 a1 c4 (by exact d3)) a7 b6;exact NY;have f4:j=k:=O;subst f4;have G:l.take j=l:=d' (by rw[<-a0.o];exact aU);rw[G,fh,List.replicate_zero,fg] at g;have b4:=J g.at_;have M:=J (YY l r0);exact NM
