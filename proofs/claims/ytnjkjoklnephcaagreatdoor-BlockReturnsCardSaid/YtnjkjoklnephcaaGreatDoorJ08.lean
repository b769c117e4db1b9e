import Derived.Test.YtnjkjoklnephcaaGreatDoorJ07
import Derived.Test.YtnjkjoklnephcaaGreatDoorLShelf
import Derived.Laws.CopyOwn
set_option linter.all false
set_option maxRecDepth 100000
set_option maxHeartbeats 0
open Go.Proofs.Tryz (prog underlying123)
section
variable{P Q:Prop}
theorem rY(h:P:=by rw[lN];omega):P:=h
theorem Cx(h:P:=by rw[Z0];exact a0):P:=h
theorem CD(h:P:=by have:j=b:=e;omega):P:=h
theorem Cu(h:P:=by rw[bT,iK];omega):P:=h
theorem E7(h:P:=by have:=Zl h G 4096;rw[l] at this;exact this):P:=h
theorem PN(h:P:=by rcases kY.1 hu with h|h;exact ao.o u h;rw[js] at h;omega):P:=h
theorem PH(h:P:=by
 cases j with
 |zero=>simp at hu;subst hu;exact M
 |succ j=>grind):P:=h
theorem IZ(h:P:=by exact⟨0,by omega,rfl,Bk.new _ _ _,(bi _ _).alloc aW _,by simp⟩):P:=h
theorem Pz(h:P:=by
 go_wp2;go_round;case rel=>exact⟨k+1,by omega,by go_num,z⟩
 simp[intOf]<;>omega):P:=h
theorem Pw(h:P:=by have h1:l.getD k 0=l[k]:=(by simp[List.getD,a8]);rw[<-q,h1];exact B.o _ (dr _)):P:=h
theorem Px(h:P:=by have h1:l.getD j 0=l[j]:=(by simp[List.getD,a8]);rw[<-q,h1];exact B.o _ (dr _)):P:=h
theorem IV(h:P:=by rw[nz _ _ aW,fv,show n-L.length=(n-(L.length+1))+1 from by omega,pS,List.set_cons_zero];simp):P:=h
theorem Pq(h:P:=by exact((hb.off (p:=⟨w+1,0,none⟩) (by simp) _).off (p:=⟨w+1,1,none⟩) (by simp) _).drew):P:=h
theorem Ph(h:P:=by exact((E.setCell (p:=⟨w+1,0,none⟩) (by simp) _).setCell (p:=⟨w+1,1,none⟩) (by simp) _).drew):P:=h
theorem O9(h:P:=by rw[XS _ _ (by rw[dc];exact a8)];have h1:(l.map Int.ofNat).getD k 0=((l.getD k 0:Nat):Int):=(by simp[List.getD,a8]);rw[h1,q]):P:=h
theorem O'{P:Prop}(h:P:=by rw[XS _ _ (by rw[dc];exact a8)];have h1:(l.map Int.ofNat).getD j 0=((l.getD j 0:Nat):Int):=(by simp[List.getD,a8]);rw[h1,q]):P:=h
theorem Ow(h:P:=by rcases l with l|l;exact h.apart g (l▸R);intro p;have k:some g=some w.heap.size:=R.symm.trans l;injection k with k;have:=(h.own2.lt g p).2;omega):P:=h
theorem NW(h:P:=by clear F g I u a7;go_wp2;go_returns;have t:=b3.o;rw[Zl4] at t;exact⟨.slice (some ⟨w1,0,none⟩) j j,rfl,⟨some ⟨w1,0,none⟩,j,by rw[dc,G.o,<-Q.o],t⟩,E⟩):P:=h
theorem NR(h:P:=by
 have q:=J u;have k:=J G;clear u g G l;go_wp2;go_roundw;case rel=>exact⟨j+1,by omega,by go_num,q.o,E.setCell (p:=⟨w,j,none⟩) aW _,by simpa using k.o⟩
 simp[intOf]<;>omega):P:=h
theorem NJ(h:P:=by subst a9;refine wpList_plain g λK k=> ?_;unfold Oper.wp execOp;simp only[p,resolve,invoke,builtin,Sem.run_bind,Sem.run_pure,Result.andThen_ok,List.map_toArray,tV,List.map_nil,a0,D,B];exact k _ _ h):P:=h
theorem ND(h:P:=by
 induction j with
 |zero=>intro m t e;exact aW
 |succ j ih=>intro m t e;rw[fY];have h1:=ih (2*m+n/2 ^ j % 2) (t.set m (Yc (t.getD m 0) (n/2 ^ j % 2))) (nP (t.getD m 0) (n/2 ^ j % 2) e);have h2:=F7 (t.getD m 0) (n/2 ^ j % 2) e;omega):P:=h
theorem N7(h:P:=by
 clear D a3 a6 a4 b5 F g t z q G a7 b1 b4 I E a1 a9;go_wp21;refine cq b7.o ?_;go_wp21;refine aO b2.o λb0 ⟨d1,a5⟩=>?_;have l:=a0.o.fr a5 (λe=>M.o.2 e.symm);have u:Below w w b0:=a2.o.trans (a5.toBelow' a2.o.size (λi hi e=>by have:i=w.heap.size:=e;omega));have k:=Ha.o.below u;go_wp2;go_roundw;case rel=>exact⟨j+1,by omega,by go_num,rfl,by rw[b8.o];exact d1,by rw[b6.o];exact l,k,u⟩
 simp[intOf]<;>omega):P:=h
theorem NZ(h:P:=by
 have a8:k<l:=(by rw[<-Q.o];exact ab);obtain⟨v,q⟩:=ay (l.getD k 0);have a5:v<4096:=by have h1:l.getD k 0=l[k]:=(by simp[List.getD,a8]);rw[<-q,h1];exact B.o _ (dr _)
 obtain⟨g0,g4,S,y,b0⟩:=Ha.o.get k v (by rw[XS _ _ (by rw[dc];exact a8)];have h1:(l.map Int.ofNat).getD k 0=((l.getD k 0:Nat):Int):=(by simp[List.getD,a8]);rw[h1,q]);subst S;have I:¬(v:Int)<0:=(by omega);have a0:¬(4096:Int)<=v:=(by omega);clear q a5;go_wp2;go_round;case rel=>exact⟨k+1,by omega,by go_num⟩
 simp[intOf]<;>omega):P:=h
theorem Np(h:P:=by
 have Ha:=J M;have Q:=J F;have D:Below w w w:=bi _ _;by_cases t:4096<n;.have g:Hid (lm l=9):=J (by unfold lm;rw[aP (by omega)]);have G:(4096:Int)<n:=(by omega);clear M F hb t;go_in;go_wp2;go_returns;rw[g.o];exact JC 9 D
 have g:Hid (lm l=2):=J (by unfold lm at hb⊢;rw[az (by omega)] at hb⊢;by_cases h:∀n∈l,0<=n/\n<4096;rw[aP h] at hb;exact absurd rfl hb;rw[az h]);have p:Hid (¬∀n∈l,0<=n/\n<4096):=J (by intro h;apply hb;exact Gy (by omega) h);have G:¬(4096:Int)<n:=(by omega);clear M F hb t;go_in;go_wp2;go_loop [7,19] (λ_ i=>∃k:Nat,k<=n/\i=k/\Hid (∀v∈l.take k,0<=v/\v<4096)) (λ_ i=>(n-intOf i).toNat);case atStart=>exact⟨0,by omega,rfl,J (by simp)⟩
 obtain⟨k,hk,rfl,ao⟩:=hrel;by_cases ab:k<n
 .have a8:k<l:=(by rw[<-Q.o];exact ab);obtain⟨v,q⟩:=ay (l.getD k 0);have b4:l[k]=v:=(by rw[<-q];simp[List.getD,a8]);obtain⟨g0,g4,S,y,b0⟩:=Ha.o.get k (.int .i64 v) (by rw[XS _ _ a8,q]);subst S;by_cases B:0<=v/\v<4096
  .obtain⟨E,R⟩:=B;have I:¬v<0:=(by omega);have a0:¬4096<=v:=(by omega);have z:Hid (∀u∈l.take (k+1),0<=u/\u<4096):=J (by intro u hu;rw[dD a8,b4] at hu;rcases kY.1 hu with h|h;exact ao.o u h;rw[js] at h;omega);clear q b4;go_wp2;go_round;case rel=>exact⟨k+1,by omega,by go_num,z⟩
   simp[intOf]<;>omega
  clear q b4;by_cases E:v<0;.clear B;go_wp2;go_returns;rw[g.o];exact JC 2 D
  have R:4096<=v:=(by omega);clear B;go_wp2;go_returns;rw[g.o];exact JC 2 D
 exfalso;apply p.o;have:=ao.o;rwa [dU (by rw[<-Q.o];omega)] at this):P:=h
end
namespace Wv
variable{a b v:ax}{w:Int}
def cd (c:ci):Nat:=if c=48 then 0 else if c=49 then 1 else if c=120 then 2 else if c=122 then 3 else 4
def ch (n:Nat):ci:=if n=0 then 48 else if n=1 then 49 else if n=2 then 120 else 122
theorem GE (c:ci):(c=48/\cd c=0)\/(c=49/\cd c=1)\/(c=120/\cd c=2)\/(c=122/\cd c=3)\/(c≠48/\c≠49/\c≠120/\c≠122/\cd c=4):=by unfold cd;by_cases h1:c=48;exact aI;grind
theorem ZqH (c:ci):cd c<=4:=by rcases GE c with ⟨_,h⟩|⟨_,h⟩|⟨_,h⟩|⟨_,h⟩|⟨_,_,_,_,h⟩<;>omega
theorem HP (n:Nat) (h:n<4):cd (ch n)=n:=by rcases(show n=0\/n=1\/n=2\/n=3 by omega) with rfl|rfl|rfl|rfl<;>decide
theorem MG (c:ci) (h:cd c<4):ch (cd c)=c:=by rcases GE c with ⟨rfl,_⟩|⟨rfl,_⟩|⟨rfl,_⟩|⟨rfl,_⟩|⟨_,_,_,_,g⟩;rfl;rfl;rfl;rfl;omega
def nV (c:ci):Bool:=decide (cd c<4)
def fH (v:ax):Bool:=v.all nV&& !v.isEmpty&&decide (v.length<=128)
def jR (v:ax):Bool:=fH v&&v.all (λc=>decide (cd c<2))
def gW (w:Int) (v:ax):Bool:=fH v&&decide ((v.length:Int)=w)
theorem Zo :fH v=true↔(∀c∈v,cd c<4)/\v≠[]/\v.length<=128:=by unfold fH nV;grind
theorem Yz :jR v=true↔(∀c∈v,cd c<2)/\v≠[]/\v.length<=128:=by unfold jR;rw[gm,Zo,tS];grind
theorem Hq (h:jR v=true):fH v=true:=by unfold jR at h;grind
theorem ZK :gW w v=true↔fH v=true/\(v.length:Int)=w:=by unfold gW;grind
def mE (w:Int) (c:ci):ax:=if w<1\/128<w\/nV c=false then[] else List.replicate w.toNat c
def fr (c:ci):ci:=if c=49 then 48 else c
theorem ZqL (c:ci):fr (fr c)=fr c:=by unfold fr;grind
theorem ZqK {c:ci} (h:cd c<4):cd (fr c)<4:=by unfold fr;split;exact aZ;omega
def ext (w:Int) (s:ax):ax×Nat:=
 if w<1\/128<w then([],1) else match s with
  |[]=>([],3)
  |c::t=>if(c::t).all nV=false then([],3) else if w<((c::t).length:Int) then([],8) else(List.replicate (w.toNat-(c::t).length) (fr c)++(c::t),0)
def rN:ax->ax
 |a::b::r=>if a=fr b then rN (b::r) else a::b::r
 |l=>l
def fJ (v:ax):ax:=if fH v=true then rN v else[]
theorem KA (a b:ci) (r:ax):rN (a::b::r)=if a=fr b then rN (b::r) else a::b::r:=rfl
theorem K1:∀(v:ax),v≠[]->∃k c t,rN v=c::t/\v=List.replicate k (fr c)++(c::t)
 |[],h=>absurd rfl h
 |[a],_=>⟨0,a,[],rfl,rfl⟩
 |a::b::r,_=>by
  obtain⟨k,c,t,h1,g⟩:=K1 (b::r) (by simp);rw[KA];by_cases h:a=fr b
  .rw[aP h];refine⟨k+1,c,t,h1,?_⟩
   have hb:fr b=fr c:=by
    cases k with
    |zero=>exact aI
    |succ k=>injection g with l _;rw[l,ZqL]
   grind
  rw[az h];exact⟨0,a,b::r,rfl,rfl⟩
theorem LO (h:fH v=true):ext (v.length:Int) (fJ v)=(v,0):=by
 obtain⟨h1,g,q⟩:=Zo.1 h;obtain⟨k,c,t,l,p⟩:=K1 v g;unfold fJ ext;have u:(c::t).all nV=true:=by unfold nV;grind
 grind
theorem Zgi (v:ax):(fJ v)<=v.length/\(fH v=true->fJ v≠[]):=by unfold fJ;by_cases h:fH v=true;obtain⟨k,c,t,g,l⟩:=K1 v (Zo.1 h).2.1;grind;grind
theorem Ya (v:ax):(fJ v).length<=128:=by by_cases h:fH v=true;have:=(Zgi v).1;have:=(Zo.1 h).2.2;omega;unfold fJ;grind
theorem q_ {s:ax} (h:ext w s=(v,0)):gW w v=true:=by
 unfold ext at h;split at h;exact aI;rename_i hw;rcases s with _|⟨c,t⟩;exact aI;simp only at h;split at h;exact aI;rename_i ha;split at h;exact aI;rename_i hl;injection h with h _;subst h;have mn:∀x∈c::t,cd x<4:=by have:(c::t).all nV=true:=aI;rw[tS] at this;intro x hx;have:=this x hx;unfold nV at this;grind
 have hlen:(List.replicate (w.toNat-(c::t).length) (fr c)++(c::t)).length=w.toNat:=aI;refine ZK.2 ⟨Zo.2 ⟨λx hx=> ?_,by simp,O⟩,O⟩;rcases kY.1 hx with hx|hx;rw[List.eq_of_mem_replicate hx];exact ZqK (mn c fm);grind
def mx (a b:ci):ci:=ch (cd a ^^^ cd b)
def jp (a b:ax):ax×Nat:=if fH a=false\/fH b=false then([],1) else if a.length≠b then([],8) else(List.zipWith mx a b,0)
theorem ME:∀x,x<4->∀y,y<4->x ^^^ y<4/\(x ^^^ y) ^^^ y=x/\x ^^^ y=y ^^^ x/\(x+y) % 2+2*((x/2+y/2) % 2)=x ^^^ y:=aZ
theorem ZqT {a b:ci} (g:cd a<4) (hb:cd b<4):cd (mx a b)<4:=by unfold mx;have:=(ME _ g _ hb).1;rw[HP _ this];exact this
theorem ZqU {a b:ci} (g:cd a<4) (hb:cd b<4):mx (mx a b) b=a:=by have h1:=ME _ g _ hb;show ch (cd (ch (cd a ^^^ cd b)) ^^^ cd b)=a;rw[HP _ h1.1,h1.2.1,MG a g]
theorem Zoi (k:fH a=true) (hb:fH b=true) (p:a=b.length):fH (List.zipWith mx a b)=true/\(List.zipWith mx a b)=a.length:=by obtain⟨a1,a2,a3⟩:=Zo.1 k;obtain⟨b1,_⟩:=Zo.1 hb;have g:(List.zipWith mx a b)=a.length:=aI;refine⟨Zo.2 ⟨λc l=> ?_,λh=> ?_,O⟩,g⟩;obtain⟨i,hi,rfl⟩:=List.getElem_of_mem l;rw[List.getElem_zipWith];exact ZqT (a1 _ (dr _)) (b1 _ (dr _));grind
theorem Zja (g:fH a=true) (hb:fH b=true) (k:a=b.length):∃m,jp a b=(m,0)/\fH m=true/\m.length=a.length/\jp m b=(a,0):=by obtain⟨l,p⟩:=Zoi g hb k;obtain⟨a1,_⟩:=Zo.1 g;obtain⟨b1,_⟩:=Zo.1 hb;refine⟨List.zipWith mx a b,?_,l,p,?_⟩;unfold jp;grind;unfold jp;rw[az aI,az O];congr 1;apply xa;exact aI;intro i k1 k2;rw[List.getElem_zipWith,List.getElem_zipWith];exact ZqU (a1 _ (dr _)) (b1 _ (dr _))
def sm:ax->ax->Nat->ax×Nat
 |x::a,y::b,c=>(UInt8.ofNat (48+(cd x+cd y+(sm a b c).2) % 2)::(sm a b c).1,(cd x+cd y+(sm a b c).2)/2)
 |_,_,c=>([],c)
def qX (v:ax):ax:=v.map (λc=>ch (if cd c<2 then 1-cd c else cd c))
def qf (a b:ax):ax×Bool:=if jR a=true/\jR b=true/\a=b.length then((sm a b 0).1,true) else([],false)
def vz (a b:ax):ax×Bool:=if jR a=true/\jR b=true/\a=b.length then((sm b (qX a) 1).1,true) else([],false)
theorem HK:∀(a b:ax) (c:Nat),a=b.length->(sm a b c).1.length=a
 |[],[],_,_=>rfl
 |x::a,y::b,c,h=>by show((sm a b c).1.length+1)=_;rw[HK a b c aI];rfl
theorem MA:∀(a b:ax) (c:Nat),∀d∈(sm a b c).1,cd d<2
 |[],_,_=>λd hd=>by simp[sm] at hd
 |_::_,[],_=>λd hd=>by simp[sm] at hd
 |x::a,y::b,c=>λd hd=>by rcases jx.1 hd with rfl|hd;rcases Nat.mod_two_eq_zero_or_one (cd x+cd y+(sm a b c).2) with h|h<;>rw[h]<;>decide;exact MA a b c d hd
theorem SJ (h:qf a b=(v,true)):jR v=true/\v=a.length/\jR a=true/\jR b=true/\a=b.length:=by
 unfold qf at h;split at h;.rename_i hc;injection h with h _;subst h;obtain⟨a1,a2,a3⟩:=Yz.1 hc.1;have hl:=HK a b 0 hc.2.2;refine⟨Yz.2 ⟨MA a b 0,λe=> ?_,O⟩,hl,hc⟩;grind
 grind
theorem Tv (h:vz a b=(v,true)):jR v=true/\v=a.length:=by
 unfold vz at h;split at h;.rename_i hc;injection h with h _;subst h;obtain⟨a1,a2,a3⟩:=Yz.1 hc.1;have hl:=HK b (qX a) 1 (by unfold qX;grind);refine⟨Yz.2 ⟨MA b (qX a) 1,λe=> ?_,O⟩,O⟩;grind
 grind
end Wv
namespace Go.Proofs.Y
open Wv Go.RowKit
theorem Y1:(prog.info? 3).map (λi=>(i.zero,i.size,i.bytes))=some (some (.int .i64 0),1,8):=qH
def vC (j:Nat):List Nat:=List.replicate j 1024++List.replicate (64-j) 0
theorem ZiW (j:Nat) (h:j<64):(vC j).set j 1024=vC (j+1):=by unfold vC;rw[nz _ _ (by simp),iK,fv,show 64-j=(64-(j+1))+1 from by exact O,pS,List.set_cons_zero,List.replicate_succ',ey];rfl
theorem Z8C (j:Nat) (h:j<=64):(vC j).length=64:=by simp[vC];omega
theorem ZiV:vC 64=t0:=aZ
theorem Zeo:nc (vC 0)=Array.replicate 64 (.int .i64 0):=by apply pV.1;simp[nc,vC]
theorem Zfo (w:au):
  Calls prog 207 #[(1:Int),(6:Int)] w λx w'=>x=.returned (.slice (some (w.heap.size+1,0)) 1 1)/\Bk w' w 3 (nc t0)/\Bk w' (w.heap.size+1) 244 #[(6:Int),.slice (some (w,0)) 64 64]/\Below w w w':=by
 have l:=Y4 (P:=prog) 123 3 _ _ underlying123 Y1 rfl 64 64 rfl O O w;rw[<-Zeo] at l;have nf:∀w:au,(Instr.makeSlice 288 (1:Int) (1:Int)).run prog w=.ok (.slice (some (w,0)) 1 1) (w.alloc (.cells #[(0:Int),.slice none 0 0] 244)):=λ_=>qH;go_in;go_wp2;go_loopw [6,17] (λ_ i wr=>∃j:Nat,j<=64/\i=j/\Bk wr w 3 (nc (vC j))/\Below w w wr/\wr=w.heap.size+1) (λ_ i _=>(64-intOf i).toNat);exact IZ;obtain⟨j,B,rfl,g,E,G⟩:=hrel;by_cases ab:j<64;have R:=g.cell j;rw[Xm _ _ (by rw[Z8C j B];exact ab)] at R;have a3:=g.frozen j;have u:=g.put j (.int .i64 ((1024:Nat):Int));rw[vg,ZiW j ab] at u;exact NR;have a0:j=64:=O;subst a0;have k:=J G;have I:=J g;clear G g l;go_wp2;rw[k.o];have an:=E.alloc E.size (.cells #[(0:Int),.slice none 0 0] 244);have aa:=I.o.alloc (.cells #[(0:Int),.slice none 0 0] 244);have z:Bk (wr.alloc (.cells #[(0:Int),.slice none 0 0] 244)) (w.heap.size+1) 244 #[(0:Int),.slice none 0 0]:=k.o▸Bk.new wr _ _;go_loopw [8,9,10,28] (λ_ _ _ i y=>∃j:Nat,j<=1/\i=j/\(j=0->Bk y (w.heap.size+1) 244 #[(0:Int),.slice none 0 0])/\(j=1->Bk y (w.heap.size+1) 244 #[(6:Int),.slice (some (w,0)) 64 64])/\Bk y w 3 (nc (vC 64))/\Below w w y) (λ_ _ _ i _=>(1-intOf i).toNat);exact⟨0,O,rfl,λ_=>z,λh=>O,aa,an⟩;clear an aa z E;obtain⟨j,B,rfl,h0,h1,hb,E⟩:=hrel;by_cases ab:j<1
 .have S:j=0:=O;subst S;have t:=h0 rfl;have a1:=t.cell 0;have q1:=t.cell 1;have a4:=t.frozen 0;have a5:=t.frozen 1;simp at a1 q1;have F:=J t;clear h0 h1 t ab;go_wp2;go_region;go_wp2;go_roundw;.refine⟨1,O,rfl,λh=>O,λ_=> ?_,?_,?_⟩;have Q:=(F.o.put 0 (6:Int)).put 1 (.slice (some ⟨w,0,none⟩) 64 64);have M:=Q.drew;simpa using M;exact Pq;exact Ph
  simp[intOf]
 have a2:j=1:=O;subst a2;have D:=J (h1 rfl);clear h0 h1;go_wp2;go_ret;exact⟨rfl,by rw[<-ZiV];exact hb,D.o,E⟩
theorem Lc (w:au):
  Calls prog 161 #[] w λx w'=>∃b,x=.returned (.pointer (some ⟨b,0,none⟩))/\w.heap.size<=b/\fz w' b w t0/\Below w w w':=by have l:=J (Zfo w);go_in;go_wp21;refine aO l.o λw1 ⟨h0,h1,hb⟩=>?_;have p:=h1.cell 0;have q1:=h1.cell 1;simp at p q1;have g:=hb.size;have k:=J h0;clear h0 h1;go_wp2;go_ret;exact⟨w1,rfl,g,⟨Bk.new _ _ _,k.o.alloc _⟩,hb.alloc g _⟩
variable{b e:Nat}{s:aS}{w:au}
def ZC (s:aS) (e:Nat) (most:Int):aS×aS×Nat:=
 if(Zb (bK s e most).2.1 (bK s e most).2.2 ((bK s e most).1:Nat)).2.2=0 then Zb (bK s e most).2.1 (bK s e most).2.2 ((bK s e most).1:Nat)
 else(bs [],s,(Zb (bK s e most).2.1 (bK s e most).2.2 ((bK s e most).1:Nat)).2.2)
theorem Zw {most:Int} :(bK s e most).2.1.size<=s.size:=by unfold bK;split;split;exact aW;split;exact aW;rw[Z0,jt,Z2];omega;exact aW
theorem ZX (h:RV w b s e) (F:s.size<=1099511627776) (most:Int):
  Calls prog 101 #[(b,0),most] w λx w'=>x=.returned (.string (ZC s e most).1)/\RV w' b (ZC s e most).2.1 (ZC s e most).2.2/\Fr (only b) w w':=by
 have h0:=h.c0;have ab:=Bk.lt h;have y:=J (Zl h F most);have D:=Zw (s:=s) (e:=e) (most:=most)
 have k:ZC s e most=if(Zb (bK s e most).2.1 (bK s e most).2.2 ((bK s e most).1:Nat)).2.2=0 then Zb (bK s e most).2.1 (bK s e most).2.2 ((bK s e most).1:Nat)
  else(bs [],s,(Zb (bK s e most).2.1 (bK s e most).2.2 ((bK s e most).1:Nat)).2.2):=rfl;generalize bK s e most=q at*;obtain⟨n,s1,M⟩:=q;generalize ZC s e most=r at*;obtain⟨⟨t,a3,l⟩,aV⟩:=ay (Zb s1 M (n:Int));simp only at k y D;rw[aV] at k;simp only at k;have R:=J aV;have z:=J k;clear aV k;go_in;go_wp21;refine aO y.o λw1 ⟨I,G⟩=>?_;have B:=J (Zr I (cp D F) (n:Int));rw[R.o] at B;go_wp21;refine aO B.o λa4 ⟨g,an⟩=>?_;have a1:=g.c1;have a0:=g.c0;have a2:=g.f0;have E:=G.trans an;by_cases u:l=0;.subst u;go_wp2;go_ret;rw[z.o];exact⟨rfl,g,E⟩
 have S:((l:Int) !=0)=true:=fb;have Q:Hid (r=(bs [],s,l)):=J (by rw[z.o,az u]);clear u;go_wp2;go_ret;rw[Q.o];exact⟨rfl,by simpa [RV] using Bk.put g 0 (.string s),E.setCell (p:=⟨b,0,none⟩) (.inl rfl) _⟩
def iP (s:aS) (e:Nat):Nat:=if e=0/\s.size≠0 then 12 else e
theorem C' (h:RV w b s e):
  Calls prog 83 #[(b,0)] w λx w'=>x=.returned ((iP s e:Nat):Int)/\Fr (only b) w w':=by
 have h0:=h.c0;have h1:=h.c1;by_cases p:e=0
 .subst p;by_cases l:s.size=0;.have g:iP s 0=0:=(by unfold iP;rw[az O]);have u:=H7 l;have k:=J g;clear l g;go_in;go_wp2;go_ret;exact⟨ZY (by rw[k.o];rfl),Fr.refl _ _⟩
  have g:iP s 0=12:=(by unfold iP;rw[aP ⟨rfl,l⟩]);have u:=H6 (s:=s) O;have k:=J g;have q:=J (QU h 12);clear l g;go_in;go_wp21;refine aO q.o λB ⟨t,an⟩=>?_;have z:=t.c1;go_wp2;go_ret;exact⟨ZY (by rw[k.o];rfl),an⟩
 have g:iP s e=e:=(by unfold iP;rw[az O]);have y:((e:Int)==0)=false:=rY;have k:=J g;clear g p;go_in;go_wp2;go_ret;exact⟨ZY (by rw[k.o]),Fr.refl _ _⟩
end Go.Proofs.Y
namespace Wv
set_option linter.unusedSectionVars false
def nx (l:List Nat):Nat:=l.foldl (λa x=>if x=a then a+1 else a) 0
structure RunsOk (I C:List Nat) (len dl:Nat):Prop where
 size:I.length=C.length
 sum:C.sum=len
 next:nx I=dl
 pos:∀c∈C,1<=c
 each:∀k (h:k<I.length),I[k]<=nx (I.take k)
 apart:∀k (h:k+1<I.length),I[k]≠I[k+1]
section
variable {α:Type} [DecidableEq α]
end
end Wv
namespace Wv
open Go Go.RowKit
variable{B n:Nat}{v v' v1 v2:aJ}{w w' w0 wb:au}{xs ys:List aJ}
structure pf (wb:World) (B:Nat) (e:TypeId) (v1:Value) (xs:List Value) (v2:Value) (ys:List Value) (w:World):Prop where
 own1:w.ownsRow B e 1 v1 xs.length xs
 own2:w.ownsRow B e 1 v2 ys.length ys
 apart:∀g,v1.ownBlock=some g->v2.ownBlock≠some g
 bel:Below B wb w
 base:B<=w.heap.size
theorem pf.alloc {e:TypeId} (h:pf wb B e v1 xs v2 ys w) (o:Obj):pf wb B e v1 xs v2 ys (w.alloc o):=
 ⟨h.own1.alloc o,h.own2.alloc o,h.apart,h.bel.alloc h.base o,cp h.base (by simp)⟩
theorem pf.drew {e:TypeId} (h:pf wb B e v1 xs v2 ys w):pf wb B e v1 xs v2 ys w.drew:=⟨h.own1,h.own2,h.apart,h.bel.drew,h.base⟩
theorem pf.swap {e:TypeId} (h:pf wb B e v1 xs v2 ys w):pf wb B e v2 ys v1 xs w:=⟨h.own2,h.own1,λg h1 k=>h.apart g k h1,h.bel,h.base⟩
theorem Bc {P : Program} (t e : TypeId) (z : aJ) (bytes : Nat) (a3 : P.underlying t = some (.slice e)) (G : (P.info? e).map (λi => (i.zero, i.size, i.bytes)) = some (some z, 1, bytes)) (I : z.cells.size = 1) {wb w : au} {B : Nat} {v1 v2 : aJ} {xs ys : List aJ} (h : pf wb B e v1 xs v2 ys w) (a : Nat) (x : aJ) (M : w.cell? (a,0) = some x) (h1 : x.oneCell' = true) (S : xs.length + 1 <= maxLen) (Q : (xs.length + 1) * bytes <= 140737488355328) :
    ∃v' w',(Builtin.append_ #[t,t] t #[v1,.slice (some (a,0)) 1 1]).run P w=.ok v' w'/\pf wb B e v' (xs++[x]) v2 ys w'/\(∀b,some b≠v1.ownBlock->b<w.heap.size->w'.cell? ⟨b,0,none⟩=w.cell? ⟨b,0,none⟩)/\(∀F T q,Bk w F T q->T≠e->Bk w' F T q):=by obtain⟨i,hi,a4,a2,hb⟩:=info_parts G;obtain ⟨v', w', a1, a5, D, _, l⟩ := run_append_own_at (P := P) w B t t e i z 1 bytes a3 hi a4 a2 hb I O v1 xs.length xs h.own1 ⟨a, 0, none⟩ 1 1 [x] rfl (λj u hu => PH) aI S Q h.base;have y:Fr (λk=>v1.ownBlock=some k) w w':=(Fr.refl _ w).grown D (λk E=>.inl E);refine⟨v',w',a1,⟨aI,Z6 h.own2 y (λg R e=>h.apart g e R),λg R=> ?_,h.bel.grown D h.base (λk E=>(h.own1.lt k E).1),cp h.base y.size⟩,λb hb ab=>y.cell (p:=⟨b,0,none⟩) ab (λe=>hb e.symm),λF T q hb a0=>hb.grown D (λe=>Z1 h.own1 hb (λe=>a0 e.symm) e.symm)⟩;exact Ow
theorem Wc {P:Program} (t e:TypeId) (z:aJ) (bytes:Nat) (F:P.underlying t=some (.slice e)) (u:(P.info? e).map (λi=>(i.zero,i.size,i.bytes))=some (some z,1,bytes)) (D:z.cells.size=1) (h:pf wb B e v1 xs v2 ys w) (x y:aJ) (a0:x.oneCell'=true) (a3:y.oneCell'=true) (S:xs+1<=maxLen) (a4:(xs.length+1)*bytes<=140737488355328)
  (a6:ys+1<=maxLen) (a5:(ys.length+1)*bytes<=140737488355328) (p:Nat) (T:TypeId) (l:Array aJ) (E:Bk w p T l) (q:T≠e):
  (∃a1 w1 a2 k,(Builtin.append_ #[t,t] t #[v1,.slice (some (w,0)) 1 1]).run P (w.alloc (.cells #[x] e)).drew=.ok a1 w1/\(Builtin.append_ #[t,t] t #[v2,.slice (some ⟨w1.heap.size,0,none⟩) 1 1]).run P (w1.alloc (.cells #[y] e))=.ok a2 k/\pf wb B e a1 (xs++[x]) a2 (ys++[y]) k/\Bk w1 p T l/\Bk k p T l)/\
  (∃a1 w1 a2 k,(Builtin.append_ #[t,t] t #[v1,.slice (some (w,0)) 1 1]).run P ((w.alloc (.cells #[x] e)).alloc (.cells #[y] e)).drew=.ok a1 w1/\(Builtin.append_ #[t,t] t #[v2,.slice (some (w.heap.size+1,0)) 1 1]).run P w1=.ok a2 k/\pf wb B e a1 (xs++[x]) a2 (ys++[y]) k/\Bk w1 p T l/\Bk k p T l)/\
  (∃a1 w1 a2 k,(Builtin.append_ #[t,t] t #[v1,.slice (some (w.heap.size+1,0)) 1 1]).run P ((w.alloc (.cells #[y] e)).alloc (.cells #[x] e)).drew=.ok a1 w1/\(Builtin.append_ #[t,t] t #[v2,.slice (some (w,0)) 1 1]).run P w1=.ok a2 k/\pf wb B e a1 (xs++[x]) a2 (ys++[y]) k/\Bk w1 p T l/\Bk k p T l):=by
 have b3:∀g,v1.ownBlock=some g->g<w.heap.size:=λg b0=>(h.own1.lt g b0).2;have a8:(w.alloc (.cells #[x] e)).cell? (w,0)=some x:=(Bk.new w e #[x]).cell 0;have b4:(w.alloc (.cells #[y] e)).cell? (w,0)=some y:=(Bk.new w e #[y]).cell 0;have a7:(w.alloc (.cells #[x] e))=w.heap.size+1:=(by simp);have a9:(w.alloc (.cells #[y] e))=w.heap.size+1:=(by simp);refine⟨?_,?_,?_⟩;.obtain⟨a1,w1,I,t1,_,b1⟩:=Bc t e z bytes F u D (h.alloc (.cells #[x] e)).drew w x a8 a0 S a4;obtain⟨a2,k,M,Q,_,G⟩:=Bc t e z bytes F u D (t1.swap.alloc (.cells #[y] e)) w1.heap.size y ((Bk.new w1 e #[y]).cell 0) a3 a6 a5;exact⟨a1,w1,a2,k,I,M,Q.swap,b1 p T l (E.alloc (.cells #[x] e)).drew q,G p T l ((b1 p T l (E.alloc (.cells #[x] e)).drew q).alloc (.cells #[y] e)) q⟩
 .have c1:((w.alloc (.cells #[x] e)).alloc (.cells #[y] e)).drew.cell? (w,0)=some x:=((Bk.new w e #[x]).alloc (.cells #[y] e)).cell 0;have c2:((w.alloc (.cells #[x] e)).alloc (.cells #[y] e)).drew.cell? (w.heap.size+1,0)=some y:=by have:=(Bk.new (w.alloc (.cells #[x] e)) e #[y]).cell 0;rw[a7] at this;exact this
  obtain⟨a1,w1,I,t1,k1,b1⟩:=Bc t e z bytes F u D ((h.alloc (.cells #[x] e)).alloc (.cells #[y] e)).drew w x c1 a0 S a4;have R:=(k1 (w.heap.size+1) (λe=>aI) mM).trans c2;obtain⟨a2,k,M,Q,_,G⟩:=Bc t e z bytes F u D t1.swap (w.heap.size+1) y R a3 a6 a5;exact⟨a1,w1,a2,k,I,M,Q.swap,b1 p T l ((E.alloc (.cells #[x] e)).alloc (.cells #[y] e)).drew q,G p T l (b1 p T l ((E.alloc (.cells #[x] e)).alloc (.cells #[y] e)).drew q) q⟩
 have c1:((w.alloc (.cells #[y] e)).alloc (.cells #[x] e)).drew.cell? (w,0)=some y:=((Bk.new w e #[y]).alloc (.cells #[x] e)).cell 0;have c2:((w.alloc (.cells #[y] e)).alloc (.cells #[x] e)).drew.cell? (w.heap.size+1,0)=some x:=by have:=(Bk.new (w.alloc (.cells #[y] e)) e #[x]).cell 0;rw[a9] at this;exact this
 obtain⟨a1,w1,I,t1,k1,b1⟩:=Bc t e z bytes F u D ((h.alloc (.cells #[y] e)).alloc (.cells #[x] e)).drew (w.heap.size+1) x c2 a0 S a4;have R:=(k1 w (λe=>by have:=b3 _ e.symm;omega) (by show _<((w.alloc (.cells #[y] e)).alloc (.cells #[x] e)).heap.size;simp<;>omega)).trans c1;obtain⟨a2,k,M,Q,_,G⟩:=Bc t e z bytes F u D t1.swap w y R a3 a6 a5;exact⟨a1,w1,a2,k,I,M,Q.swap,b1 p T l ((E.alloc (.cells #[y] e)).alloc (.cells #[x] e)).drew q,G p T l (b1 p T l ((E.alloc (.cells #[y] e)).alloc (.cells #[x] e)).drew q) q⟩
theorem Zg2 {P:Program} (t e:TypeId) (z:aJ) (bytes:Nat) (ht:P.underlying t=some (.slice e)) (D:(P.info? e).map (λi=>(i.zero,i.size,i.bytes))=some (some z,1,bytes)) (G:z.cells.size=1) {base:Nat} (q:w.ownsRow base e 1 v n xs) {A:bS} (a0:At w A ys) (cap m:Nat) (B:m=ys) (p:A=none->ys=[]) (h1:∀y∈ys,y.oneCell'=true)
  (M:n+m<=maxLen) (F:(n+m)*bytes<=140737488355328) (E:base<=w):
  ∃v' w',(Builtin.append_ #[t,t] t #[v,(A,m,cap)]).run P w=.ok v' w'/\w'.ownsRow base e 1 v' (n+m) (xs++ys)/\w.grownBy w' v.ownBlock/\(v'.ownBlock=v.ownBlock\/v'.ownBlock=some w.heap.size):=by obtain⟨i,hi,a2,S,I⟩:=info_parts D;rcases A with _|a;have a1:=p rfl;subst a1;simp at B;subst B;refine⟨v,w,?_,aI,⟨rfl,rfl,rfl,aW,λ_ _ _=>rfl⟩,.inl rfl⟩;exact NC;obtain⟨v',w',a6,a3,a4,_,a5⟩:=run_append_own_at (P:=P) w base t t e i z 1 bytes ht hi a2 S I G O v n xs q a m cap ys O (λj u R=>by obtain⟨ab,rfl⟩:=List.getElem?_eq_some_iff.1 R;obtain⟨b,o,p,hb,Q⟩:=a0 j ab;injection p with p;subst p;rw[Go.WideShapes.add_plain];exact Q) h1 M F E;grind
theorem Zf6 (e:TypeId) (w:au):(w.alloc (.cells #[] e)).ownsRow w e 1 (.slice (some (w,0)) 0 0) 0 []:=
 World.ownsRow_made w #[] 0 aW O rfl
theorem Z5 {P:Program} {l:Array Oper} {rest:List Oper} {o:Oper} {a:Act} {Q:Exit->Act->au->Prop} (a9:w=w0) (g:o.guard=none) (s x:Operand) (t:TypeId)
  (p:o.op=.call { callee:=.builtin .append,args:= #[s,x],argTypes:= #[t,t] }) (v u:aJ) (a0:a.eval s=v) (D:a.eval x=u)
  (B:(Builtin.append_ #[t,t] o.type #[v,u]).run P w0=.ok v' w') (h:wpList P l Q rest (a.put o.dst v') w'):wpList P l Q (o::rest) a w:=NJ
theorem Bl {P:Program} {o:Oper} {a:Act} (w0:au) {K:Act->au->Prop} {Q:Exit->Act->au->Prop} {E:Prop} {c:Prop} [Decidable c] (g:w=w0) (h:if c then Oper.wp P o a w0 K Q else E):if c then Oper.wp P o a w K Q else E:=aI
theorem Zgn {P:Program} {g:Array Oper} {o:Oper} {a:Act} {K:Act->au->Prop} {Q:Exit->Act->au->Prop} {E:Prop} (q:w=w0) (z:o.guard=none) (s x:Operand) (t:TypeId)
  (k:o.op=.call { callee:=.builtin .append,args:= #[s,x],argTypes:= #[t,t] }) (v u:aJ) (p:a.eval s=v) (y:a.eval x=u)
  (l:(Builtin.append_ #[t,t] o.type #[v,u]).run P w0=.ok v' w') (h:K (a.put o.dst v') w'):
  if Region.wanted o (yielded g a.tmps)=true then Oper.wp P o a w K Q else E:=by subst q;exact YH z s x t k v u p y l h
theorem g' {P:Program} {g:Array Oper} {o:Oper} {a:Act} {K:Act->au->Prop} {Q:Exit->Act->au->Prop} {E:Prop} {s x:Operand} {t:TypeId} {u:aJ} (l:(Builtin.append_ #[t,t] o.type #[v,u]).run P w0=.ok v' w') (h:K (a.put o.dst v') w') (q:w=w0:=by with_reducible rfl) (z:o.guard=none:=by rfl) (k:o.op=.call { callee:=.builtin .append,args:= #[s,x],argTypes:= #[t,t] } :=by rfl) (p:a.eval s=v:=by rfl) (y:a.eval x=u:=by rfl):if Region.wanted o (yielded g a.tmps)=true then Oper.wp P o a w K Q else E:=Zgn q z s x t k v u p y l h
theorem ZU {P:Program} (t e:TypeId) (z:aJ) (bytes:Nat) (a0:P.underlying t=some (.slice e)) (y:(P.info? e).map (λi=>(i.zero,i.size,i.bytes))=some (some z,1,bytes)) (E:z.cells.size=1) (h:w.ownsRow B e 1 v n xs) (Q:Below B wb w) (p:B<=w) (x:aJ) (a2:x.oneCell'=true) (G:n+1<=maxLen) (D:(n+1)*bytes<=140737488355328):
  ∃v' w',(Builtin.append_ #[t,t] t #[v,.slice (some (w,0)) 1 1]).run P (w.alloc (.cells #[x] e))=.ok v' w'/\w'.ownsRow B e 1 v' (n+1) (xs++[x])/\Below B wb w'/\(∀q T l,Bk w q T l->e≠T->Bk w' q T l):=by obtain⟨i,hi,a1,S,F⟩:=info_parts y;obtain⟨v',w',R,I,u,_⟩:=run_append_own_at (P:=P) (w.alloc (.cells #[x] e)) B t t e i z 1 bytes a0 hi a1 S F E O v n xs (h.alloc _) ⟨w,0,none⟩ 1 1 [x] rfl (Qo _ _ _) aI G D (cp p (by simp));exact⟨v',w',R,I,(Q.alloc p _).grown u (cp p (by simp)) (λk g=>(h.lt k g).1),λq T l g M=>(g.alloc _).grown u (λe=>Z1 h g M e.symm)⟩
theorem Zhp {P:Program} (t e:TypeId) (z:aJ) (bytes:Nat) (a0:P.underlying t=some (.slice e)) (y:(P.info? e).map (λi=>(i.zero,i.size,i.bytes))=some (some z,1,bytes)) (E:z.cells.size=1) (h:w.ownsRow B e 1 v n xs) (R:Below B wb w) (g:B<=w) (x:aJ) (a3:x.oneCell'=true) (G:n+1<=maxLen) (D:(n+1)*bytes<=140737488355328):
  ∃v' w',(Builtin.append_ #[t,t] t #[v,.slice (some (w,0)) 1 1]).run P (w.alloc (.cells #[x] e))=.ok v' w'/\w'.ownsRow B e 1 v' (n+1) (xs++[x])/\Below B wb w'/\(v'.ownBlock=v.ownBlock\/v'.ownBlock=some (w.heap.size+1))/\w.heap.size+1<=w'.heap.size/\
   (∀A vs,At w A vs->(∀b o,A=some ⟨b,o,none⟩->v.ownBlock≠some b)->At w' A vs):=by obtain⟨i,hi,a1,p,F⟩:=info_parts y;obtain⟨v',w',S,I,u,_,a2⟩:=run_append_own_at (P:=P) (w.alloc (.cells #[x] e)) B t t e i z 1 bytes a0 hi a1 p F E O v n xs (h.alloc _) ⟨w,0,none⟩ 1 1 [x] rfl (Qo _ _ _) aI G D (cp g (by simp));have q:Fr (λk=>v.ownBlock=some k) (w.alloc (.cells #[x] e)) w':=(Fr.refl _ _).grown u (λk l=>.inl l);refine⟨v',w',S,I,(R.alloc g _).grown u (cp g (by simp)) (λk l=>(h.lt k l).1),?_,?_,λA vs Q M=> ?_⟩;exact mM;have:=q.size;simpa using this;exact(Q.alloc _).keep q (λb o hb p=>M b o hb p)
theorem KG {P : Program} (t e : TypeId) (z : aJ) (bytes size : Nat) (a2 : P.underlying t = some (.slice e)) (E : (P.info? e).map (λi => (i.zero, i.size, i.bytes)) = some (some z, size, bytes)) (G : z.cells.size = size) (a4 : 0 < size) {w wb : au} {B : Nat} {v : aJ} {n : Nat} {xs : List aJ} (h : w.ownsRow B e size v n xs) (a0 : Below B wb w) (g : B <= w.heap.size) (ys : List aJ) (a5 : ys.length = size) (h1 : ∀ y ∈ ys, y.oneCell' = true) (M : n + 1 <= maxLen) (F : (n + 1) * bytes <= 140737488355328) :
    ∃v' w',(Builtin.append_ #[t,t] t #[v,.slice (some (w,0)) 1 1]).run P (w.alloc (.cells ys.toArray e))=.ok v' w'/\w'.ownsRow B e size v' (n+1) (xs++ys)/\Below B wb w'/\(v'.ownBlock=v.ownBlock\/v'.ownBlock=some (w.heap.size+1))/\w.heap.size+1<=w'.heap.size/\
      (∀A vs,At w A vs->(∀b o,A=some ⟨b,o,none⟩->v.ownBlock≠some b)->At w' A vs):=by obtain⟨i,hi,a3,p,I⟩:=info_parts E;obtain ⟨v', w', a1, Q, D, _, a6⟩ := run_append_own_at (P := P) (w.alloc (.cells ys.toArray e)) B t t e i z size bytes a2 hi a3 p I G a4 v n xs (h.alloc _) ⟨w, 0, none⟩ 1 1 ys O (λj u a7 => by have hb:=(Bk.new w e ys.toArray).cell j;rw[Go.WideShapes.add_plain,jW,hb];grind) h1 M F (cp g (by simp));have q:Fr (λk=>v.ownBlock=some k) (w.alloc (.cells ys.toArray e)) w':=(Fr.refl _ _).grown D (λk l=>.inl l);refine⟨v',w',a1,Q,(a0.alloc g _).grown D (cp g (by simp)) (λk l=>(h.lt k l).1),?_,?_,λA vs S R=> ?_⟩;exact mM;have:=q.size;simpa using this;exact(S.alloc _).keep q (λb o hb p=>R b o hb p)
end Wv
namespace Wv
variable{l r x:List Int}
def tv:Int->List Int->Bool
 |_,[]=>true
 |last,t::r=>decide (last<t)&&decide (t<=1099511627776)&&tv t r
def Zh (l:List Int):Bool:=tv (-1) l&&decide (l.length<=4096)
def gp:Int->List Int->List Int
 |_,[]=>[]
 |last,t::r=>(t-last-1)::gp t r
def Z9 (l:List Int):List Int:=gp (-1) l
def jn:Int->List Int->Option (List Int)
 |_,[]=>some []
 |last,g::r=>if g<0\/1099511627776<g\/1099511627776<last+g+1 then none else(jn (last+g+1) r).map ((last+g+1)::·)
def kR (x:List Int):Option (List Int):=match jn (-1) x with
 |some l=>if l.length<=4096 then some l else none
 |none=>none
theorem QS {last t:Int} :tv last (t::r)=true↔last<t/\t<=1099511627776/\tv t r=true:=by show(decide _&&decide _&&_)=true↔_;grind
theorem Zqg :∀ {last:Int},tv last l=true->∀t∈l,last<t/\t<=1099511627776:=by
 induction l with
 |nil=>exact aI
 |cons a r ih=>intro last h t p;obtain⟨h1,g,k⟩:=QS.1 h;grind
theorem ZgO :∀ {last:Int},tv last l=true->l.Pairwise (· <·):=by
 induction l with
 |nil=>exact mM
 |cons a r ih=>intro last h;obtain⟨_,_,g⟩:=QS.1 h;exact List.Pairwise.cons (λt k=>(Zqg g t k).1) (ih g)
theorem Zrd :∀ {last:Int},l.Pairwise (· <·)->(∀t∈l,last<t/\t<=1099511627776)->tv last l=true:=by
 induction l with
 |nil=>intro _ _ _;rfl
 |cons a r ih=>intro last h hb;rw[List.pairwise_cons] at h;refine QS.2 ⟨(hb a fm).1,(hb a fm).2,ih h.2 (λt g=>⟨h.1 t g,(hb t (gN _ g)).2⟩)⟩
theorem Ze :Zh l=true↔l.Pairwise (· <·)/\(∀t∈l,0<=t/\t<=1099511627776)/\l.length<=4096:=by unfold Zh;rw[gm,fE];constructor;rintro⟨h1,g⟩;exact⟨ZgO h1,λt k=>by have:=Zqg h1 t k;omega,g⟩;rintro⟨h1,g,p⟩;exact⟨Zrd h1 (λt k=>aI),p⟩
theorem Y3 (l:List Int):∀last,(gp last l)=l.length:=by
 induction l with
 |nil=>intro _;rfl
 |cons a r ih=>simp[gp,ih]
theorem Zpg :∀ {last:Int},-1<=last->tv last l=true->∀g∈gp last l,0<=g/\g<=1099511627776:=by
 induction l with
 |nil=>intro last _ _ g k;cases k
 |cons a r ih=>intro last h0 h g k;obtain⟨h1,p,q⟩:=QS.1 h;rcases jx.1 k with rfl|k;exact O;grind
theorem ZqP :∀ {last:Int},-1<=last->tv last l=true->jn last (gp last l)=some l:=by
 induction l with
 |nil=>intro _ _ _;rfl
 |cons a r ih=>intro last h0 h;obtain⟨h1,g,k⟩:=QS.1 h;show(if _ then none else _)=_;grind
theorem ZqQ :∀ {last:Int} {l:List Int},-1<=last->jn last x=some l->tv last l=true/\gp last l=x/\l=x.length:=by
 induction x with
 |nil=>intro last l _ h;injection h with h;subst h;exact⟨rfl,rfl,rfl⟩
 |cons g r ih=>
  intro last l h0 h;unfold jn at h;split at h;exact aI
  match hj:jn (last+g+1) r,h with
  |none,h=>cases h
  |some l',h=>injection h with h;subst h;obtain⟨i1,k,p⟩:=ih O hj;exact⟨QS.2 ⟨O,O,i1⟩,by simp[gp,k];omega,aI⟩
theorem GN (h:Zh l=true):kR (Z9 l)=some l:=by unfold Zh at h;rw[gm,fE] at h;unfold kR Z9;rw[ZqP O h.1];grind
theorem Kb (h:kR x=some l):Zh l=true/\Z9 l=x:=by
 unfold kR at h;match hj:jn (-1) x,h with
 |none,h=>cases h
 |some l',h=>simp only at h;split at h;injection h with h;subst h;obtain⟨i1,g,_⟩:=ZqQ O hj;exact⟨by unfold Zh;grind,g⟩;grind
theorem XD (h:Zh l=true):∀g∈Z9 l,0<=g/\g<=1099511627776:=by unfold Zh at h;rw[gm] at h;exact Zpg O h.1
structure dR where
 st:Int
 f:Int
 s:Int
 n:Int
deriving DecidableEq
def zq:dR:=⟨0,0,0,0⟩
def fW (c:dR) (i:Nat):Int:=c.st+((i+1)/2:Nat)*c.f+(i/2:Nat)*c.s
def DZ (c:dR) (i:Nat):Int:=if i % 2=0 then c.f else c.s
theorem Zhr (c:dR):fW c 0=c.st:=by unfold fW;simp
theorem Zhq (c:dR) (i:Nat):fW c (i+1)=fW c i+DZ c i:=by unfold fW DZ;rcases Nat.mod_two_eq_zero_or_one i with h|h;rw[aP h,show(i+1+1)/2=(i+1)/2+1 by omega,show(i+1)/2=i/2 by omega,xb,Int.add_mul];omega;rw[az O,show(i+1+1)/2=(i+1)/2 by omega,show(i+1)/2=i/2+1 by omega,xb,Int.add_mul,Int.add_mul];omega
def sA (c:dR):Prop:=1<=c.n/\c.n<=4096/\0<=c.st/\c.st<=1099511627776/\1<=c.f/\c.f<=1099511627776/\1<=c.s/\c.s<=1099511627776
instance (c:dR):Decidable (sA c):=by unfold sA;infer_instance
def nZ (c:dR):Bool:=decide (sA c)&&decide (fW c (c.n-1).toNat<=1099511627776)
theorem YK {c:dR} :nZ c=true↔sA c/\fW c (c.n-1).toNat<=1099511627776:=by unfold nZ;grind
theorem Zk7 {c:dR} (h:sA c) (i:Nat):1<=DZ c i/\DZ c i<=1099511627776:=by obtain⟨_,_,_,_,h1,g,k,l⟩:=h;unfold DZ;grind
theorem Zos {c:dR} (h:sA c):∀ {i j:Nat},i<j->fW c i<fW c j:=by
 intro i j g;induction j with
 |zero=>exact O
 |succ j ih=>have k:=Zk7 h j;rw[Zhq];grind
def ZP (c:dR):List Int:=(List.range c.n.toNat).map (fW c)
theorem RT (c:dR):(ZP c)=c.n.toNat:=by simp[ZP]
theorem RU {c:dR} (h:sA c):(ZP c).Pairwise (· <·):=by unfold ZP;rw[List.pairwise_map];exact List.Pairwise.imp (λg=>Zos h g) List.pairwise_lt_range
def nN (c:dR) (m:Int):Nat->Nat->Nat
 |0,k=>k
 |fuel+1,k=>if k<4096/\fW c k<=m then nN c m fuel (k+1) else k
theorem Zdh (c:dR) (m:Int):∀(fuel k:Nat),¬(k<4096/\fW c k<=m)->nN c m fuel k=k:=by
 intro fuel k h;cases fuel with
 |zero=>rfl
 |succ f=>rw[nN,az h]
theorem Zdg (c:dR) (m:Int) (fuel k:Nat) (h:k<4096/\fW c k<=m):nN c m (fuel+1) k=nN c m fuel (k+1):=by rw[nN,aP h]
theorem Zdf (c:dR) (m:Int):∀(fuel k:Nat),k<=4096->4096-k<=fuel->k<=nN c m fuel k/\nN c m fuel k<=4096/\(∀i,k<=i->i<nN c m fuel k->fW c i<=m)/\(nN c m fuel k<4096->m<fW c (nN c m fuel k)):=by
 intro fuel;induction fuel with
 |zero=>intro k h1 g;rw[nN];grind
 |succ f ih=>intro k h1 g;rw[nN];by_cases h:k<4096/\fW c k<=m;exact aI;rw[az h];exact⟨aW,h1,λi _ _=>O,λ_=>O⟩
def tr (a b:Int) (r:List Int):dR:=⟨a,b-a,match r with|[]=>b-a|t::_=>t-b,1⟩
def Zt (l:List Int):dR:=match l with
 |a::b::r=>if Zh l=true then { tr a b r with n:=(nN (tr a b r) ((a::b::r).getLast (by simp)) 4096 1:Nat) } else zq
 |_=>zq
theorem ZqA (c:dR) (n:Int) (i:Nat):fW { c with n:=n } i=fW c i:=rfl
theorem Qi (h:Zh l=true) (y:2<=l.length):nZ (Zt l)=true:=by
 match l,y with
 |a::b::r,_=>
  have hd:Zt (a::b::r)= { tr a b r with n:=(nN (tr a b r) ((a::b::r).getLast (by simp)) 4096 1:Nat) } :=by show(if _ then _ else _)=_;grind
  obtain⟨v1,v2,R⟩:=Ze.1 h;obtain⟨m,D⟩:=ay ((a::b::r).getLast (by simp));have G:=v2 m aI;rw[hd,D];obtain⟨i1,E,u,F⟩:=Zdf (tr a b r) m 4096 1 O O;obtain⟨k,B⟩:=ay (nN (tr a b r) m 4096 1);rw[B] at i1 E u F⊢;have g:=v2 a fm;have hb:=v2 b (gN _ fm);rw[List.pairwise_cons] at v1;obtain⟨w1,I⟩:=v1;have M:=w1 b fm;have p:1<=(tr a b r).s/\(tr a b r).s<=1099511627776:=by unfold tr;rcases r with _|⟨t,q⟩;exact aI;have Q:=v2 t (gN _ (gN _ fm));rw[List.pairwise_cons] at I;grind
  refine YK.2 ⟨⟨aI,aI,g.1,g.2,by show 1<=b-a;omega,by show b-a<=_;omega,p.1,p.2⟩,?_⟩;rw[ZqA];show fW _ ((k:Int)-1).toNat<=_;rw[show((k:Int)-1).toNat=k-1 by omega];rcases Nat.lt_or_ge 1 k with z|z;exact Int.le_trans (u (k-1) O O) G.2;rw[show k-1=0 by omega,Zhr];exact g.2
def vI (l:List Int):List Int:=l.mergeSort (λa b=>decide (a<=b))
theorem VV (l:List Int):(vI l).Perm l:=List.mergeSort_perm _ _
theorem Zcj (l:List Int):(vI l).Pairwise (· <=·):=by have:=List.pairwise_mergeSort (le:=λa b:Int=>decide (a<=b)) (λa b c h1 g=>aI) (λa b=>aI) l;exact this.imp (λh=>aI)
theorem Zq9 (h:r.Perm l) (k:r.Pairwise (· <=·)):vI l=r:=
 List.Perm.eq_of_pairwise (le:=(· <=·)) (λa b _ _ h1 g=>Int.le_antisymm h1 g) (Zcj l) k ((VV l).trans h.symm)
def Qz (c:dR) (l:List Int):List Int:=((List.range c.n.toNat).filter (λi=> !l.contains (fW c i))).map Int.ofNat
def qj (c:dR) (l:List Int):List Int:=l.filter (λt=> !(ZP c).contains t)
def H8 (c:dR) (l:List Int):Option (List Int×List Int):=if nZ c=true/\Zh l=true then some (Qz c l,qj c l) else none
def DY (c:dR) (m:List Int):List Int:=((List.range c.n.toNat).filter (λ(i:Nat)=> !m.contains (i:Int))).map (fW c)
def zK (c:dR) (m x:List Int):List Int:=vI (DY c m++x)
theorem Zex (c:dR) (l:List Int):DY c (Qz c l)=(ZP c).filter (λt=>l.contains t):=by unfold DY ZP;rw[List.filter_map];congr 1;apply List.filter_congr;unfold Qz;grind
theorem K9 (h:l.Pairwise (· <·)):l.Nodup:=h.imp (λh e=>O)
theorem Zns {c:dR} (k:sA c) (p:Zh l=true):zK c (Qz c l) (qj c l)=l:=by
 obtain⟨v1,v2,y⟩:=Ze.1 p;refine Zq9 ?_ (v1.imp (λh=>Int.le_of_lt h));rw[Zex];have g:=RU k;have n1:((ZP c).filter (λt=>l.contains t)++qj c l).Nodup:=by rw[List.nodup_append];refine⟨K9 (g.sublist List.filter_sublist),K9 (v1.sublist List.filter_sublist),?_⟩;rintro a u b hb rfl;have q:=(List.mem_filter.1 hb).2;grind
 refine(List.perm_ext_iff_of_nodup (K9 v1) n1).2 (λa=> ?_);unfold qj;grind
theorem Xl {c:dR} (g:sA c) (l:List Int):Zh (Qz c l)=true:=by refine Ze.2 ⟨?_,?_,?_⟩;unfold Qz;rw[List.pairwise_map];exact(List.pairwise_lt_range.sublist List.filter_sublist).imp (λh=>Int.ofNat_lt.2 h);intro t k;obtain⟨i,hi,rfl⟩:=iV.1 k;have:=g.2.1;grind;unfold Qz;rw[dc];have h1:=List.length_filter_le (λi=> !l.contains (fW c i)) (List.range c.n.toNat);rw[rp] at h1;have:=g.2.1;omega
theorem FW {c:dR} (g:Zh l=true):Zh (qj c l)=true:=by obtain⟨v1,v2,p⟩:=Ze.1 g;refine Ze.2 ⟨v1.sublist List.filter_sublist,λt k=>v2 t (List.mem_filter.1 k).1,?_⟩;have h1:=List.length_filter_le (λt=> !(ZP c).contains t) l;unfold qj;omega
end Wv
namespace Go.Proofs.Y
open Wv Go.RowKit
section
variable{A:bS}{b eb g n z:Nat}{l t:List Nat}{most:Int}{s:ax}{w w':au}
theorem ZcV (n:Nat) (h:0<n):fc n=fc (n/2)+1:=by unfold fc;rw[az O];by_cases h1:n/2=0;rw[aP h1,Nat.log2_def,az O];rw[az h1,Nat.log2_def,aP O]
theorem Uf (x:Nat) (h:x<2 ^ 64):Go.Lib.bitLen x=fc x:=by
  have key:∀f y,y<2 ^ f->Go.Lib.bitLenAux f y=fc y:=by
    intro f;induction f with
    | zero => intro y hy; have : y = 0 := by simpa using hy
              subst this;rfl
    |succ f ih=>
      intro y hy;unfold Go.Lib.bitLenAux;split;. rename_i h0;subst h0;rfl
      rename_i h0;rw[ih (y/2) (by rw[rq] at hy;omega),ZcV y O];omega
  exact key _ x h
theorem KH (v:Nat) (h:v<=9223372036854775807) (w:au):
  dt 164 #[.int .u64 (v:Int)] w λx w'=>x=.returned ((fc v:Nat):Int)/\w=w':=by refine(Tryz.bits_Len (v:Int) w O O).mono ?_;rintro x w' ⟨rfl,g⟩;exact⟨ZY (by rw[ek,Uf _ O]),g.symm⟩
theorem La {dv:aJ} {e:En} (h:fz w b g t) (ht:lM t) (G:dT w eb dv e) (M:dB 0 e) (v:Nat) (a7:v<4611686018427387904) (a5:e.out.length<=800000):
  Calls prog 120 #[(b,0),(eb,0),v] w λx w'=>x=.returned (.tuple #[])/\fz w' b g (kT v (t,e)).1/\∃R,dT w' eb R (kT v (t,e)).2/\Fr (tc g eb dv) w w'/\Zu w dv R:=by
 have hb:=JB a7;have B:=J (KH v O);obtain⟨n,I⟩:=ay (fc v);have F:kT v (t,e)=((fY 6 n 1 t e).1,if 2<=n then mW (n-1) v (fY 6 n 1 t e).2 else(fY 6 n 1 t e).2):=(by unfold kT;rw[I]);rw[I] at B hb;obtain⟨k1,k2,k3⟩:=Ba 6 n 1 ht.1 vV M;have E:=J (Zki h ht G M n O a5)
 have k:(fY 6 n 1 t e).2.out<=e.out.length+12:=by
  have key:∀(j m:Nat) (t:List Nat) (e:En),(fY j n m t e).2.out<=e.out.length+2*j:=by intro j;exact ND
  have:=key 6 1 t e;omega
 have a9:=h.foot G;generalize fY 6 n 1 t e=D at*;obtain⟨b3,b2⟩:=D;simp only at F E k3 k;have l:=J F;have b0:¬(4611686018427387903:Int)<v:=O;have b1:¬(v:Int)<0:=O;clear F I k1 k2 h G ht M a9;by_cases h2:2<=n;.rw[aP h2] at l;have a8:(2:Int)<=n:=O;have i1:(n:Int)-1=((n-1:Nat):Int):=O;obtain⟨q,S⟩:=ay (n-1);rw[S] at i1 l;have a2:q<=62:=O;clear S;go_in;go_wp21;refine cq (B.o _) ?_;go_wp21;refine aO E.o λw1 ⟨y,a0,u,p,z⟩=>?_;have Hd:=J (Z8g u k3 q v a2 O O);have a6:=p.size;have Q:=y.foot u;go_wp21;refine aO Hd.o λb4 ⟨a1,a3,an,a4⟩=>?_;go_wp2;go_end0;rw[l.o];exact⟨rfl,y.fr an Q.1 Q.2,a1,a3,K4 p an z,z.trans a4 a6⟩
 rw[az h2] at l;have a8:¬(2:Int)<=n:=O;clear h2;go_in;go_wp21;refine cq (B.o _) ?_;go_wp21;refine aO E.o λw1 ⟨y,a0,u,p,z⟩=>?_;go_wp2;go_end0;rw[l.o];exact⟨rfl,y,a0,u,p,z⟩
theorem ZpL (n x:Nat) (g:n<=61) (k:x<2 ^ n):bits .or .i64 (IntKind.i64.wrap (2 ^ n)) (x:Int)=((2 ^ n+x:Nat):Int):=by have h1:(2:Nat) ^ n<=2 ^ 61:=pT O g;have e:((2:Int) ^ n)=((2 ^ n:Nat):Int):=(by rw[Int.natCast_pow];rfl);rw[e,IntWalk.i64_in _ O,B_ _ _ O O,nat_join n _ _ (by rw[Nat.mod_self]) k]
theorem ZbR (d:De) (h:n<2):wH n d=n:=by unfold wH;rw[aP h]
theorem ZeY (d:De):wH 63 d= -1:=rfl
theorem Zjj (d:De) (h:¬n<2) (g:n≠63):wH n d=((2 ^ (n-1)+(lr (n-1) 0 d).1:Nat):Int):=by unfold wH;rw[az h,az g]
theorem ZmZ (t:List Nat) (d:De) (n:Nat) (k:List Nat) (g:De) (h:er 6 1 t d=(n+64,k,g)):
  gS t d=(wH n g,k,if n<2 then g else if n=63 then g else(lr (n-1) 0 g).2):=by unfold gS;rw[h];simp only[vO]
theorem K' {d:De} (h:fz w b g t) (ht:lM t) (a0:dA w eb d) (M:DV 0 d):
  Calls prog 217 #[(b,0),(eb,0)] w λx w'=>x=.returned (.int .i64 (gS t d).1)/\fz w' b g (gS t d).2.1/\dA w' eb (gS t d).2.2/\Fr (vp g eb) w w':=by
 have u:=Zkh h ht a0 M;obtain⟨k1,k2,k3,a2,a3⟩:=DO 6 1 t d ht.1 vV M;have l:=ZmZ t d;generalize er 6 1 t d=D at*;obtain⟨m,b1,y⟩:=D;simp only at u k3 a2 a3;obtain⟨n,rfl⟩:∃n,m=n+64:=⟨m-64,O⟩;have l:=l n b1 y rfl;rw[vO] at u;have u:=J u;have I:=J l;have b5:n<64:=O;clear k1 k2 a2 a3 l h ht a0 M;by_cases p:n<2
 .have k:=I.o;rw[aP p,ZbR y p] at k;have E:=J k;have a8:n=0\/n=1:=O;clear k p;rcases a8 with rfl|rfl
  all_goals
   go_in;go_wp21;refine aO u.o λw1 ⟨z,B,F⟩=>?_;go_wp2;go_ret;rw[E.out];exact⟨rfl,z,B,F⟩
 have b3:((n:Int)==0)=false:=rY;have b2:((n:Int)==1)=false:=rY;by_cases G:n=63;.have k:=I.o;rw[az p,aP G] at k;subst G;rw[ZeY] at k;have E:=J k;clear k p;go_in;go_wp21;refine aO u.o λw1 ⟨z,B,F⟩=>?_;go_wp2;go_ret;rw[E.out];exact⟨rfl,z,B,F⟩
 have S:((n:Int)==63)=false:=rY;have k:=I.o;rw[az p,az G,Zjj y p G] at k;have E:=J k;obtain⟨q,a1⟩:=ay (n-1);rw[a1] at E;have a6:q<=61:=O;have i1:(n:Int)-1=(q:Int):=O;have b4:IntKind.i64.wrap (q:Int)=(q:Int):=lP;have b7:0<=(q:Int):=O;have Q:=(Mi q 0 y k3).2;rw[jW,ED] at Q;have a4:=ZpL q (lr q 0 y).1 a6 Q;have a5:=J a4;clear k p G a1 Q a4;go_in;go_wp21;refine aO u.o λw1 ⟨z,B,F⟩=>?_;have Hd:=J (λW (a7:dA W eb y)=>Z8c a7 k3 q O);have R:=z.onl B;go_wp2;go_region_with ((go_at_call 247;refine(Hd.o _ B.drew).mono ?_;rintro x b6 ⟨rfl,b0,an⟩))
 all_goals
  go_wp2;go_ret;rw[E.out];exact⟨ZY a5.o,z.drew.fr an R.1 R.2,b0,F.drew.trans' an (λi hi e=>.inr e)⟩
theorem ZbM (l:List Nat) (v:Nat):∀x:List Nat×En,Q4 (l++[v]) x=kT v (Q4 l x):=by
 induction l with
 |nil=>intro x;rfl
 |cons a l ih=>intro x;exact ih _
theorem ZbN (l:List Nat) (k:Nat) (h:k<l) (x:List Nat×En):Q4 (l.take (k+1)) x=kT (l.getD k 0) (Q4 (l.take k) x):=by rw[dD h,ZbM];congr 1;simp[List.getD,h]
theorem K3 (n:Nat) (j:Nat):∀(m:Nat) (t:List Nat) (e:En),(fY j n m t e).2.out<=e.out.length+2*j:=ND
theorem Lb (v:Nat) (g:v<4611686018427387904) (x:List Nat×En):(kT v x).2.out<=x.2.out.length+134:=by have hb:=JB g;have h1:=K3 (fc v) 6 1 x.1 x.2;unfold kT;simp only;split;have:=Vw (fc v-1) v (fY 6 (fc v) 1 x.1 x.2).2;omega;omega
theorem Us (l:List Nat):∀(x:List Nat×En),(∀v∈l,v<4611686018427387904)->(Q4 l x).2.out.length<=x.2.out+134*l.length:=by
 induction l with
 |nil=>intro x _;exact aW
 |cons v l ih=>intro x h;have h1:=ih (kT v x) (λu g=>h u (gN _ g));have k:=Lb v (h v fm) x;rw[Q4,f'];omega
def bQ (l:List Int):List aJ:=l.map iv
theorem XS (l:List Int) (i:Nat) (h:i<l):(bQ l)[i]? =(l.getD i 0:Int):=by have:l.getD i 0=l[i]:=(by simp[List.getD,h]);rw[this];simp[bQ,iv,fD h]
theorem Ziz (h:fz w b g t0) (b8:At w A (bQ (l.map Int.ofNat))) (a1:l≠[]->∀G o,A=some ⟨G,o,none⟩->G≠g) (n cap:Nat) (I:n=l) (g2:l.length<=4096) (a4:∀v∈l,v<4611686018427387904):
  Calls prog 191 #[.iface 191 (.pointer (some (b,0))),(A,n,cap)] w λx w'=>x=.returned (bs (jj l))/\Fr (only g) w w':=by
 have p:=Zj (n:Int) O O w;rw[ek,I] at p;have f2:=rH l;rw[<-Z0] at f2;have Q:jj l=bj l.length++if l=[] then[] else ji (Q4 l (t0,e0)).2:=rfl;generalize F:bs (bj l.length)=s1 at*;obtain⟨p,a6,a0,Ha,D⟩:=ia p F h b8 I;have g3:n<=4096:=O;rw[<-I] at p;clear F h b8 I;by_cases h0:l=[];.rw[aP h0,fu] at Q;have c4:n=0:=(by rw[D.o,h0];rfl);subst c4;have M:=J Q;go_in;go_wp21;refine aO p.o λw1 z=>?_;go_wp2;go_ret;exact⟨Bj (by rw[M.o,a6.o]),Fr.of_below z⟩
 rw[az h0] at Q;have a1:=a1 h0;have c4:0<n:=by rw[D.o];exact List.length_pos_iff.2 h0
 have f6:((n:Int)==0)=false:=rY;obtain⟨M,S,B⟩:=bF Q a1 a4;go_in;go_wp21;refine aO p.o λw1 z=>?_;have d3:=J (VA w1);go_wp21;refine aO d3.o λf3 ⟨d9,aa⟩=>?_;have F:=z.size;have an:=z.trans (aa.mono F);have e6:=a0.o.below an;have e8:=Ha.o.below an;have g8:b<w:=a0.o.1.lt;have f7:g<w:=a0.o.2.lt;have e7:Fr (only g) w f3:=Fr.of_below an;go_wp2;go_loopw [8,19] (λ_ i wr=>∃(k:Nat) (a2:aJ),k<=n/\i=k/\fz wr b g (Q4 (l.take k) (t0,e0)).1/\dT wr w1.heap.size a2 (Q4 (l.take k) (t0,e0)).2/\At wr A (bQ (l.map Int.ofNat))/\Fr (only g) w wr/\(∀j,a2.ownBlock=some j->w.heap.size<=j)) (λ_ i _=>(n-intOf i).toNat);exact⟨0,_,O,rfl,e6,d9,e8,e7,CB⟩;obtain⟨k,a2,g1,rfl,c5,u,b0,a5,f4⟩:=hrel;obtain⟨c3,y⟩:=Ut (l.take k) (x:=(t0,e0)) zg xK;have R:=Us (l.take k) (t0,e0) (λv a4=>B.o v (Aj a4));rw[show(e0.out.length)=0 from rfl,eC] at R;by_cases ab:k<n
 .have a8:k<l:=(by rw[<-D.o];exact ab);have b4:=ZbN l k a8 (t0,e0);obtain⟨v,q⟩:=ay (l.getD k 0);have e5:v<4611686018427387904:=Pw;obtain⟨f8,g4,e2,f9,g5⟩:=b0.get k (v:Int) O9;subst e2;rw[q] at b4;generalize Q4 (l.take k) (t0,e0)=X at*;obtain⟨g7,g0⟩:=X;simp only at c3 y R c5 u;obtain⟨d2,b3,d1,b1⟩:=dm (La c5 c3 u y v e5 O) b4 b0 f4;go_wp21;refine aO d2.o λc6 ⟨d5,b2,c7,d6,e9⟩=>?_;have b5:Fr (only g) w c6:=a5.trans' d6 (λi hi t=>by rcases t with t|t|t;exact t;exact O;have:=b1.o i t;omega);have f5:=a5.size;have c8:=Ha.o.keep b5 (λG o e e4=>S.o G o e e4);have c9:∀j,b2.ownBlock=some j->w.heap.size<=j:=by intro j b9;rcases e9 with a3|a3;exact b1.o j (a3▸b9);have:=a3 j b9;omega
  go_wp2;go_roundw;exact⟨k+1,b2,O,ck,by rw[b3.o];exact d5,by rw[b3.o];exact c7,c8,b5,c9⟩;simp[intOf]<;>omega
 have e1:k=n:=O;subst e1;have d7:l.take k=l:=dU (by rw[D.o];exact aW);rw[d7] at u y R;obtain⟨E,e3⟩:=ay (Q4 l (t0,e0));rw[e3] at u y R M;have a7:=J (R6 u y.low O);have b7:(ji E.2).length<=600000:=by unfold ji;rw[bT,Yd];omega
 rw[<-Z0] at b7;obtain⟨g6,b6⟩:=ay (bs (ji E.2));rw[b6] at a7 b7;have d4:=J b6;go_wp21;refine aO a7.o λc6 d8=>?_;go_wp2;go_ret;exact⟨Bj (by rw[M.o,<-Z8,a6.o,d4.o]),a5.below d8⟩
theorem YG (u:At w A (bQ (l.map Int.ofNat))) (n cap:Nat) (z:n=l) (y:l.length<=4096) (D:∀v∈l,v<4611686018427387904):
  Calls prog 139 #[(A,n,cap)] w (bN w (.tuple #[bs (jj l),(0:Int)])):=by
 have G:=J (Lc w);have t:=J z;have b3:n<=4096:=O;obtain⟨Ha,B,E⟩:=bF u D y;clear z u D y;go_in;go_wp2;go_loop [5,11] (λ_ i=>∃k:Nat,k<=n/\i=k) (λ_ i=>(n-intOf i).toNat);exact CA;obtain⟨k,b1,rfl⟩:=hrel;by_cases ab:k<n;.have a8:k<l:=(by rw[<-t.o];exact ab);obtain⟨v,q⟩:=ay (l.getD k 0);have R:v<4611686018427387904:=Pw;obtain⟨a3,b5,p,a4,b6⟩:=Ha.o.get k (v:Int) O9;subst p;have a0:¬(4611686018427387903:Int)<v:=O;have a5:¬(v:Int)<0:=O;clear R q;go_wp2;go_round;exact⟨k+1,O,ck⟩;simp[intOf]<;>omega
 have M:k=n:=O;subst M;go_wp21;refine(G.o).mono ?_;rintro x w1 ⟨b,rfl,S,Q,g⟩;have F:=J (Ziz Q (Ha.o.below g) (λI a1 o p a7=>by obtain⟨a2,b4,h1,a6,_⟩:=Ha.o 0 (by simp only[bQ,dc];exact List.length_pos_iff.2 I);rw[p] at h1;injection h1 with h1;injection h1 with h1;omega) k cap t.o E.o B.o);go_wp21;refine aO F.o λb7 an=>?_;go_wp2;go_returns;exact⟨rfl,g.trans (an.toBelow' g.size (λj b0 e=>Jm))⟩
theorem Ml {d:De} (ht:lM t) (g:DV 0 d):lM (gS t d).2.1/\DV 0 (gS t d).2.2:=by obtain⟨k1,k2,k3,_⟩:=DO 6 1 t d ht.1 vV g;refine⟨⟨k1,k2.trans ht.2⟩,?_⟩;unfold gS;simp only;split;exact k3;split;exact k3;exact(Mi _ 0 _ k3).1
def hM:Nat->List Nat->De->List Int×List Nat×De
 |0,t,d=>([],t,d)
 |k+1,t,d=>((hM k t d).1++[(gS (hM k t d).2.1 (hM k t d).2.2).1],(gS (hM k t d).2.1 (hM k t d).2.2).2)
theorem ZeS (k:Nat):∀t d,hM (k+1) t d=((gS t d).1::(hM k (gS t d).2.1 (gS t d).2.2).1,(hM k (gS t d).2.1 (gS t d).2.2).2):=by
 induction k with
 |zero=>intro t d;rfl
 |succ k ih=>intro t d;rw[hM,ih,hM];rfl
theorem Ur (k:Nat):∀t d,(uq k t d).1=(hM k t d).1/\(uq k t d).2=(hM k t d).2.2:=by
 induction k with
 |zero=>intro t d;exact⟨rfl,rfl⟩
 |succ k ih=>intro t d;rw[ZeS,uq];have:=ih (gS t d).2.1 (gS t d).2.2;exact⟨by rw[this.1],this.2⟩
theorem ZqV (k:Nat) {d:De} (g:lM t) (l:DV 0 d):lM (hM k t d).2.1/\DV 0 (hM k t d).2.2:=by
 induction k with
 |zero=>exact⟨g,l⟩
 |succ k ih=>exact Ml ih.1 ih.2
theorem JP (k:Nat) (t:List Nat) (d:De):(hM k t d).1=k:=by
 induction k with
 |zero=>rfl
 |succ k ih=>simp[hM,ih]
theorem d0_v (s:ax):DV 0 (d0 s):=by
 have h1:(uv s).size=4294967295:=by unfold uv;rw[yY.1,yY.1,yY.1,yY.1]
 exact⟨by show Cb 0 (uv s).size;rw[h1];exact⟨aZ,aZ⟩,(yY (d:=Xx (Xx (Xx ⟨s,0,4294967295,false,false⟩)))).2⟩
def xZ (l:List Int):Array aJ:=(bQ l).toArray
theorem ZmA (l:List Int) (i:Nat) (z:Int):(xZ l).setIfInBounds i z=xZ (l.set i z):=by apply pV.1;simp[xZ,bQ,iv,List.map_set]
theorem ZiY (n:Nat):Array.replicate n (.int .i64 0:aJ)=xZ (List.replicate n 0):=by apply pV.1;simp[xZ,bQ,iv]
theorem Zmz (l:List Int) (i:Nat) (h:i<l):(xZ l)[i]? =(l.getD i 0:Int):=by have:=XS l i h;simpa [xZ] using this
def h' (w:au) (v:aJ) (l:List Int):Prop:=∃A cap,v=.slice A l cap/\At w A (bQ l)
theorem h'.nil (w:au):h' w (.slice none 0 0) []:=⟨none,0,rfl,At.nil _ _⟩
def dl (s:ax) (most:Int):List Int×Nat:=
 match hG s with
 |none=>([],12)
 |some (n,z)=>if 4096<n then([],12) else if most<(n:Int) then([],2) else if n=0 then([],if z<s then 12 else 0)
  else if pL (hM n t0 (d0 (s.drop z))).2.2=true then((hM n t0 (d0 (s.drop z))).1,0) else([],12)
def rh (w:au) (x:Ending) (w':au) (r:List Int×Nat):Prop:=∃v,x=.returned (.tuple #[v,r.2])/\h' w' v r.1/\Below w w w'
theorem Qn (e:Nat) (hb:Below w w w'):rh w (.returned (.tuple #[.slice none 0 0,e])) w' ([],e):=⟨_,rfl,h'.nil _,hb⟩
theorem G3 (h:hG s=some (n,z)) (g:¬most<(n:Int)):bK (bs s) 0 most=(n,bs (s.drop z),0):=by unfold bK;rw[aP rfl,Zk,h];simp only;rw[az g]
theorem Wu (h:hG s=some (n,z)) (g:most<(n:Int)):bK (bs s) 0 most=(0,bs s,2):=by unfold bK;rw[aP rfl,Zk,h];simp only;rw[aP g]
theorem UK (h:hG s=none):bK (bs s) 0 most=(0,bs s,12):=by unfold bK;rw[aP rfl,Zk,h]
theorem Zg {w1 g:au} (h:Below w w w1) (hb:w<=b) (k:Fr (only b) w1 g):Below w w g:=
 h.trans (k.toBelow' h.size (λj l e=>CD))
theorem Vs (b:Nat) (s:ax) (a0:s.length<=1099511627776) (most:Int) (hd:hG s=none\/∃n z,hG s=some (n,z)/\4096<n):
  Calls prog 218 #[.iface 191 (.pointer (some (b,0))),bs s,(4096:Int),most] w λx w'=>rh w x w' ([],12):=by
 have l:∃e,bK (bs s) 0 4096=(0,bs s,e)/\e≠0:=by rcases hd with h|⟨n,z,h,D⟩;exact⟨12,UK h,O⟩;exact⟨2,Wu h O,O⟩
 obtain⟨e,l,y⟩:=l;have G:(bs s).size<=1099511627776:=Cx;have q:=J (ZT (bs s) w);have t:=J (λW (h:RV W w (bs s) 0)=>E7);have B:((e:Int) !=0)=true:=fb;clear hd l y;generalize bs s=S at*;go_in;go_wp21;refine aO q.o λw1 ⟨p,g⟩=>?_;go_wp21;refine aO (t.o _ p) λE ⟨k,an⟩=>?_;have u:=J (Zf k);have aa:=Zg g aW an;clear p k g an;go_wp21;refine cq u.o ?_;go_wp2;go_returns;exact Qn 12 aa
theorem Zin (b:Nat) (s:ax) (a0:s.length<=1099511627776) (most:Int) (hd:hG s=some (n,z)) (B:n<=4096) (y:most<(n:Int)):
  Calls prog 218 #[.iface 191 (.pointer (some (b,0))),bs s,(4096:Int),most] w λx w'=>rh w x w' ([],2):=by have l:=G3 (most:=4096) hd O;have G:(bs s).size<=1099511627776:=Cx;have q:=J (ZT (bs s) w);have t:=J (λW (h:RV W w (bs s) 0)=>E7);clear hd l;generalize bs s=S at*;generalize bs (s.drop z)=S2 at*;go_in;go_wp21;refine aO q.o λw1 ⟨p,g⟩=>?_;go_wp21;refine aO (t.o _ p) λD ⟨k,an⟩=>?_;have u:=J (Zf k);have aa:=Zg g aW an;clear p k g an;go_wp21;refine cq u.o ?_;go_wp2;go_returns;exact Qn 2 aa
theorem Zdy (b:Nat) (s:ax) (a0:s.length<=1099511627776) (most:Int) (hd:hG s=some (0,z)) (I:¬most<0) (k:Nat) (p:k=if z<s then 12 else 0):
  Calls prog 218 #[.iface 191 (.pointer (some (b,0))),bs s,(4096:Int),most] w λx w'=>rh w x w' ([],k):=by have l:=G3 (most:=4096) hd O;have G:(bs s).size<=1099511627776:=Cx;have u:=J (ZT (bs s) w);have y:=J (λW (h:RV W w (bs s) 0)=>E7);have F:Hid (iP (bs (s.drop z)) 0=k):=J (by rw[p];unfold iP;rw[Z0,jt];by_cases h:z<s;rw[aP h,aP ⟨rfl,O⟩];rw[az h,az O]);clear hd l p;generalize bs s=S at*;generalize bs (s.drop z)=S2 at*;go_in;go_wp21;refine aO u.o λw1 ⟨t,q⟩=>?_;go_wp21;refine aO (y.o _ t) λM ⟨g,an⟩=>?_;have B:=J (Zf g);have D:=J (C' g);have aa:=Zg q aW an;clear t g q an;go_wp21;refine cq B.o ?_;go_wp21;refine aO D.o λQ E=>?_;go_wp2;go_returns;rw[F.o];exact Qn _ (Zg aa aW E)
theorem Zjh (k:Nat) (t:List Nat) (d:De):hM (k+1) t d=((hM k t d).1++[(gS (hM k t d).2.1 (hM k t d).2.2).1],(gS (hM k t d).2.1 (hM k t d).2.2).2):=rfl
theorem Zn9 (L:List Int) (n:Nat) (v:Int) (h:L<n):(L++List.replicate (n-L.length) 0).set L v=(L++[v])++List.replicate (n-(L.length+1)) 0:=IV
def Zqv (w:au) (g:Nat) (D:List Int×List Nat×De) (x:Ending) (w':au):Prop:=
 ∃v,x=.returned (.tuple #[v,(BE D.2.2:Int)])/\(pL D.2.2=true->h' w' v D.1)/\(pL D.2.2=false->v=.slice none 0 0)/\Fr (only g) w w'
theorem Gi (T:ax):Zb (bs T) 0 ((bs T).size:Int)=(bs T,bs [],0):=by unfold Zb;rw[aP rfl,az O,az O,ek,Zk,Z0,pm,wY]
theorem Zdx (e2:fz w b g t0) (s:ax) (a0:s.length<=1099511627776) (most:Int) (hd:hG s=some (n,z)) (i3:n<=4096) (i4:0<n) (i2:¬most<(n:Int)):
  Calls prog 218 #[.iface 191 (.pointer (some (b,0))),bs s,(4096:Int),most] w λx w'=>Zqv w g (hM n t0 (d0 (s.drop z))) x w':=by
 have l:=G3 (most:=4096) hd O;have G:(bs s).size<=1099511627776:=Cx;have g6:=J (ZT (bs s) w);have b3:=J (λW (h:RV W w (bs s) 0)=>E7);obtain⟨T,c8⟩:=ay (s.drop z);rw[c8] at b3⊢;have g1:(bs T).size<=1099511627776:=(by rw[Z0,<-c8,jt];omega);have f2:=Gi T;have d4:=J (λW (h:RV W w (bs T) 0)=>by have:=Zr h g1 ((bs T).size:Int);rw[f2] at this;exact this);have d5:=J (Vt T);have h7:((n:Int)==0)=false:=rY;have g0:=d0_v T;clear hd l c8 f2;generalize bs s=S at*;obtain⟨h9,f8⟩:=ay (bs T);rw[f8] at b3 d4 d5 g1;have b8:=J e2;have g4:=J g0;clear f8 e2 g0;go_in;go_wp21;refine aO g6.o λw1 ⟨f5,e7⟩=>?_;go_wp21;refine aO (b3.o _ f5) λi6 ⟨a1,an⟩=>?_;have d2:=J (Zf a1);have d3:=J (ZB a1 O);have aa:=Zg e7 aW an;have f6:=J a1;clear f5 a1 e7 an;go_wp21;refine cq d2.o ?_;go_wp21;refine cq d3.o ?_;go_wp21;refine aO (d4.o _ f6.o) λb1 ⟨h5,e9⟩=>?_;have c3:=Zg aa aW e9;clear e9 h5 d2 d3 f6 aa;go_wp21;refine aO (d5.o _) λq ⟨b2,f3⟩=>?_;have g5:=c3.size;have i5:=b2.lt;have f4:=c3.trans (f3.mono g5);have d9:=b8.o.below f4;have c6:=Y4 (P:=prog) 123 3 _ _ underlying123 Y1 rfl (n:Int) n rfl O O q;rw[ZiY] at c6;have d1:=J d9;have b4:=J b2;clear c3 f3 d9 b2;go_wp2;have i7:b<w:=b8.o.1.lt;have h8:g<w:=b8.o.2.lt;go_loopw [14,40] (λ_ i wr=>∃k:Nat,k<=n/\i=k/\fz wr b g (hM k t0 (d0 T)).2.1/\dA wr b1 (hM k t0 (d0 T)).2.2/\Bk wr q 3 (xZ ((hM k t0 (d0 T)).1++List.replicate (n-k) 0))/\Fr (only g) w wr) (λ_ i _=>(n-intOf i).toNat);exact⟨0,O,rfl,⟨d1.o.1.alloc _,d1.o.2.alloc _⟩,Bk.alloc b4.o _,Bk.new _ _ _,(Fr.of_below f4).alloc _⟩;obtain⟨k,i1,rfl,Q,I,E,a7⟩:=hrel;obtain⟨a4,a5⟩:=ZqV k zg g4.o;have a6:=JP k t0 (d0 T);by_cases ab:k<n
 .have R:=Zjh k t0 (d0 T);generalize hM k t0 (d0 T)=X at*;obtain⟨L,a8,a2⟩:=X;simp only at a4 a5 a6 Q I E R;have a3:=Zn9 L n (gS a8 a2).1 O;rw[a6] at a3;have B:=J (K' Q a4 I a5);have h2:=Q.onl I;have d8:q≠g:=O;have d7:q≠b1.heap.size:=O;obtain⟨y,f9⟩:=ay ((gS a8 a2).1);rw[f9] at a3 B R;obtain⟨b9,g9,f7,e3⟩:=dm R a3 E (And.intro d8 d7);clear R a3 f9 Q I a4 a5 E c6 h2 d8 d7;go_wp21;refine aO B.o λF ⟨e1,e6,c9⟩=>?_;have b0:=f7.o.fr c9 (λa0=>by rcases a0 with a0|a0;exact e3.o.1 a0;exact e3.o.2 a0);have h4:(L++List.replicate (n-k) 0).length=n:=Cu;obtain⟨g3,i0⟩:∃g3:Int,F.cell? (q,k)=g3:=⟨_,by rw[b0.cell,Zmz _ _ O]⟩;have h6:=b0.frozen k;have c5:=b0.put k y;rw[ZmA,g9.o] at c5;have e5:fz (F.setCell (q,k) y) b g (gS a8 a2).2.1:=e1.fr (S:=only q.heap.size) ((Fr.refl (only q.heap.size) F).setCell (p:=⟨q,k,none⟩) (.inl rfl) _) (λe=>by have:b=q:=e;omega) (λe=>by have:g=q:=e;omega);have e4:dA (F.setCell (q,k) y) b1 (gS a8 a2).2.2:=e6.fr (S:=only q.heap.size) ((Fr.refl (only q.heap.size) F).setCell (p:=⟨q,k,none⟩) (.inl rfl) _) (λe=>by have:b1=q.heap.size:=e;omega);have g2:Fr (only g) w (F.setCell (q,k) y):=(a7.trans' c9 (λi hi a0=>by rcases a0 with a0|a0;exact a0;omega)).setCell (p:=⟨q,k,none⟩) (.inr (by show w.heap.size<=q;omega)) _;obtain⟨g8,b6,b5,g7⟩:=dm c5 e5 e4 g2;clear c5 e5 e4 g2 e1 e6 c9 b0 a7 f7 h4;go_wp2;go_roundw;exact⟨k+1,O,ck,by rw[b9.o];exact b6.o,by rw[b9.o];exact b5.o,by rw[b9.o];exact g8.o,g7.o⟩;simp[intOf]<;>omega
 have h3:k=n:=O;subst h3;rw[fv,List.replicate_zero,fu] at E;have M:=J (Ziq I);have c4:=E.at_;have e8:=J a6;obtain⟨D,c7⟩:=ay (hM k t0 (d0 T));rw[c7] at M c4 e8;have d6:=J c7;have h0:=J c4;clear c7 E Q I a4 a5 c6 c4 a6;have h1:pL D.2.2=true\/pL D.2.2=false:=(by cases pL D.2.2<;>simp);rcases h1 with t|t;.have u:=Me t;rw[u] at M;have B:=J t;have b7:=J u;clear t u;go_wp21;refine cq M.o ?_;go_wp2;go_returns;rw[d6.o];refine⟨.slice (some ⟨q,0,none⟩) k k,by rw[b7.o];rfl,λ_=>⟨_,k,by rw[e8.o],h0.o⟩,(λh=>by rw[B.o] at h;cases h),a7⟩
 have u:=GY t;rw[u] at M;have B:=J t;have b7:=J u;clear t u;go_wp21;refine cq M.o ?_;go_wp2;go_returns;rw[d6.o];exact⟨.slice none 0 0,by rw[b7.o];rfl,(λh=>by rw[B.o] at h;cases h),λ_=>rfl,a7⟩
theorem Zm4 (s:ax) (most:Int):fq s most=if ∀v∈(dl s most).1,0<=v then dl s most else([],12):=by
 unfold fq dl;match hG s with
 |none=>simp
 |some (n,z)=>simp only;by_cases h1:4096<n;rw[aP h1,aP h1];simp;rw[az h1,az h1];by_cases g:most<(n:Int);rw[aP g,aP g];simp;rw[az g,az g];by_cases k:n=0;rw[aP k,aP k];simp;rw[az k,az k];obtain⟨q,t⟩:=Ur n t0 (d0 (s.drop z));rw[q,t];by_cases l:pL (hM n t0 (d0 (s.drop z))).2.2=true;rw[aP l];by_cases p:∀v∈(hM n t0 (d0 (s.drop z))).1,0<=v;rw[aP ⟨l,p⟩,aP p];rw[az (λh=>p h.2),az p];rw[az (λh=>l h.1),az l];simp
def Zoj (w:au) (g:Nat) (r:List Int×Nat) (x:Ending) (w':au):Prop:=∃v,x=.returned (.tuple #[v,r.2])/\h' w' v r.1/\Fr (only g) w w'
theorem Zim (B:fz w b g t0) (s:ax) (p:s.length<=1099511627776) (most:Int):
  dt 218 #[.iface 191 (.pointer (some (b,0))),bs s,(4096:Int),most] w λx w'=>Zoj w g (dl s most) x w':=by
 have conv:∀ {x w' e},rh w x w' ([],e)->dl s most=([],e)->Zoj w g (dl s most) x w':=by rintro x w' e ⟨v,h1,k,q⟩ h;rw[h];exact⟨v,h1,k,Fr.of_below q⟩
 match hd:hG s with
 |none=>refine(Vs b s p most (.inl hd)).mono ?_;intro x w' h;exact conv h (by unfold dl;rw[hd])
 |some (n,z)=>
  by_cases h1:4096<n;.refine(Vs b s p most (.inr ⟨n,z,hd,h1⟩)).mono ?_;intro x w' h;exact conv h (by unfold dl;rw[hd];simp only;rw[aP h1])
  by_cases k:most<(n:Int);.refine(Zin b s p most hd O k).mono ?_;intro x w' h;exact conv h (by unfold dl;rw[hd];simp only;rw[az h1,aP k])
  by_cases q:n=0;.subst q;refine(Zdy b s p most hd O _ rfl).mono ?_;intro x w' h;exact conv h (by unfold dl;rw[hd];simp only;rw[az h1,az k];simp only[if_true])
  refine(Zdx B s p most hd O O k).mono ?_;rintro x w' ⟨v,t,E,D,y⟩;have e:dl s most=if pL (hM n t0 (d0 (s.drop z))).2.2=true then((hM n t0 (d0 (s.drop z))).1,0) else([],12):=by unfold dl;rw[hd];simp only;rw[az h1,az k,az q]
  rw[e];by_cases l:pL (hM n t0 (d0 (s.drop z))).2.2=true;rw[aP l];rw[Me l] at t;exact⟨v,t,E l,y⟩;have u:pL (hM n t0 (d0 (s.drop z))).2.2=false:=(by simpa using l);rw[az l];rw[GY u] at t;have:=D u;subst this;exact⟨_,t,h'.nil _,y⟩
theorem rh.of {x:Ending} {r:List Int×Nat} {v:aJ} (h1:x=.returned (.tuple #[v,r.2])) (g:h' w' v r.1) (k:Below w w w'):rh w x w' r:=⟨v,h1,g,k⟩
theorem Y0 (s:ax) (a1:s.length<=1099511627776) (most:Int):
  Calls prog 170 #[bs s,most] w λx w'=>rh w x w' (fq s most):=by
 obtain⟨I,M,y⟩:=bF (Lc w) (λW b g (h:fz W b g t0)=>Zim h s a1 most) (Zm4 s most);have R:(dl s most).1.length<=9223372036854775807:=by unfold dl;split;simp;split;simp;split;simp;split;split<;>simp;split;rw[JP];omega;simp
 generalize dl s most=r at*;obtain⟨l,Q⟩:=r;simp only at y R;generalize bs s=S at*;go_in;go_wp21;refine(I.o).mono ?_;rintro x w1 ⟨b,rfl,a3,G,B⟩;go_wp21;refine(M.o _ _ _ G).mono ?_;rintro x a2 ⟨v,rfl,⟨A,cap,rfl,D⟩,an⟩;have aa:Below w w a2:=B.trans (an.toBelow' B.size (λj a7 e=>Jm));simp only at D;have E:=J D;clear D an B G;go_wp2;go_loop [9,20] (λ_ i=>∃k:Nat,k<=l/\i=k/\Hid (∀v∈l.take k,0<=v)) (λ_ i=>(l.length-intOf i).toNat);exact⟨0,O,rfl,J (by simp)⟩;obtain⟨k,a8,rfl,ao⟩:=hrel;by_cases ab:k<l
 .obtain⟨v,q⟩:=ay (l.getD k 0);have p:l[k]=v:=(by rw[<-q];simp[List.getD,ab]);obtain⟨a5,b0,a0,a6,b1⟩:=E.o.get k (.int .i64 v) (by rw[XS _ _ ab,q]);subst a0;by_cases a4:v<0;.have F:¬∀u∈l,0<=u:=λh=>(by have:=h v (p▸dr _);omega);have t:Hid (fq s most=([],12)):=J (by rw[y.o,az F]);clear F q p;go_wp2;go_returns;rw[t.o];exact Qn 12 aa
  have z:Hid (∀u∈l.take (k+1),0<=u):=J (by intro u hu;rw[dD ab,p] at hu;exact PN);clear q p;exact Pz
 have z:∀u∈l,0<=u:=by have:=ao.o;rwa [dU O] at this
 have t:Hid (fq s most=(l,Q)):=J (by rw[y.o,aP z]);clear z;go_wp2;go_returns;rw[t.o];exact rh.of rfl ⟨A,cap,rfl,E.o⟩ aa
end
variable{g:Nat}{r:List Nat}{w:au}
def vG (j:Nat):List Nat:=List.range j++List.replicate (4096-j) 0
theorem ZjO (j:Nat) (h:j<4096):(vG j).set j j=vG (j+1):=by unfold vG;rw[nz _ _ (by simp),rp,fv,show 4096-j=(4096-(j+1))+1 from by exact O,pS,List.set_cons_zero,vU,ey];rfl
theorem Z92 (j:Nat) (h:j<=4096):(vG j).length=4096:=by simp[vG];omega
theorem ZjN:vG 4096=r0:=by unfold vG r0;rw[fv,List.replicate_zero,fu]
theorem Kx (n:Nat):nc (List.replicate n 0)=Array.replicate n (.int .i64 0):=by apply pV.1;simp[nc]
theorem T_ (w:au):
  Calls prog 291 #[] w λx w'=>x=.returned (.slice (some (w,0)) 4096 4096)/\Bk w' w 3 (nc r0)/\Below w w w':=by
 have k:=Y4 (P:=prog) 123 3 _ _ underlying123 Y1 rfl 4096 4096 rfl O O w;rw[<-Kx] at k;have h0:List.replicate 4096 0=vG 0:=(by unfold vG;rw[List.range_zero,pX]);rw[h0] at k;go_in;go_wp2;go_loopw [2,6] (λ_ i wr=>∃j:Nat,j<=4096/\i=j/\Bk wr w 3 (nc (vG j))/\Below w w wr) (λ_ i _=>(4096-intOf i).toNat);exact⟨0,O,rfl,Bk.new _ _ _,(bi _ _).alloc aW _⟩;obtain⟨j,y,rfl,g,l⟩:=hrel;by_cases ab:j<4096;.have u:=g.cell j;rw[Xm _ _ (by rw[Z92 j y];exact ab)] at u;have D:=g.frozen j;have q:=g.put j j;rw[vg,ZjO j ab] at q;have t:=J q;have B:(j:Int)<4096:=O;go_wp2;go_roundw;exact⟨j+1,O,ck,t.o,l.setCell (p:=⟨w,j,none⟩) aW _⟩;simp[intOf]<;>omega
 have z:j=4096:=O;subst z;rw[ZjN] at g;go_wp2;go_ret;exact⟨rfl,g,l⟩
theorem Zci (h:Bk w g 3 (nc r)) (D:r.length=4096) (n:Nat) (B:n∈r):
  Calls prog 264 #[.slice (some (g,0)) 4096 4096,n] w λx w'=>x=.returned ((ix r n:Nat):Int)/\w=w':=by
 obtain⟨H,E,t⟩:=bF h B D;have G:ix r n<4096:=(by rw[<-D];exact zm.2 B);go_in;go_wp2;go_loop [5,8] (λ_ i=>∃j:Nat,j<=ix r n/\i=j) (λ_ i=>(4096-intOf i).toNat);exact CA;obtain⟨j,I,rfl⟩:=hrel;have z:=H.o.cell j;rw[Xm _ _ (by rw[t.o];omega)] at z;have M:(j:Int)<4096:=O;obtain⟨y,q⟩:=ay (r.getD j 0);have p:r[j]? =some y:=by have u:j<r:=(by rw[t.o];omega);rw[fD u,<-q];simp[List.getD,u]
 rw[q] at z;by_cases ab:j<ix r n
 .have F:((n:Int)==y)=false:=by rw[lN];intro e;have:n=y:=O;exact Zet j ab (this▸p)
  go_wp2;go_round;exact⟨j+1,O,ck⟩;simp[intOf]<;>omega
 have l:j=ix r n:=O;have F:((n:Int)==y)=true:=by rw[beq_iff_eq];have:=ix_get? E.o;rw[<-l,p] at this;injection this with this;omega
 have k:=J l;clear q p l;go_wp2;go_ret;exact⟨ZY (by rw[k.o]),rfl⟩
theorem Zbv (h:Bk w g 3 (nc r)) (l:r.length=4096) (n:Nat) (k:n∈r):
  Calls prog 263 #[.slice (some (g,0)) 4096 4096,n] w λx w'=>x=.returned (.tuple #[((ix r n:Nat):Int),((ix r n:Nat):Int)])/\w=w':=by have H:=J (Zci h l n k);go_in;go_wp21;refine cq H.o ?_;go_wp2;go_ret2;exact⟨rfl,rfl⟩
theorem Z7L (h:Bk w g 3 (nc r)) (p:r.length=4096) (n:Nat) (l:n<4096):
  Calls prog 265 #[.slice (some (g,0)) 4096 4096,n] w λx w'=>x=.returned (.tuple #[((r.getD n 0:Nat):Int),n])/\w=w':=by have k:=h.cell n;rw[Xm _ _ (by rw[p];exact l)] at k;have t:(n:Int)<4096:=O;obtain⟨y,q⟩:=ay (r.getD n 0);rw[q] at k⊢;go_in;go_wp2;go_ret2;exact⟨rfl,rfl⟩
end Go.Proofs.Y
namespace Wv
open Go Go.RowKit
theorem Zed {S:Nat->Prop} {a w:au} {g:Nat} (h:Fr S a w) (p:S g) (l:Array aJ):Fr S a (w.setRow g l):=
 h.trans ⟨rfl,rfl,rfl,by simp[World.setRow],λk t q=>setRow_other w g k l (λe=>q (e▸p))⟩
end Wv
namespace Go.Proofs.Y
open Wv Go.RowKit
variable{A:bS}{g:Nat}{r:List Nat}{w:au}
theorem ZbK (r:List Nat) (h:0<r.length):Xz r 0=r:=by
 unfold Xz;match r with
 |a::t=>rfl
theorem ZeN (r:List Nat) (p:Nat) (h:p<r):(r.take 1++r.take p++r.drop (1+p)).set 0 (r.getD p 0)=Xz r p:=by
 unfold Xz;match r,h with
 |a::t,h=>rw[List.eraseIdx_eq_take_drop_succ,II 1 p];rfl
theorem Lw (t:List Nat):(nc t).toList=t.map (λn:Nat=>(Value.int .i64 (n:Int))):=by simp[nc]
theorem Zpm:(prog.info? 3).map (·.size)=some 1:=qH
theorem ZeM (h:Bk w g 3 (nc r)) (q:r.length=4096):
  Calls prog 292 #[.slice (some (g,0)) 4096 4096,(0:Int)] w λx w'=>x=.returned (.slice (some (g,0)) 4096 4096)/\Bk w' g 3 (nc (Xz r 0))/\Fr (only g) w w':=by
 have l:=h.cell 0;rw[Xm _ _ (by rw[q];omega)] at l;have D:=h.frozen 0;have k:=h.put 0 (.int .i64 ((r.getD 0 0:Nat):Int))
 have z:r.set 0 (r.getD 0 0)=Xz r 0:=by
  rw[ZbK r O];match r,q with
  |a::t,_=>rfl
 rw[vg,z] at k;obtain⟨y,B⟩:=ay (r.getD 0 0);have F:IntKind.i64.wrap 1=1:=lP;rw[B] at l k;have E:=run_copy_none (P:=prog) w.drew 123 123 3 3 (some ⟨g,0,none⟩) (some ⟨g,0,none⟩) 0 0 0 0 underlying123 Zpm rfl;have u:=J k;go_in;go_wp2;go_region;go_wp2;go_ret;exact⟨rfl,by have:=u.o.drew;exact this,((Fr.refl (only g) w).setCell (p:=⟨g,0,none⟩) (.inl rfl) _).drew⟩
theorem Zje {w : au} {g : Nat} {r : List Nat} (h : Bk w g 3 (nc r)) (R : r.length = 4096) (p : Nat) (a8 : p < 4096) (b1 : 0 < p) :
    Calls prog 292 #[.slice (some (g,0)) 4096 4096,p] w λx w'=>x=.returned (.slice (some (g,0)) 4096 4096)/\Bk w' g 3 (nc (Xz r p))/\Fr (only g) w w':=by
  have D:=h.cell p;rw[Xm _ _ (by rw[R];omega)] at D;have a6:(p:Int)<4096:=O;have a7:IntKind.i64.wrap ((p:Int)+1)=(p:Int)+1:=lP;have b2:(1:Int)<=p:=O;have Q:(p:Int)+1<=4096:=O;have b0:(0:Int)<=p+1:=O;have a3:max ((p:Int)+1) 0=(p:Int)+1:=O;have b3:(1:Int)<=p+1:=O;have a4:((p:Int)+1).toNat=p+1:=O;have a9:¬p=0:=O;have E:(0:Int)<=p:=O;have a1:(p:Int)<=4096:=O;have u := run_copy_row (P := prog) w.drew 123 123 3 3 g 1 p p ⟨g, 0, none⟩ p p (nc r) 3 ((r.take p).map (λn : Nat => (Value.int .i64 (n : Int)))) underlying123 Zpm h (by simp; omega) (λj v k => by rw[Go.WideShapes.add_plain,jW];have h1:=h.cell j;show w.cell? _=_;rw[h1,<-Array.getElem?_toList,Lw];rw[Ce,List.getElem?_take] at k;split at k;exact k;cases k) (by simp[nc];omega) (λv k=>by obtain⟨n,_,rfl⟩:=iV.1 k;rfl);obtain⟨C,B⟩:=ay (((nc r).toList.take 1++(r.take p).map (λn:Nat=>(Value.int .i64 (n:Int)))++(nc r).toList.drop (1+((r.take p).map (λn:Nat=>(Value.int .i64 (n:Int)))).length)).toArray);rw[B] at u;have t:C=nc (r.take 1++r.take p++r.drop (1+p)):=by rw[<-B];apply pV.1;rw[Lw,Lw,dc,eC,show min p r.length=p from by exact O];simp[Ce,List.map_drop]
  have q:Bk (w.drew.setRow g C) g 3 C:=setRow_heap w.drew g _ C _ (0,0) h;have M:Fr (only g) w (w.drew.setRow g C):=Zed ((Fr.refl (only g) w).drew) rfl C;generalize w.drew.setRow g C=W at*;obtain⟨y,S⟩:=ay (r.getD p 0);rw[t] at q;have z:=q.put 0 y;have F:=ZeN r p O;rw[S] at F D;rw[vg,F] at z;obtain⟨G,a5⟩:∃G:Int,W.cell? ⟨g,0,none⟩=G:=⟨_,by rw[q.cell,Xm _ _ (by rw[bT,bT,eC];omega)]⟩;have a2:=q.frozen 0;have l:(goInt ((r.take p).map (λn:Nat=>(Value.int .i64 (n:Int)))))=.int .i64 (p:Int):=by rw[dc,eC,show min p r.length=p from by exact O];rfl
  rw[l] at u;have I:=J z;have a0:=J M;go_in;go_wp2;go_region;go_wp2;go_ret;exact⟨rfl,I.o,a0.o.setCell (p:=⟨g,0,none⟩) (.inl rfl) _⟩
theorem Ws (h:Bk w g 3 (nc r)) (k:r.length=4096) (p:Nat) (l:p<4096):
  dt 292 #[.slice (some (g,0)) 4096 4096,p] w λx w'=>x=.returned (.slice (some (g,0)) 4096 4096)/\Bk w' g 3 (nc (Xz r p))/\Fr (only g) w w':=by rcases qB p with rfl|h0;exact ZeM h k;exact Zje h k p l h0
def vF:List Nat->List Nat->List Nat
 |r,[]=>r
 |r,n::t=>vF (Xz r (ix r n)) t
def wI:List Nat->List Nat->List Nat
 |r,[]=>r
 |r,n::t=>wI (Xz r n) t
theorem Z8A (l:List Nat) (n:Nat):∀r,Yn r (l++[n])=Yn r l++[ix (vF r l) n]/\vF r (l++[n])=Xz (vF r l) (ix (vF r l) n):=by
 induction l with
 |nil=>intro r;exact⟨rfl,rfl⟩
 |cons a l ih=>intro r;obtain⟨h1,g⟩:=ih (Xz r (ix r a));exact⟨by rw[ju,Yn,h1];rfl,by rw[ju,vF,g];rfl⟩
theorem Z62 (l:List Nat) (n:Nat):∀r,Yb r (l++[n])=Yb r l++[(wI r l).getD n 0]/\wI r (l++[n])=Xz (wI r l) n:=by
 induction l with
 |nil=>intro r;exact⟨rfl,rfl⟩
 |cons a l ih=>intro r;obtain⟨h1,g⟩:=ih (Xz r a);exact⟨by rw[ju,Yb,h1];rfl,by rw[ju,wI,g];rfl⟩
theorem Znt (l:List Nat):∀r,(∀n∈l,n∈r)->(vF r l).length=r.length/\∀m,m∈r->m∈vF r l:=by
 induction l with
 |nil=>intro r _;exact⟨rfl,λm h=>h⟩
 |cons a l ih=>intro r h;have h1:=zm.2 (h a fm);obtain⟨a1,a2⟩:=ih (Xz r (ix r a)) (λn k=>Gf h1 (h n (gN _ k)));exact⟨a1.trans (XF h1),λm g=>a2 m (Gf h1 g)⟩
theorem Znu (l:List Nat):∀r,(∀n∈l,n<r.length)->(wI r l).length=r.length:=by
 induction l with
 |nil=>intro r _;rfl
 |cons a l ih=>intro r h;have h1:=h a fm;exact(ih (Xz r a) (λn g=>by rw[XF h1];exact h n (gN _ g))).trans (XF h1)
theorem Wt (L:List Nat) (n v:Nat) (h:L<n):(L++List.replicate (n-L.length) 0).set L v=(L++[v])++List.replicate (n-(L.length+1)) 0:=IV
theorem Zl4 (l:List Nat):(nc l).toList=bQ (l.map Int.ofNat):=by simp[nc,bQ,iv]
theorem SQ (l:List Nat) (k:Nat) (h:k<l):l.take (k+1)=l.take k++[l.getD k 0]:=by rw[dD h];simp[List.getD,h]
def vL (w:au) (x:Ending) (w':au) (r:List Nat×Nat):Prop:=∃v,x=.returned (.tuple #[v,r.2])/\h' w' v (r.1.map Int.ofNat)/\Below w w w'
theorem JC {w':au} (e:Nat) (hb:Below w w w'):vL w (.returned (.tuple #[.slice none 0 0,e])) w' ([],e):=⟨_,rfl,h'.nil _,hb⟩
theorem Z41 {l:List Int} (M:At w A (bQ l)) (n cap:Nat) (F:n=l) (a1:n<=9223372036854775807) (hb:lm l≠0):
  Calls prog 262 #[(A,n,cap),.func (.func 263) #[] #[]] w λx w'=>vL w x w' ([],lm l):=Np
theorem Z5a {l:List Nat} (d4:At w A (bQ (l.map Int.ofNat))) (n cap:Nat) (d5:n=l) (e9:l.length<=4096) (d6:∀v∈l,v<4096):
  Calls prog 262 #[(A,n,cap),.func (.func 263) #[] #[]] w λx w'=>vL w x w' (Yn r0 l,0):=by obtain⟨Ha,Q,B⟩:=bF d4 d5 d6;have f7:n<=4096:=O;have f6:¬(4096:Int)<n:=O;obtain⟨f2,d8,e3⟩:=bF (T_ w) (λ(v:Nat) (h:v<4096)=>show v∈r0 from List.mem_range.2 h) (show r0.length=4096 from rp);clear d4 d5 d6 e9;go_in;go_wp2;go_loop [7,19] (λ_ i=>∃k:Nat,k<=n/\i=k) (λ_ i=>(n-intOf i).toNat);exact CA;obtain⟨k,g2,rfl⟩:=hrel;by_cases ab:k<n;exact NZ;have e7:k=n:=O;subst e7;go_wp21;refine aO f2.o λw1 ⟨c5,c3⟩=>?_;have e5:=c3.size;have c8:=Y4 (P:=prog) 123 3 _ _ underlying123 Y1 rfl (k:Int) k rfl O O w1;rw[<-Kx] at c8;have d3:=Ha.o.below c3;have f9:=c5.lt;have c7:=c5.alloc (.cells (nc (List.replicate k 0)) 3);have aa:=c3.alloc e5 (.cells (nc (List.replicate k 0)) 3);have d7:=d3.alloc (.cells (nc (List.replicate k 0)) 3);have c9:=Bk.new w1 3 (nc (List.replicate k 0));have M:=J (show w.heap.size<w1/\w≠w1.heap.size from⟨O,O⟩);clear c5 c3 d3;go_wp2;go_loopw [8,10,11,12,13,36] (λf4 _ _ _ _ i wr=>∃j:Nat,j<=k/\i=j/\f4=.slice (some (w,0)) 4096 4096/\Bk wr w 3 (nc (vF r0 (l.take j)))/\Bk wr w1 3 (nc (Yn r0 (l.take j)++List.replicate (k-j) 0))/\At wr A (bQ (l.map Int.ofNat))/\Below w w wr) (λ_ _ _ _ _ i _=>(k-intOf i).toNat);exact⟨0,O,rfl,rfl,c7,c9,d7,aa⟩;clear c7 c9 d7 aa c8;obtain⟨j,g1,rfl,rfl,F,g,I,E⟩:=hrel;have a7:∀m∈l.take j,m<4096:=λm c6=>B.o m (Aj c6);by_cases e8:j<k;have a8:j<l:=(by rw[<-Q.o];exact e8);obtain⟨v,q⟩:=ay (l.getD j 0);have a5:v<4096:=Px;obtain⟨g0,g4,S,y,b0⟩:=I.get j (v:Int) O';subst S;obtain⟨D,a3⟩:=Z8A (l.take j) v r0;rw[<-q,<-SQ l j a8,q] at D a3;have G:=X3 (l.take j) r0;rw[eC,Nat.min_eq_left O] at G;obtain⟨e4,e2⟩:=Znt (l.take j) r0 (λm c6=>d8.o m (a7 m c6));have a1:=e4.trans e3.o;have a9:=e2 v (d8.o v a5);obtain⟨R,t⟩:=ay (vF r0 (l.take j));obtain⟨b9,z⟩:=ay (Yn r0 (l.take j));rw[t] at D a3 F a1 a9;rw[z] at D g G;have b7:=J (Zbv F a1 v a9);have d2:ix R v<4096:=(by rw[<-a1];exact zm.2 a9);obtain⟨c4,d9⟩:=ay (ix R v);rw[d9] at D a3 b7 d2;clear d9;obtain⟨b6,b8,g3⟩:=bF D a3 F;have a6:=Wt b9 k c4 O;rw[G] at a6;have e6:=J a6;have a4:=g.put j (.int .i64 ((c4:Nat):Int));rw[vg,e6.o] at a4;have b5:(b9++List.replicate (k-j) 0).length=k:=Cu;obtain⟨e1,f8⟩:∃e1:Int,wr.cell? (w1,j)=e1:=⟨_,by rw[g.cell,Xm _ _ O]⟩;have f5:=g.frozen j;have b1:=F.off (p:=⟨w1,j,none⟩) (M.o.2) (.int .i64 ((c4:Nat):Int));have b4:=E.setCell (p:=⟨w1,j,none⟩) (IJ M.o.1) (.int .i64 ((c4:Nat):Int));obtain⟨b2,a0,a2⟩:=bF (Ws b1 a1 c4 (by exact d2)) a4 b4;exact N7;have f3:j=k:=O;subst f3;have u:l.take j=l:=dU (by rw[<-Q.o];exact aW);rw[u,fv,List.replicate_zero,fu] at g;have b3:=J g.at_;have G:=J (X3 l r0);exact NW
