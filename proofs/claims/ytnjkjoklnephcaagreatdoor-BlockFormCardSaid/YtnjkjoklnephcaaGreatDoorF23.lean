import Derived.Test.YtnjkjoklnephcaaGreatDoorF16
import Derived.Test.YtnjkjoklnephcaaGreatDoorF22
set_option linter.all false
set_option maxRecDepth 100000
set_option maxHeartbeats 0
section
variable{P Q:Prop}
theorem Jh(h:P:=by have a3:=q;go_wp2;go_returns;exact⟨rfl,a3.o⟩):P:=h
theorem P9(h:P:=by simp[results,results222,go_sem,g,l,t];try rfl):P:=h
theorem EM(h:P:=by rcases h with ⟨h,_⟩|⟨_,_,b,h1,L⟩;omega;exact⟨b,h1,L⟩):P:=h
theorem tO(h:P:=by clear Q z G;go_wp2;go_returns;exact⟨Z4 (by rw[k.o];rfl),q.o⟩):P:=h
theorem P0(h:P:=by generalize bs v=S at*;go_in;go_wp2;go_returns;exact⟨Z4 g.o,bf _ _⟩):P:=h
theorem Fl(h:P:=by go_in;go_wp21;refine aP H.o λw1 z=>?_;go_wp2;go_returns;exact⟨rfl,z⟩):P:=h
theorem oC(h:P:=by clear Q z G;go_wp21;refine ij (g.o _ (d9.o.below q.o)) q λw2 a3=>?_;go_wp2;go_returns;exact⟨Z4 (by rw[k.o];rfl),a3.o⟩):P:=h
theorem Sd(h:P:=by go_in;go_wp21;refine(g.o).mono ?_;rintro x w1 ⟨kc,rfl,Q,z⟩;have:=Z' Q t.o;subst this;have q:=J (z.alloc z.size (.cells m' 151));unfold m' at*;clear Q z;go_wp2;go_returns;exact⟨rfl,q.o⟩):P:=h
theorem Nn(h:P:=by go_in;go_wp21;refine(g.o).mono ?_;rintro x w1 ⟨kc,rfl,Q,z⟩;obtain⟨b,rfl,G⟩:=H7 Q;have q:=J (z.alloc z.size (.cells #[(1:Int),(128:Int),.func (.func 173) #[] #[],.func (.func 174) #[] #[],.func (.func 175) #[] #[],.func (.func 176) #[] #[],.string ⟨#[98]⟩] 151));clear Q z G;go_wp2;go_returns;exact⟨rfl,q.o⟩):P:=h
theorem MW(h:P:=by go_in;go_wp21;refine(g.o).mono ?_;rintro x w1 ⟨kc,rfl,Q,z⟩;obtain⟨b,rfl,G⟩:=H' Q;have q:=J (z.alloc z.size (.cells #[(0:Int),(0:Int),.func (.func 187) #[] #[],.func (.func 223) #[] #[.pointer (some ⟨b,0,none⟩)],.func (.func 188) #[] #[],.func (.func 189) #[] #[],.string ⟨#[]⟩] 151));clear Q z G;go_wp2;go_returns;exact⟨rfl,q.o⟩):P:=h
theorem Lm(h:P:=by go_in;go_wp21;refine(g.o).mono ?_;rintro x w1 ⟨kc,rfl,Q,z⟩;obtain⟨b,rfl,G⟩:=H8 Q;have q:=J (z.alloc z.size (.cells #[(0:Int),(0:Int),.func (.func 177) #[] #[],.func (.func 223) #[] #[.pointer (some ⟨b,0,none⟩)],.func (.func 180) #[] #[],.func (.func 182) #[] #[],.string ⟨#[114]⟩] 151));clear Q z G;go_wp2;go_returns;exact⟨rfl,q.o⟩):P:=h
theorem Mi(h:P:=by go_in;go_wp21;refine(g.o).mono ?_;rintro x w1 ⟨kc,rfl,Q,z⟩;obtain⟨b,rfl,G⟩:=H9 Q;have q:=J (z.alloc z.size (.cells #[(0:Int),(0:Int),.func (.func 183) #[] #[],.func (.func 223) #[] #[.pointer (some ⟨b,0,none⟩)],.func (.func 184) #[] #[],.func (.func 186) #[] #[],.string ⟨#[115]⟩] 151));clear Q z G;go_wp2;go_returns;exact⟨rfl,q.o⟩):P:=h
end
namespace Go.Proofs.Y
open Tryz Wv Go.RowKit
theorem ZpU {a b:aT} :(a.toList==b.toList)=decide (a=b):=by rw[lN,beq_iff_eq,fq,ByteArray.toList_eq,ByteArray.toList_eq];constructor;intro h;apply xc;apply pS.1;exact h;intro h;rw[h]
theorem ZhH (s:ax):tj s=match (qq kP s).map Xw with
  |none=>none
  |some n=>if Xs n=(s,0) then some n else none:=by
 unfold tj;match qq kP s with
 |none=>rfl
 |some m=>rfl
theorem ZbK (s:aT) {w:aq} (e3:gl w):
  Calls prog 222 #[s] w λx w'=>DL w w' (tj (aH s)) x:=by
 have q:=J (λW=>Zfj s W);have c8:=J e3;have hd:=ZhH (aH s);obtain⟨R,e1⟩:=ay (tj (aH s));rw[e1] at hd⊢;have d3:=(bf w w).alloc aU (.cells #[false,.slice none 0 0,(0:Int)] 301);have d5:=Bk.new w 301 #[false,.slice none 0 0,(0:Int)];have D:=J d3;have E:=J d5;rcases b6:(qq kP (aH s)).map Xw with _|n;.rw[b6] at q hd;simp only at hd;subst hd;go_in;go_wp21;refine((q.o _).mono ?_);rintro x w1 ⟨v,b,rfl,hb,⟨b1,a9,c3,b9,e0,rfl⟩,rfl⟩;have d:=E.o.below hb E.o.lt;have r0:=d.cell 0;have a6:=d.cell 1;have a7:=d.cell 2;have d7:=d.frozen 0;have d8:=d.frozen 1;have d9:=d.frozen 2;have ab:=d.lt;simp at r0 a6 a7;have d2:=J (D.o.trans (hb.mono D.o.size));obtain⟨u,B,g,l,t,G,k⟩:=AU d d2.o aU (L:=[]) (At.nil _ none) false (.slice none 0 0) 0;have M:=J B;have z:=(bf u u).alloc aU (.cells #[b1,(a9,c3,b9),e0] 301);have c5:=YL g z;have c6:=YL l z;have c7:=YL t z;have F:=J (k.trans (z.mono k.size));obtain⟨f2,a0⟩:=ay (u.alloc (.cells #[b1,(a9,c3,b9),e0] 301));rw[a0] at c5 c6 c7 F;have Q:=J a0;clear hb d B G k z g l t a0;go_wp2;rw[M.o,Q.o];refine bodyPost_ret (by simp[results,results222,go_sem,c5,c6,c7];try rfl) rfl ?_;exact⟨_,_,rfl,F.o,⟨_,_,_,_,_,rfl⟩,rfl⟩
 rw[b6] at q hd;simp only at hd;go_in;go_wp21;refine((q.o _).mono ?_);rintro x w1 ⟨v,b,rfl,hb,_,rfl,e2,b7⟩;have d:=E.o.below hb E.o.lt;have b3:=D.o.trans (hb.mono D.o.size);obtain⟨A,cap,rfl,a1,a2,a3⟩:=e2;obtain⟨bn,dn,en⟩:=n;simp only at a1 a2 a3;have c4:=b3.alloc b3.size (.cells #[bn,(A,dn.length,cap),en] 301);have e7:NV (w1.alloc (.cells #[bn,(A,dn.length,cap),en] 301)) (.agg #[bn,(A,dn.length,cap),en]) ⟨bn,dn,en⟩:=⟨A,cap,rfl,a1.alloc _,a2,a3⟩;have b8:=J (Zfl e7 b7 (c8.o.below c4));have d4:=d.alloc (.cells #[bn,(A,dn.length,cap),en] 301);have d6:=Bk.new w1 301 #[bn,(A,dn.length,cap),en];have ab:=d.lt;obtain⟨gk,a8,S,b2,e4,e5⟩:=fA d4 d6 c4 a1 a2 a3;have c9:=J b7;have Hd:=J hd;go_wp21;refine aP b8.o λf4 y=>?_;have j:=gk.o.below y gk.o.lt;have I:=a8.o.below y a8.o.lt;have an:=S.o.trans (y.mono S.o.size);have e6:=I.cell 0;have n1:=I.cell 1;have n2:=I.cell 2;have r0:=j.cell 0;have a6:=j.cell 1;have a7:=j.cell 2;have d7:=j.frozen 0;have d8:=j.frozen 1;have d9:=j.frozen 2;simp at e6 n1 n2 r0 a6 a7;have b4:=(b2.o.alloc (.cells #[bn,(A,dn.length,cap),en] 301)).below y;obtain⟨u,B,g,l,t,G,k⟩:=AU j an aU b4 bn (.slice A dn cap) en;obtain⟨M,e8,F⟩:=bD B G k;obtain⟨T,e,a4⟩:∃T e,Xs ⟨bn,dn,en⟩=(T,e):=⟨_,_,rfl⟩;have hd:=Hd.o;rw[a4] at hd;rw[a4];have d1:=J (@ZpU (bs T) s);clear y j I an B G k b4 Hd b8 b2 gk a8 S q a4;have a5:Hid (DL w u R (.returned (.tuple #[.agg #[bn,(A,dn.length,cap),en],decide ((T,e)=(aH s,0))]))):=J (by refine⟨_,_,rfl,F.o,⟨_,_,_,_,_,rfl⟩,?_⟩;by_cases p:(T,e)=(aH s,0);rw[hd,Vag p];exact⟨by simpa using p,⟨A,cap,rfl,e8.o,e4.o,e5.o⟩,c9.o⟩;rw[hd,aD p];simpa using p);by_cases b5:e=0
 .subst b5;go_wp2;rw[M.o];refine bodyPost_ret P9 rfl ?_;have p:((bs T).toList==s.toList)=decide ((T,0)=(aH s,0)):=by rw[d1.o,lN,fq,fq,Prod.mk.injEq];constructor;intro h;exact⟨by rw[<-h];rfl,rfl⟩;intro h;rw[h.1];rfl
  rw[p];exact a5.o
 have f3:((e:Int)==0)=false:=oe;have e9:decide ((T,e)=(aH s,0))=false:=by rw[Vbp,Prod.mk.injEq];exact λh=>b5 h.2
 rw[e9] at a5;go_wp2;rw[M.o];refine bodyPost_ret P9 rfl ?_;exact a5.o
def MZ (w w':aq) (o:Option gL) (x:Ending):Prop:=∃d A l c e,x=.returned (.tuple #[.agg #[.bool d,.slice A l c,.int .i64 e],o.isSome])/\Below w w w'/\∀n,o=some n->NV w' (.agg #[.bool d,.slice A l c,.int .i64 e]) n
theorem cres {w w':aq} {o:Option gL} {x:Ending} (h:DL w w' o x):MZ w w' o x:=by
 obtain⟨v,b,rfl,hb,⟨d,A,l,c,e,rfl⟩,hm⟩:=h;match o,hm with
 |none,hm=>subst hm;exact⟨d,A,l,c,e,rfl,hb,λn h=>po⟩
 |some m,hm=>obtain⟨rfl,g,j⟩:=hm;exact⟨d,A,l,c,e,rfl,hb,λn h=>by injection h with h;subst h;exact g⟩
theorem pcan (s:aT) {w:aq} (d:gl w):cK 222 #[s] w λx w'=>MZ w w' (tj (aH s)) x:=(ZbK s d).mono λx w' h=>cres h
theorem ZbT (s:aT) {w:aq} (d:gl w):
  Calls prog 178 #[s] w (bM w (Z3 (aH s))):=by have k:=J (pcan s d);have g:(tj (aH s)).isSome=Z3 (aH s):=rfl;clear d;generalize tj (aH s)=o at*;have p:=J g;clear g;go_in;go_wp21;refine(k.o).mono ?_;rintro x w1 ⟨q,A,l,c,e,rfl,hb,_⟩;have j:=J (hb.alloc hb.size (.cells #[q,(A,l,c),e] 301));clear hb;go_wp2;go_returns;exact⟨ZfM p.o,j.o⟩
variable{n:Int}{w:aq}
theorem Z' {kc:Array aI} (h:tK w n kc) (d:n<0\/4<=n):kc=m':=by rcases h with ⟨_,h⟩|⟨h0,h1,_⟩;exact h;omega
theorem H7 {kc:Array aI} (h:tK w 0 kc):∃b,kc= #[.int .i64 1,.int .i64 128,.func (.func 173) #[] #[],.func (.func 174) #[] #[],.func (.func 175) #[] #[],.func (.func 176) #[] #[],.string ⟨#[98]⟩]/\Bk w b 9 #[.string ⟨#[]⟩]:=EM
theorem H8 {kc:Array aI} (h:tK w 1 kc):∃b,kc= #[.int .i64 0,.int .i64 0,.func (.func 177) #[] #[],.func (.func 223) #[] #[.pointer (some ⟨b,0,none⟩)],.func (.func 180) #[] #[],.func (.func 182) #[] #[],.string ⟨#[114]⟩]/\Bk w b 9 #[.string ⟨#[48]⟩]:=EM
theorem H9 {kc:Array aI} (h:tK w 2 kc):∃b,kc= #[.int .i64 0,.int .i64 0,.func (.func 183) #[] #[],.func (.func 223) #[] #[.pointer (some ⟨b,0,none⟩)],.func (.func 184) #[] #[],.func (.func 186) #[] #[],.string ⟨#[115]⟩]/\Bk w b 9 #[.string ⟨#[]⟩]:=EM
theorem H' {kc:Array aI} (h:tK w 3 kc):∃b,kc= #[.int .i64 0,.int .i64 0,.func (.func 187) #[] #[],.func (.func 223) #[] #[.pointer (some ⟨b,0,none⟩)],.func (.func 188) #[] #[],.func (.func 189) #[] #[],.string ⟨#[]⟩]/\Bk w b 9 #[.string ⟨#[]⟩]:=EM
theorem Zb0 (W:Int) (v:ax) (q:v.length<=1099511627776) (w:aq):
  Calls prog 173 #[W,bs v] w (bM w (vld W v)):=by
 have g:=J (xz v q w);have j:(bs v).size=v:=Z0 v;have d:vld W v=(fs v&&decide ((v.length:Int)=W)):=rfl;cases hi:fs v;.rw[hi] at g d;have l:=J d;clear j d hi;generalize bs v=S at*;go_in;go_wp21;refine aP g.o λw1 k=>?_;go_wp2;go_returns;exact⟨Z4 (by rw[l.o];rfl),k⟩
 rw[hi] at g d;have l:=J d;have p:Hid ((((bs v).size:Int)==W)=vld W v):=J (by rw[d,j,Bool.true_and,lN,beq_iff_eq,fq]);clear j d hi;generalize bs v=S at*;go_in;go_wp21;refine aP g.o λw1 k=>?_;go_wp2;go_returns;exact⟨Z4 p.o,k⟩
theorem Zpe (n:Int) (w:aq):
  Calls prog 174 #[n] w (bM w (bs (mr n 120))):=by have H:=J (GH n 120 w);rw[show((120:cj).toNat:Int)=120 from rfl] at H;generalize bs (mr n 120)=S at*;exact Fl
theorem Zpf (n:Int) (v:ax) (d:gl w):
  Calls prog 177 #[n,bs v] w (bM w (Z3 v)):=by have H:=J (ZbT (bs v) d);rw[Zm] at H;clear d;generalize bs v=S at*;exact Fl
theorem Zpg (n:Int) (v:ax) (w:aq):
  Calls prog 183 #[n,bs v] w (bM w (decide (v.length<=64))):=by have d:(bs v).size=v:=Z0 v;have g:Hid (decide (((bs v).size:Int)<=64)=decide (v.length<=64)):=J (by rw[d];simp only[decide_eq_decide];omega);clear d;exact P0
theorem Zph (n:Int) (v:ax) (w:aq):
  Calls prog 187 #[n,bs v] w (bM w (decide (v=[]))):=by have g:=J (YU v);exact P0
theorem Kq (n:Int) (b:Nat) (s:aT) (h:Bk w b 9 #[s]):
  Calls prog 223 #[n,(b,0)] w λx w'=>x=.returned s/\w=w':=by have c0:w.cell? (b,0)=s:=h.cell 0;clear h;exact xf
theorem Uo (n wd:Int) (w:aq):
  Calls prog 87 #[n,wd] w (bM w (dS (n,wd))):=by have g:=J (Me n wd w);generalize dS (n,wd)=B at*;by_cases d:n<0\/4<=n;have t:=J d;clear d;exact Sd;have j:n=0\/n=1\/n=2\/n=3:=O;rcases j with rfl|rfl|rfl|rfl;clear d;exact Nn;clear d;exact Lm;clear d;exact Mi;clear d;exact MW
theorem Sp (n wd:Int) (v:ax) (y:v.length<=1099511627776) (t:gl w):
  Calls prog 57 #[n,wd,bs v] w (bM w (fO Z3 (n,wd) v)):=by
 have l:=J (Me n wd w);have d:fO Z3 (n,wd) v=(dS (n,wd)&&sD Z3 n wd v):=rfl;by_cases u:n<0\/4<=n;.have j:=Mq (wd:=wd) u;have D:=J u;rw[j] at l d;have k:=J d;clear u j d;generalize bs v=S at*;go_in;go_wp21;refine(l.o).mono ?_;rintro x w1 ⟨kc,rfl,Q,z⟩;have:=Z' Q D.o;subst this;have q:=J (z.alloc z.size (.cells m' 151));unfold m' at*;clear Q z;go_wp2;go_returns;exact⟨Z4 (by rw[k.o];rfl),q.o⟩
 have E:n=0\/n=1\/n=2\/n=3:=O;rcases E with rfl|rfl|rfl|rfl
 .clear u;have d9:=J t;have g:=J (λ(W:aq) (B:gl W)=>Zb0 wd v y W);have p:sD Z3 0 wd v=vld wd v:=rfl;rw[p] at d;clear p t;generalize vld wd v=R at*;clear y;generalize bs v=S at*;cases j:dS (0,wd);.rw[j] at l d;have k:=J d;clear j d;go_in;go_wp21;refine(l.o).mono ?_;rintro x w1 ⟨kc,rfl,Q,z⟩;obtain⟨b,rfl,G⟩:=H7 Q;have q:=J (z.alloc z.size (.cells #[(1:Int),(128:Int),.func (.func 173) #[] #[],.func (.func 174) #[] #[],.func (.func 175) #[] #[],.func (.func 176) #[] #[],.string ⟨#[98]⟩] 151));exact tO
  rw[j] at l d;have k:=J d;clear j d;go_in;go_wp21;refine(l.o).mono ?_;rintro x w1 ⟨kc,rfl,Q,z⟩;obtain⟨b,rfl,G⟩:=H7 Q;have q:=J (z.alloc z.size (.cells #[(1:Int),(128:Int),.func (.func 173) #[] #[],.func (.func 174) #[] #[],.func (.func 175) #[] #[],.func (.func 176) #[] #[],.string ⟨#[98]⟩] 151));exact oC
 .clear u;have d9:=J t;have g:=J (λ(W:aq) (B:gl W)=>Zpf wd v B);have p:sD Z3 1 wd v=Z3 v:=rfl;rw[p] at d;clear p t;generalize Z3 v=R at*;clear y;generalize bs v=S at*;cases j:dS (1,wd);.rw[j] at l d;have k:=J d;clear j d;go_in;go_wp21;refine(l.o).mono ?_;rintro x w1 ⟨kc,rfl,Q,z⟩;obtain⟨b,rfl,G⟩:=H8 Q;have q:=J (z.alloc z.size (.cells #[(0:Int),(0:Int),.func (.func 177) #[] #[],.func (.func 223) #[] #[.pointer (some ⟨b,0,none⟩)],.func (.func 180) #[] #[],.func (.func 182) #[] #[],.string ⟨#[114]⟩] 151));exact tO
  rw[j] at l d;have k:=J d;clear j d;go_in;go_wp21;refine(l.o).mono ?_;rintro x w1 ⟨kc,rfl,Q,z⟩;obtain⟨b,rfl,G⟩:=H8 Q;have q:=J (z.alloc z.size (.cells #[(0:Int),(0:Int),.func (.func 177) #[] #[],.func (.func 223) #[] #[.pointer (some ⟨b,0,none⟩)],.func (.func 180) #[] #[],.func (.func 182) #[] #[],.string ⟨#[114]⟩] 151));exact oC
 .clear u;have d9:=J t;have g:=J (λ(W:aq) (B:gl W)=>Zpg wd v W);have p:sD Z3 2 wd v=decide (v.length<=64):=rfl;rw[p] at d;clear p t;generalize decide (v.length<=64)=R at*;clear y;generalize bs v=S at*;cases j:dS (2,wd);.rw[j] at l d;have k:=J d;clear j d;go_in;go_wp21;refine(l.o).mono ?_;rintro x w1 ⟨kc,rfl,Q,z⟩;obtain⟨b,rfl,G⟩:=H9 Q;have q:=J (z.alloc z.size (.cells #[(0:Int),(0:Int),.func (.func 183) #[] #[],.func (.func 223) #[] #[.pointer (some ⟨b,0,none⟩)],.func (.func 184) #[] #[],.func (.func 186) #[] #[],.string ⟨#[115]⟩] 151));exact tO
  rw[j] at l d;have k:=J d;clear j d;go_in;go_wp21;refine(l.o).mono ?_;rintro x w1 ⟨kc,rfl,Q,z⟩;obtain⟨b,rfl,G⟩:=H9 Q;have q:=J (z.alloc z.size (.cells #[(0:Int),(0:Int),.func (.func 183) #[] #[],.func (.func 223) #[] #[.pointer (some ⟨b,0,none⟩)],.func (.func 184) #[] #[],.func (.func 186) #[] #[],.string ⟨#[115]⟩] 151));exact oC
 clear u;have d9:=J t;have g:=J (λ(W:aq) (B:gl W)=>Zph wd v W);have p:sD Z3 3 wd v=decide (v=[]):=rfl;rw[p] at d;clear p t;generalize decide (v=[])=R at*;clear y;generalize bs v=S at*;cases j:dS (3,wd);.rw[j] at l d;have k:=J d;clear j d;go_in;go_wp21;refine(l.o).mono ?_;rintro x w1 ⟨kc,rfl,Q,z⟩;obtain⟨b,rfl,G⟩:=H' Q;have q:=J (z.alloc z.size (.cells #[(0:Int),(0:Int),.func (.func 187) #[] #[],.func (.func 223) #[] #[.pointer (some ⟨b,0,none⟩)],.func (.func 188) #[] #[],.func (.func 189) #[] #[],.string ⟨#[]⟩] 151));exact tO
 rw[j] at l d;have k:=J d;clear j d;go_in;go_wp21;refine(l.o).mono ?_;rintro x w1 ⟨kc,rfl,Q,z⟩;obtain⟨b,rfl,G⟩:=H' Q;have q:=J (z.alloc z.size (.cells #[(0:Int),(0:Int),.func (.func 187) #[] #[],.func (.func 223) #[] #[.pointer (some ⟨b,0,none⟩)],.func (.func 188) #[] #[],.func (.func 189) #[] #[],.string ⟨#[]⟩] 151));exact oC
theorem Zqs (h:dS (0,n)=true):mr n 120=qN (0,n):=by obtain⟨h1,d⟩:=XI h rfl;unfold mr qN;rw[aD (by rintro(h|h|h)<;>first|exact absurd h O|exact absurd h aY),Vag rfl]
theorem Zh2 (n wd:Int) (w:aq):
  Calls prog 58 #[n,wd] w (bM w (bs (if dS (n,wd) then qN (n,wd) else[]))):=by
 have g:=J (Me n wd w);by_cases j:n<0\/4<=n;have d:=Mq (wd:=wd) j;have t:=J j;rw[d] at g⊢;rw[aD aY,show bs ([]:ax)=⟨#[]⟩ from rfl];clear j d;exact Sd;have p:n=0\/n=1\/n=2\/n=3:=O;rcases p with rfl|rfl|rfl|rfl;.clear j;cases d:dS (0,wd);rw[d] at g;rw[aD aY,show bs ([]:ax)=⟨#[]⟩ from rfl];clear d;exact Nn;rw[d] at g;rw[Vag rfl];have l:=J (λW=>Zpe wd W);rw[Zqs d] at l;generalize bs (qN (0,wd))=S at*;clear d;go_in;go_wp21;refine(g.o).mono ?_;rintro x w1 ⟨kc,rfl,Q,z⟩;obtain⟨b,rfl,G⟩:=H7 Q;have q:=J (z.alloc z.size (.cells #[(1:Int),(128:Int),.func (.func 173) #[] #[],.func (.func 174) #[] #[],.func (.func 175) #[] #[],.func (.func 176) #[] #[],.string ⟨#[98]⟩] 151));have k:=J G;clear Q z G;go_wp21;refine ij (l.o _) q λu a3=>?_;go_wp2;go_returns;exact⟨rfl,a3.o⟩
 .clear j;cases d:dS (1,wd);rw[d] at g;rw[aD aY,show bs ([]:ax)=⟨#[]⟩ from rfl];clear d;exact Lm;rw[d] at g;rw[Vag rfl];rw[show bs (qN (1,wd))=⟨#[48]⟩ from rfl];clear d;go_in;go_wp21;refine(g.o).mono ?_;rintro x w1 ⟨kc,rfl,Q,z⟩;obtain⟨b,rfl,G⟩:=H8 Q;have q:=J (z.alloc z.size (.cells #[(0:Int),(0:Int),.func (.func 177) #[] #[],.func (.func 223) #[] #[.pointer (some ⟨b,0,none⟩)],.func (.func 180) #[] #[],.func (.func 182) #[] #[],.string ⟨#[114]⟩] 151));have k:=J G;clear Q z G;go_wp21;refine cp (Kq wd b _ (k.o.alloc (.cells #[(0:Int),(0:Int),.func (.func 177) #[] #[],.func (.func 223) #[] #[.pointer (some ⟨b,0,none⟩)],.func (.func 180) #[] #[],.func (.func 182) #[] #[],.string ⟨#[114]⟩] 151))) ?_;exact Jh
 .clear j;cases d:dS (2,wd);rw[d] at g;rw[aD aY,show bs ([]:ax)=⟨#[]⟩ from rfl];clear d;exact Mi;rw[d] at g;rw[Vag rfl];rw[show bs (qN (2,wd))=⟨#[]⟩ from rfl];clear d;go_in;go_wp21;refine(g.o).mono ?_;rintro x w1 ⟨kc,rfl,Q,z⟩;obtain⟨b,rfl,G⟩:=H9 Q;have q:=J (z.alloc z.size (.cells #[(0:Int),(0:Int),.func (.func 183) #[] #[],.func (.func 223) #[] #[.pointer (some ⟨b,0,none⟩)],.func (.func 184) #[] #[],.func (.func 186) #[] #[],.string ⟨#[115]⟩] 151));have k:=J G;clear Q z G;go_wp21;refine cp (Kq wd b _ (k.o.alloc (.cells #[(0:Int),(0:Int),.func (.func 183) #[] #[],.func (.func 223) #[] #[.pointer (some ⟨b,0,none⟩)],.func (.func 184) #[] #[],.func (.func 186) #[] #[],.string ⟨#[115]⟩] 151))) ?_;exact Jh
 clear j;cases d:dS (3,wd);rw[d] at g;rw[aD aY,show bs ([]:ax)=⟨#[]⟩ from rfl];clear d;exact MW;rw[d] at g;rw[Vag rfl];rw[show bs (qN (3,wd))=⟨#[]⟩ from rfl];clear d;go_in;go_wp21;refine(g.o).mono ?_;rintro x w1 ⟨kc,rfl,Q,z⟩;obtain⟨b,rfl,G⟩:=H' Q;have q:=J (z.alloc z.size (.cells #[(0:Int),(0:Int),.func (.func 187) #[] #[],.func (.func 223) #[] #[.pointer (some ⟨b,0,none⟩)],.func (.func 188) #[] #[],.func (.func 189) #[] #[],.string ⟨#[]⟩] 151));have k:=J G;clear Q z G;go_wp21;refine cp (Kq wd b _ (k.o.alloc (.cells #[(0:Int),(0:Int),.func (.func 187) #[] #[],.func (.func 223) #[] #[.pointer (some ⟨b,0,none⟩)],.func (.func 188) #[] #[],.func (.func 189) #[] #[],.string ⟨#[]⟩] 151))) ?_;exact Jh
