import Derived.Test.YtnjkjoklnephcaaGreatDoorJ16
import Derived.Test.YtnjkjoklnephcaaGreatDoorJ22
set_option linter.all false
set_option maxRecDepth 100000
set_option maxHeartbeats 0
section
variable{P Q:Prop}
theorem Jh(h:P:=by have Q:=q;go_wp2;go_returns;exact⟨rfl,Q.o⟩):P:=h
theorem P9(h:P:=by simp[results,results222,go_sem,g,l,t];try rfl):P:=h
theorem EM(h:P:=by rcases h with ⟨h,_⟩|⟨_,_,b,h1,h2⟩;omega;exact⟨b,h1,h2⟩):P:=h
theorem EL(h:P:=by clear y z G;go_wp2;go_returns;exact⟨Z4 (by rw[k.o];rfl),q.o⟩):P:=h
theorem P0(h:P:=by generalize bs v=S at*;go_in;go_wp2;go_returns;exact⟨Z4 g.o,bf _ _⟩):P:=h
theorem PV(h:P:=by go_in;go_wp21;refine aP H.o λw1 z=>?_;go_wp2;go_returns;exact⟨rfl,z⟩):P:=h
theorem EI(h:P:=by clear y z G;go_wp21;refine ij (g.o _ (d9.o.below q.o)) q λw2 Q=>?_;go_wp2;go_returns;exact⟨Z4 (by rw[k.o];rfl),Q.o⟩):P:=h
theorem NF(h:P:=by go_in;go_wp21;refine(g.o).mono ?_;rintro x w1 ⟨kc,rfl,y,z⟩;have:=Z' y t.o;subst this;have q:=J (z.alloc z.size (.cells m' 151));unfold m' at*;clear y z;go_wp2;go_returns;exact⟨rfl,q.o⟩):P:=h
theorem N5(h:P:=by go_in;go_wp21;refine(g.o).mono ?_;rintro x w1 ⟨kc,rfl,y,z⟩;obtain⟨b,rfl,G⟩:=H7 y;have q:=J (z.alloc z.size (.cells #[(1:Int),(128:Int),.func (.func 173) #[] #[],.func (.func 174) #[] #[],.func (.func 175) #[] #[],.func (.func 176) #[] #[],.string ⟨#[98]⟩] 151));clear y z G;go_wp2;go_returns;exact⟨rfl,q.o⟩):P:=h
theorem N2(h:P:=by go_in;go_wp21;refine(g.o).mono ?_;rintro x w1 ⟨kc,rfl,y,z⟩;obtain⟨b,rfl,G⟩:=H' y;have q:=J (z.alloc z.size (.cells #[(0:Int),(0:Int),.func (.func 187) #[] #[],.func (.func 223) #[] #[.pointer (some ⟨b,0,none⟩)],.func (.func 188) #[] #[],.func (.func 189) #[] #[],.string ⟨#[]⟩] 151));clear y z G;go_wp2;go_returns;exact⟨rfl,q.o⟩):P:=h
theorem N0(h:P:=by go_in;go_wp21;refine(g.o).mono ?_;rintro x w1 ⟨kc,rfl,y,z⟩;obtain⟨b,rfl,G⟩:=H8 y;have q:=J (z.alloc z.size (.cells #[(0:Int),(0:Int),.func (.func 177) #[] #[],.func (.func 223) #[] #[.pointer (some ⟨b,0,none⟩)],.func (.func 180) #[] #[],.func (.func 182) #[] #[],.string ⟨#[114]⟩] 151));clear y z G;go_wp2;go_returns;exact⟨rfl,q.o⟩):P:=h
theorem N1(h:P:=by go_in;go_wp21;refine(g.o).mono ?_;rintro x w1 ⟨kc,rfl,y,z⟩;obtain⟨b,rfl,G⟩:=H9 y;have q:=J (z.alloc z.size (.cells #[(0:Int),(0:Int),.func (.func 183) #[] #[],.func (.func 223) #[] #[.pointer (some ⟨b,0,none⟩)],.func (.func 184) #[] #[],.func (.func 186) #[] #[],.string ⟨#[115]⟩] 151));clear y z G;go_wp2;go_returns;exact⟨rfl,q.o⟩):P:=h
end
namespace Go.Proofs.Y
open Tryz Wv Go.RowKit
theorem ZpU {a b:aT} :(a.toList==b.toList)=decide (a=b):=by rw[lN,beq_iff_eq,fq,ByteArray.toList_eq,ByteArray.toList_eq];constructor;intro h;apply xc;apply pS.1;exact h;intro h;rw[h]
theorem ZhH (s:ax):tj s=match (qq kP s).map Xw with
  |none=>none
  |some n=>if Xs n=(s,0) then some n else none:=by
 unfold tj;match qq kP s with
 |none=>rfl
 |some m=>rfl
theorem ZbK (s:aT) {w:aq} (e6:gl w):
  Calls prog 222 #[s] w λx w'=>DL w w' (tj (aH s)) x:=by
 have y:=J (λW=>Zfj s W);have d2:=J e6;have hd:=ZhH (aH s);obtain⟨R,e4⟩:=ay (tj (aH s));rw[e4] at hd⊢;have d6:=(bf w w).alloc aU (.cells #[false,.slice none 0 0,(0:Int)] 301);have d8:=Bk.new w 301 #[false,.slice none 0 0,(0:Int)];have F:=J d6;have G:=J d8;rcases b9:(qq kP (aH s)).map Xw with _|n;.rw[b9] at y hd;simp only at hd;subst hd;go_in;go_wp21;refine((y.o _).mono ?_);rintro x w1 ⟨v,b,rfl,hb,⟨b5,b3,c6,c5,e0,rfl⟩,rfl⟩;have k:=G.o.below hb G.o.lt;have r0:=k.cell 0;have a8:=k.cell 1;have b1:=k.cell 2;have e1:=k.frozen 0;have e2:=k.frozen 1;have e3:=k.frozen 2;have ab:=k.lt;simp at r0 a8 b1;have d5:=J (F.o.trans (hb.mono F.o.size));obtain⟨z,E,g,l,t,M,q⟩:=AU k d5.o aU (L:=[]) (At.nil _ none) false (.slice none 0 0) 0;have S:=J E;have D:=(bf z z).alloc aU (.cells #[b5,(b3,c6,c5),e0] 301);have c8:=YL g D;have c9:=YL l D;have d1:=YL t D;have I:=J (q.trans (D.mono q.size));obtain⟨f5,a2⟩:=ay (z.alloc (.cells #[b5,(b3,c6,c5),e0] 301));rw[a2] at c8 c9 d1 I;have a0:=J a2;clear hb k E M q D g l t a2;go_wp2;rw[S.o,a0.o];refine bodyPost_ret (by simp[results,results222,go_sem,c8,c9,d1];try rfl) rfl ?_;exact⟨_,_,rfl,I.o,⟨_,_,_,_,_,rfl⟩,rfl⟩
 rw[b9] at y hd;simp only at hd;go_in;go_wp21;refine((y.o _).mono ?_);rintro x w1 ⟨v,b,rfl,hb,_,rfl,e5,c3⟩;have k:=G.o.below hb G.o.lt;have b4:=F.o.trans (hb.mono F.o.size);obtain⟨A,cap,rfl,a3,a4,a5⟩:=e5;obtain⟨bn,dn,en⟩:=n;simp only at a3 a4 a5;have c7:=b4.alloc b4.size (.cells #[bn,(A,dn.length,cap),en] 301);have f2:NV (w1.alloc (.cells #[bn,(A,dn.length,cap),en] 301)) (.agg #[bn,(A,dn.length,cap),en]) ⟨bn,dn,en⟩:=⟨A,cap,rfl,a3.alloc _,a4,a5⟩;have c4:=J (Zfl f2 c3 (d2.o.below c7));have d7:=k.alloc (.cells #[bn,(A,dn.length,cap),en] 301);have d9:=Bk.new w1 301 #[bn,(A,dn.length,cap),en];have ab:=k.lt;obtain⟨gk,b2,a1,b6,e7,e8⟩:=fA d7 d9 c7 a3 a4 a5;have d3:=J c3;have Hd:=J hd;go_wp21;refine aP c4.o λf7 B=>?_;have p:=gk.o.below B gk.o.lt;have Q:=b2.o.below B b2.o.lt;have an:=a1.o.trans (B.mono a1.o.size);have e9:=Q.cell 0;have n1:=Q.cell 1;have n2:=Q.cell 2;have r0:=p.cell 0;have a8:=p.cell 1;have b1:=p.cell 2;have e1:=p.frozen 0;have e2:=p.frozen 1;have e3:=p.frozen 2;simp at e9 n1 n2 r0 a8 b1;have b7:=(b6.o.alloc (.cells #[bn,(A,dn.length,cap),en] 301)).below B;obtain⟨z,E,g,l,t,M,q⟩:=AU p an aU b7 bn (.slice A dn cap) en;obtain⟨S,f3,I⟩:=bD E M q;obtain⟨T,e,a6⟩:∃T e,Xs ⟨bn,dn,en⟩=(T,e):=⟨_,_,rfl⟩;have hd:=Hd.o;rw[a6] at hd;rw[a6];have d4:=J (@ZpU (bs T) s);clear B p Q an E M q b7 Hd c4 b6 gk b2 a1 y a6;have a7:Hid (DL w z R (.returned (.tuple #[.agg #[bn,(A,dn.length,cap),en],decide ((T,e)=(aH s,0))]))):=J (by refine⟨_,_,rfl,I.o,⟨_,_,_,_,_,rfl⟩,?_⟩;by_cases u:(T,e)=(aH s,0);rw[hd,aQ u];exact⟨by simpa using u,⟨A,cap,rfl,f3.o,e7.o,e8.o⟩,d3.o⟩;rw[hd,aD u];simpa using u);by_cases b8:e=0
 .subst b8;go_wp2;rw[S.o];refine bodyPost_ret P9 rfl ?_;have u:((bs T).toList==s.toList)=decide ((T,0)=(aH s,0)):=by rw[d4.o,lN,fq,fq,Prod.mk.injEq];constructor;intro h;exact⟨by rw[<-h];rfl,rfl⟩;intro h;rw[h.1];rfl
  rw[u];exact a7.o
 have f6:((e:Int)==0)=false:=oe;have f4:decide ((T,e)=(aH s,0))=false:=by rw[uJ,Prod.mk.injEq];exact λh=>b8 h.2
 rw[f4] at a7;go_wp2;rw[S.o];refine bodyPost_ret P9 rfl ?_;exact a7.o
def MZ (w w':aq) (o:Option gL) (x:Ending):Prop:=∃g A l c e,x=.returned (.tuple #[.agg #[.bool g,.slice A l c,.int .i64 e],o.isSome])/\Below w w w'/\∀n,o=some n->NV w' (.agg #[.bool g,.slice A l c,.int .i64 e]) n
theorem cres {w w':aq} {o:Option gL} {x:Ending} (h:DL w w' o x):MZ w w' o x:=by
 obtain⟨v,b,rfl,hb,⟨g,A,l,c,e,rfl⟩,hm⟩:=h;match o,hm with
 |none,hm=>subst hm;exact⟨g,A,l,c,e,rfl,hb,λn h=>po⟩
 |some m,hm=>obtain⟨rfl,k,p⟩:=hm;exact⟨g,A,l,c,e,rfl,hb,λn h=>by injection h with h;subst h;exact k⟩
theorem pcan (s:aT) {w:aq} (g:gl w):cK 222 #[s] w λx w'=>MZ w w' (tj (aH s)) x:=(ZbK s g).mono λx w' h=>cres h
theorem ZbT (s:aT) {w:aq} (g:gl w):
  Calls prog 178 #[s] w (bM w (Z3 (aH s))):=by have q:=J (pcan s g);have k:(tj (aH s)).isSome=Z3 (aH s):=rfl;clear g;generalize tj (aH s)=o at*;have t:=J k;clear k;go_in;go_wp21;refine(q.o).mono ?_;rintro x w1 ⟨u,A,l,c,e,rfl,hb,_⟩;have p:=J (hb.alloc hb.size (.cells #[u,(A,l,c),e] 301));clear hb;go_wp2;go_returns;exact⟨ZfM t.o,p.o⟩
variable{n:Int}{w:aq}
theorem Z' {kc:Array aI} (h:tK w n kc) (g:n<0\/4<=n):kc=m':=by rcases h with ⟨_,h⟩|⟨h0,h1,_⟩;exact h;omega
theorem H7 {kc:Array aI} (h:tK w 0 kc):∃b,kc= #[.int .i64 1,.int .i64 128,.func (.func 173) #[] #[],.func (.func 174) #[] #[],.func (.func 175) #[] #[],.func (.func 176) #[] #[],.string ⟨#[98]⟩]/\Bk w b 9 #[.string ⟨#[]⟩]:=EM
theorem H8 {kc:Array aI} (h:tK w 1 kc):∃b,kc= #[.int .i64 0,.int .i64 0,.func (.func 177) #[] #[],.func (.func 223) #[] #[.pointer (some ⟨b,0,none⟩)],.func (.func 180) #[] #[],.func (.func 182) #[] #[],.string ⟨#[114]⟩]/\Bk w b 9 #[.string ⟨#[48]⟩]:=EM
theorem H9 {kc:Array aI} (h:tK w 2 kc):∃b,kc= #[.int .i64 0,.int .i64 0,.func (.func 183) #[] #[],.func (.func 223) #[] #[.pointer (some ⟨b,0,none⟩)],.func (.func 184) #[] #[],.func (.func 186) #[] #[],.string ⟨#[115]⟩]/\Bk w b 9 #[.string ⟨#[]⟩]:=EM
theorem H' {kc:Array aI} (h:tK w 3 kc):∃b,kc= #[.int .i64 0,.int .i64 0,.func (.func 187) #[] #[],.func (.func 223) #[] #[.pointer (some ⟨b,0,none⟩)],.func (.func 188) #[] #[],.func (.func 189) #[] #[],.string ⟨#[]⟩]/\Bk w b 9 #[.string ⟨#[]⟩]:=EM
theorem Zb0 (W:Int) (v:ax) (u:v.length<=1099511627776) (w:aq):
  Calls prog 173 #[W,bs v] w (bM w (gH W v)):=by
 have k:=J (xz v u w);have p:(bs v).size=v:=Z0 v;have g:gH W v=(fs v&&decide ((v.length:Int)=W)):=rfl;cases hi:fs v;.rw[hi] at k g;have q:=J g;clear p g hi;generalize bs v=S at*;go_in;go_wp21;refine aP k.o λw1 l=>?_;go_wp2;go_returns;exact⟨Z4 (by rw[q.o];rfl),l⟩
 rw[hi] at k g;have q:=J g;have t:Hid ((((bs v).size:Int)==W)=gH W v):=J (by rw[g,p,Bool.true_and,lN,beq_iff_eq,fq]);clear p g hi;generalize bs v=S at*;go_in;go_wp21;refine aP k.o λw1 l=>?_;go_wp2;go_returns;exact⟨Z4 t.o,l⟩
theorem Zpe (n:Int) (w:aq):
  Calls prog 174 #[n] w (bM w (bs (mr n 120))):=by have H:=J (GH n 120 w);rw[show((120:cj).toNat:Int)=120 from rfl] at H;generalize bs (mr n 120)=S at*;exact PV
theorem Zpf (n:Int) (v:ax) (g:gl w):
  Calls prog 177 #[n,bs v] w (bM w (Z3 v)):=by have H:=J (ZbT (bs v) g);rw[Zm] at H;clear g;generalize bs v=S at*;exact PV
theorem Zpg (n:Int) (v:ax) (w:aq):
  Calls prog 183 #[n,bs v] w (bM w (decide (v.length<=64))):=by have k:(bs v).size=v:=Z0 v;have g:Hid (decide (((bs v).size:Int)<=64)=decide (v.length<=64)):=J (by rw[k];simp only[decide_eq_decide];omega);clear k;exact P0
theorem Zph (n:Int) (v:ax) (w:aq):
  Calls prog 187 #[n,bs v] w (bM w (decide (v=[]))):=by have g:=J (YU v);exact P0
theorem Kq (n:Int) (b:Nat) (s:aT) (h:Bk w b 9 #[s]):
  Calls prog 223 #[n,(b,0)] w λx w'=>x=.returned s/\w=w':=by have c0:w.cell? (b,0)=s:=h.cell 0;clear h;exact xf
theorem Uo (n wd:Int) (w:aq):
  Calls prog 87 #[n,wd] w (bM w (dS (n,wd))):=by have g:=J (Me n wd w);generalize dS (n,wd)=B at*;by_cases k:n<0\/4<=n;have t:=J k;clear k;exact NF;have l:n=0\/n=1\/n=2\/n=3:=O;rcases l with rfl|rfl|rfl|rfl;clear k;exact N5;clear k;exact N0;clear k;exact N1;clear k;exact N2
theorem Sp (n wd:Int) (v:ax) (E:v.length<=1099511627776) (B:gl w):
  Calls prog 57 #[n,wd,bs v] w (bM w (fO Z3 (n,wd) v)):=by
 have t:=J (Me n wd w);have l:fO Z3 (n,wd) v=(dS (n,wd)&&sD Z3 n wd v):=rfl;by_cases D:n<0\/4<=n;.have p:=Mq (wd:=wd) D;have I:=J D;rw[p] at t l;have k:=J l;clear D p l;generalize bs v=S at*;go_in;go_wp21;refine(t.o).mono ?_;rintro x w1 ⟨kc,rfl,y,z⟩;have:=Z' y I.o;subst this;have q:=J (z.alloc z.size (.cells m' 151));unfold m' at*;clear y z;go_wp2;go_returns;exact⟨Z4 (by rw[k.o];rfl),q.o⟩
 have M:n=0\/n=1\/n=2\/n=3:=O;rcases M with rfl|rfl|rfl|rfl
 .clear D;have d9:=J B;have g:=J (λ(W:aq) (F:gl W)=>Zb0 wd v E W);have u:sD Z3 0 wd v=gH wd v:=rfl;rw[u] at l;clear u B;generalize gH wd v=R at*;clear E;generalize bs v=S at*;cases p:dS (0,wd);.rw[p] at t l;have k:=J l;clear p l;go_in;go_wp21;refine(t.o).mono ?_;rintro x w1 ⟨kc,rfl,y,z⟩;obtain⟨b,rfl,G⟩:=H7 y;have q:=J (z.alloc z.size (.cells #[(1:Int),(128:Int),.func (.func 173) #[] #[],.func (.func 174) #[] #[],.func (.func 175) #[] #[],.func (.func 176) #[] #[],.string ⟨#[98]⟩] 151));exact EL
  rw[p] at t l;have k:=J l;clear p l;go_in;go_wp21;refine(t.o).mono ?_;rintro x w1 ⟨kc,rfl,y,z⟩;obtain⟨b,rfl,G⟩:=H7 y;have q:=J (z.alloc z.size (.cells #[(1:Int),(128:Int),.func (.func 173) #[] #[],.func (.func 174) #[] #[],.func (.func 175) #[] #[],.func (.func 176) #[] #[],.string ⟨#[98]⟩] 151));exact EI
 .clear D;have d9:=J B;have g:=J (λ(W:aq) (F:gl W)=>Zpf wd v F);have u:sD Z3 1 wd v=Z3 v:=rfl;rw[u] at l;clear u B;generalize Z3 v=R at*;clear E;generalize bs v=S at*;cases p:dS (1,wd);.rw[p] at t l;have k:=J l;clear p l;go_in;go_wp21;refine(t.o).mono ?_;rintro x w1 ⟨kc,rfl,y,z⟩;obtain⟨b,rfl,G⟩:=H8 y;have q:=J (z.alloc z.size (.cells #[(0:Int),(0:Int),.func (.func 177) #[] #[],.func (.func 223) #[] #[.pointer (some ⟨b,0,none⟩)],.func (.func 180) #[] #[],.func (.func 182) #[] #[],.string ⟨#[114]⟩] 151));exact EL
  rw[p] at t l;have k:=J l;clear p l;go_in;go_wp21;refine(t.o).mono ?_;rintro x w1 ⟨kc,rfl,y,z⟩;obtain⟨b,rfl,G⟩:=H8 y;have q:=J (z.alloc z.size (.cells #[(0:Int),(0:Int),.func (.func 177) #[] #[],.func (.func 223) #[] #[.pointer (some ⟨b,0,none⟩)],.func (.func 180) #[] #[],.func (.func 182) #[] #[],.string ⟨#[114]⟩] 151));exact EI
 .clear D;have d9:=J B;have g:=J (λ(W:aq) (F:gl W)=>Zpg wd v W);have u:sD Z3 2 wd v=decide (v.length<=64):=rfl;rw[u] at l;clear u B;generalize decide (v.length<=64)=R at*;clear E;generalize bs v=S at*;cases p:dS (2,wd);.rw[p] at t l;have k:=J l;clear p l;go_in;go_wp21;refine(t.o).mono ?_;rintro x w1 ⟨kc,rfl,y,z⟩;obtain⟨b,rfl,G⟩:=H9 y;have q:=J (z.alloc z.size (.cells #[(0:Int),(0:Int),.func (.func 183) #[] #[],.func (.func 223) #[] #[.pointer (some ⟨b,0,none⟩)],.func (.func 184) #[] #[],.func (.func 186) #[] #[],.string ⟨#[115]⟩] 151));exact EL
  rw[p] at t l;have k:=J l;clear p l;go_in;go_wp21;refine(t.o).mono ?_;rintro x w1 ⟨kc,rfl,y,z⟩;obtain⟨b,rfl,G⟩:=H9 y;have q:=J (z.alloc z.size (.cells #[(0:Int),(0:Int),.func (.func 183) #[] #[],.func (.func 223) #[] #[.pointer (some ⟨b,0,none⟩)],.func (.func 184) #[] #[],.func (.func 186) #[] #[],.string ⟨#[115]⟩] 151));exact EI
 clear D;have d9:=J B;have g:=J (λ(W:aq) (F:gl W)=>Zph wd v W);have u:sD Z3 3 wd v=decide (v=[]):=rfl;rw[u] at l;clear u B;generalize decide (v=[])=R at*;clear E;generalize bs v=S at*;cases p:dS (3,wd);.rw[p] at t l;have k:=J l;clear p l;go_in;go_wp21;refine(t.o).mono ?_;rintro x w1 ⟨kc,rfl,y,z⟩;obtain⟨b,rfl,G⟩:=H' y;have q:=J (z.alloc z.size (.cells #[(0:Int),(0:Int),.func (.func 187) #[] #[],.func (.func 223) #[] #[.pointer (some ⟨b,0,none⟩)],.func (.func 188) #[] #[],.func (.func 189) #[] #[],.string ⟨#[]⟩] 151));exact EL
 rw[p] at t l;have k:=J l;clear p l;go_in;go_wp21;refine(t.o).mono ?_;rintro x w1 ⟨kc,rfl,y,z⟩;obtain⟨b,rfl,G⟩:=H' y;have q:=J (z.alloc z.size (.cells #[(0:Int),(0:Int),.func (.func 187) #[] #[],.func (.func 223) #[] #[.pointer (some ⟨b,0,none⟩)],.func (.func 188) #[] #[],.func (.func 189) #[] #[],.string ⟨#[]⟩] 151));exact EI
theorem Zqs (h:dS (0,n)=true):mr n 120=qN (0,n):=by obtain⟨h1,g⟩:=XI h rfl;unfold mr qN;rw[aD (by rintro(h|h|h)<;>first|exact absurd h O|exact absurd h aY),aQ rfl]
theorem Zh2 (n wd:Int) (w:aq):
  Calls prog 58 #[n,wd] w (bM w (bs (if dS (n,wd) then qN (n,wd) else[]))):=by
 have g:=J (Me n wd w);by_cases l:n<0\/4<=n;have k:=Mq (wd:=wd) l;have t:=J l;rw[k] at g⊢;rw[aD aY,show bs ([]:ax)=⟨#[]⟩ from rfl];clear l k;exact NF;have B:n=0\/n=1\/n=2\/n=3:=O;rcases B with rfl|rfl|rfl|rfl;.clear l;cases k:dS (0,wd);rw[k] at g;rw[aD aY,show bs ([]:ax)=⟨#[]⟩ from rfl];clear k;exact N5;rw[k] at g;rw[aQ rfl];have u:=J (λW=>Zpe wd W);rw[Zqs k] at u;generalize bs (qN (0,wd))=S at*;clear k;go_in;go_wp21;refine(g.o).mono ?_;rintro x w1 ⟨kc,rfl,y,z⟩;obtain⟨b,rfl,G⟩:=H7 y;have q:=J (z.alloc z.size (.cells #[(1:Int),(128:Int),.func (.func 173) #[] #[],.func (.func 174) #[] #[],.func (.func 175) #[] #[],.func (.func 176) #[] #[],.string ⟨#[98]⟩] 151));have p:=J G;clear y z G;go_wp21;refine ij (u.o _) q λD Q=>?_;go_wp2;go_returns;exact⟨rfl,Q.o⟩
 .clear l;cases k:dS (1,wd);rw[k] at g;rw[aD aY,show bs ([]:ax)=⟨#[]⟩ from rfl];clear k;exact N0;rw[k] at g;rw[aQ rfl];rw[show bs (qN (1,wd))=⟨#[48]⟩ from rfl];clear k;go_in;go_wp21;refine(g.o).mono ?_;rintro x w1 ⟨kc,rfl,y,z⟩;obtain⟨b,rfl,G⟩:=H8 y;have q:=J (z.alloc z.size (.cells #[(0:Int),(0:Int),.func (.func 177) #[] #[],.func (.func 223) #[] #[.pointer (some ⟨b,0,none⟩)],.func (.func 180) #[] #[],.func (.func 182) #[] #[],.string ⟨#[114]⟩] 151));have p:=J G;clear y z G;go_wp21;refine cp (Kq wd b _ (p.o.alloc (.cells #[(0:Int),(0:Int),.func (.func 177) #[] #[],.func (.func 223) #[] #[.pointer (some ⟨b,0,none⟩)],.func (.func 180) #[] #[],.func (.func 182) #[] #[],.string ⟨#[114]⟩] 151))) ?_;exact Jh
 .clear l;cases k:dS (2,wd);rw[k] at g;rw[aD aY,show bs ([]:ax)=⟨#[]⟩ from rfl];clear k;exact N1;rw[k] at g;rw[aQ rfl];rw[show bs (qN (2,wd))=⟨#[]⟩ from rfl];clear k;go_in;go_wp21;refine(g.o).mono ?_;rintro x w1 ⟨kc,rfl,y,z⟩;obtain⟨b,rfl,G⟩:=H9 y;have q:=J (z.alloc z.size (.cells #[(0:Int),(0:Int),.func (.func 183) #[] #[],.func (.func 223) #[] #[.pointer (some ⟨b,0,none⟩)],.func (.func 184) #[] #[],.func (.func 186) #[] #[],.string ⟨#[115]⟩] 151));have p:=J G;clear y z G;go_wp21;refine cp (Kq wd b _ (p.o.alloc (.cells #[(0:Int),(0:Int),.func (.func 183) #[] #[],.func (.func 223) #[] #[.pointer (some ⟨b,0,none⟩)],.func (.func 184) #[] #[],.func (.func 186) #[] #[],.string ⟨#[115]⟩] 151))) ?_;exact Jh
 clear l;cases k:dS (3,wd);rw[k] at g;rw[aD aY,show bs ([]:ax)=⟨#[]⟩ from rfl];clear k;exact N2;rw[k] at g;rw[aQ rfl];rw[show bs (qN (3,wd))=⟨#[]⟩ from rfl];clear k;go_in;go_wp21;refine(g.o).mono ?_;rintro x w1 ⟨kc,rfl,y,z⟩;obtain⟨b,rfl,G⟩:=H' y;have q:=J (z.alloc z.size (.cells #[(0:Int),(0:Int),.func (.func 187) #[] #[],.func (.func 223) #[] #[.pointer (some ⟨b,0,none⟩)],.func (.func 188) #[] #[],.func (.func 189) #[] #[],.string ⟨#[]⟩] 151));have p:=J G;clear y z G;go_wp21;refine cp (Kq wd b _ (p.o.alloc (.cells #[(0:Int),(0:Int),.func (.func 187) #[] #[],.func (.func 223) #[] #[.pointer (some ⟨b,0,none⟩)],.func (.func 188) #[] #[],.func (.func 189) #[] #[],.string ⟨#[]⟩] 151))) ?_;exact Jh
