import Derived.Test.YtikecoijpkmnbaaGreatDoorJ16
import Derived.Test.YtikecoijpkmnbaaGreatDoorJ22
set_option linter.all false
set_option maxRecDepth 100000
set_option maxHeartbeats 0
section
variable{P Q:Prop}
theorem Jh(h:P:=by have a3:=q;go_wp2;go_returns;exact⟨rfl,a3.o⟩):P:=h
theorem Tz(h:P:=by simp[results,results220,go_sem,g,l,t];try rfl):P:=h
theorem EM(h:P:=by rcases h with ⟨h,_⟩|⟨_,_,b,h1,h2⟩;omega;exact⟨b,h1,h2⟩):P:=h
theorem W61(h:P:=by clear Q E G;go_wp2;go_returns;exact⟨Z4 (by rw[k.o];rfl),q.o⟩):P:=h
theorem P0(h:P:=by generalize bs v=S at*;go_in;go_wp2;go_returns;exact⟨Z4 g.o,bf _ _⟩):P:=h
theorem Fl(h:P:=by go_in;go_wp21;refine aP H.o λw1 E=>?_;go_wp2;go_returns;exact⟨rfl,E⟩):P:=h
theorem W5N(h:P:=by clear Q E G;go_wp21;refine ij (g.o _ (d9.o.below q.o)) q λw2 a3=>?_;go_wp2;go_returns;exact⟨Z4 (by rw[k.o];rfl),a3.o⟩):P:=h
theorem W6D(h:P:=by go_in;go_wp21;refine(g.o).mono ?_;rintro x w1 ⟨kc,rfl,Q,E⟩;have:=Z' Q t.o;subst this;have q:=J (E.alloc E.size (.cells m' 157));unfold m' at*;clear Q E;go_wp2;go_returns;exact⟨rfl,q.o⟩):P:=h
theorem Oj(h:P:=by go_in;go_wp21;refine(g.o).mono ?_;rintro x w1 ⟨kc,rfl,Q,E⟩;obtain⟨b,rfl,G⟩:=H7 Q;have q:=J (E.alloc E.size (.cells #[(1:Int),(128:Int),.func (.func 166) #[] #[],.func (.func 167) #[] #[],.func (.func 168) #[] #[],.func (.func 169) #[] #[],.string ⟨#[98]⟩] 157));clear Q E G;go_wp2;go_returns;exact⟨rfl,q.o⟩):P:=h
theorem Og(h:P:=by go_in;go_wp21;refine(g.o).mono ?_;rintro x w1 ⟨kc,rfl,Q,E⟩;obtain⟨b,rfl,G⟩:=H' Q;have q:=J (E.alloc E.size (.cells #[(0:Int),(0:Int),.func (.func 180) #[] #[],.func (.func 221) #[] #[.pointer (some ⟨b,0,none⟩)],.func (.func 181) #[] #[],.func (.func 182) #[] #[],.string ⟨#[]⟩] 157));clear Q E G;go_wp2;go_returns;exact⟨rfl,q.o⟩):P:=h
theorem N6(h:P:=by go_in;go_wp21;refine(g.o).mono ?_;rintro x w1 ⟨kc,rfl,Q,E⟩;obtain⟨b,rfl,G⟩:=H8 Q;have q:=J (E.alloc E.size (.cells #[(0:Int),(0:Int),.func (.func 170) #[] #[],.func (.func 221) #[] #[.pointer (some ⟨b,0,none⟩)],.func (.func 173) #[] #[],.func (.func 175) #[] #[],.string ⟨#[114]⟩] 157));clear Q E G;go_wp2;go_returns;exact⟨rfl,q.o⟩):P:=h
theorem Od(h:P:=by go_in;go_wp21;refine(g.o).mono ?_;rintro x w1 ⟨kc,rfl,Q,E⟩;obtain⟨b,rfl,G⟩:=H9 Q;have q:=J (E.alloc E.size (.cells #[(0:Int),(0:Int),.func (.func 176) #[] #[],.func (.func 221) #[] #[.pointer (some ⟨b,0,none⟩)],.func (.func 177) #[] #[],.func (.func 179) #[] #[],.string ⟨#[115]⟩] 157));clear Q E G;go_wp2;go_returns;exact⟨rfl,q.o⟩):P:=h
end
namespace Go.Proofs.Y
open Tryz Wv Go.RowKit
theorem ZpU {a b:aT} :(a.toList==b.toList)=decide (a=b):=by rw[lN,beq_iff_eq,Vax,ByteArray.toList_eq,ByteArray.toList_eq];constructor;intro h;apply xc;apply pS.1;exact h;intro h;rw[h]
theorem ZhH (s:ax):tj s=match (qq kP s).map Xw with
  |none=>none
  |some n=>if Xs n=(s,0) then some n else none:=by
 unfold tj;match qq kP s with
 |none=>rfl
 |some m=>rfl
theorem ZbK (s:aT) {w:aq} (e5:gl w):
  Calls prog 220 #[s] w λx w'=>DL w w' (tj (aH s)) x:=by
 have y:=J (λW=>Zfj s W);have d1:=J e5;have hd:=ZhH (aH s);obtain⟨R,e3⟩:=ay (tj (aH s));rw[e3] at hd⊢;have d5:=(bf w w).alloc aU (.cells #[false,.slice none 0 0,(0:Int)] 305);have d7:=Bk.new w 305 #[false,.slice none 0 0,(0:Int)];have F:=J d5;have G:=J d7;rcases b8:(qq kP (aH s)).map Xw with _|n;.rw[b8] at y hd;simp only at hd;subst hd;go_in;go_wp21;refine((y.o _).mono ?_);rintro x w1 ⟨v,b,rfl,hb,⟨b3,b2,c5,c4,e0,rfl⟩,rfl⟩;have k:=G.o.below hb G.o.lt;have r0:=k.cell 0;have a8:=k.cell 1;have a9:=k.cell 2;have d9:=k.frozen 0;have e1:=k.frozen 1;have e2:=k.frozen 2;have ab:=k.lt;simp at r0 a8 a9;have d4:=J (F.o.trans (hb.mono F.o.size));obtain⟨z,E,g,l,t,M,q⟩:=AU k d4.o aU (L:=[]) (At.nil _ none) false (.slice none 0 0) 0;have S:=J E;have D:=(bf z z).alloc aU (.cells #[b3,(b2,c5,c4),e0] 305);have c7:=YL g D;have c8:=YL l D;have c9:=YL t D;have I:=J (q.trans (D.mono q.size));obtain⟨f4,a2⟩:=ay (z.alloc (.cells #[b3,(b2,c5,c4),e0] 305));rw[a2] at c7 c8 c9 I;have a0:=J a2;clear hb k E M q D g l t a2;go_wp2;rw[S.o,a0.o];refine bodyPost_ret (by simp[results,results220,go_sem,c7,c8,c9];try rfl) rfl ?_;exact⟨_,_,rfl,I.o,⟨_,_,_,_,_,rfl⟩,rfl⟩
 rw[b8] at y hd;simp only at hd;go_in;go_wp21;refine((y.o _).mono ?_);rintro x w1 ⟨v,b,rfl,hb,_,rfl,e4,b9⟩;have k:=G.o.below hb G.o.lt;have b5:=F.o.trans (hb.mono F.o.size);obtain⟨A,cap,rfl,a3,a4,a5⟩:=e4;obtain⟨bn,dn,en⟩:=n;simp only at a3 a4 a5;have c6:=b5.alloc b5.size (.cells #[bn,(A,dn.length,cap),en] 305);have e9:NV (w1.alloc (.cells #[bn,(A,dn.length,cap),en] 305)) (.agg #[bn,(A,dn.length,cap),en]) ⟨bn,dn,en⟩:=⟨A,cap,rfl,a3.alloc _,a4,a5⟩;have c3:=J (Zfl e9 b9 (d1.o.below c6));have d6:=k.alloc (.cells #[bn,(A,dn.length,cap),en] 305);have d8:=Bk.new w1 305 #[bn,(A,dn.length,cap),en];have ab:=k.lt;obtain⟨gk,b1,a1,b4,e6,e7⟩:=fA d6 d8 c6 a3 a4 a5;have d2:=J b9;have Hd:=J hd;go_wp21;refine aP c3.o λf6 B=>?_;have p:=gk.o.below B gk.o.lt;have Q:=b1.o.below B b1.o.lt;have an:=a1.o.trans (B.mono a1.o.size);have e8:=Q.cell 0;have n1:=Q.cell 1;have n2:=Q.cell 2;have r0:=p.cell 0;have a8:=p.cell 1;have a9:=p.cell 2;have d9:=p.frozen 0;have e1:=p.frozen 1;have e2:=p.frozen 2;simp at e8 n1 n2 r0 a8 a9;have b6:=(b4.o.alloc (.cells #[bn,(A,dn.length,cap),en] 305)).below B;obtain⟨z,E,g,l,t,M,q⟩:=AU p an aU b6 bn (.slice A dn cap) en;obtain⟨S,f2,I⟩:=bD E M q;obtain⟨T,e,a6⟩:∃T e,Xs ⟨bn,dn,en⟩=(T,e):=⟨_,_,rfl⟩;have hd:=Hd.o;rw[a6] at hd;rw[a6];have d3:=J (@ZpU (bs T) s);clear B p Q an E M q b6 Hd c3 b4 gk b1 a1 y a6;have a7:Hid (DL w z R (.returned (.tuple #[.agg #[bn,(A,dn.length,cap),en],decide ((T,e)=(aH s,0))]))):=J (by refine⟨_,_,rfl,I.o,⟨_,_,_,_,_,rfl⟩,?_⟩;by_cases u:(T,e)=(aH s,0);rw[hd,Vag u];exact⟨by simpa using u,⟨A,cap,rfl,f2.o,e6.o,e7.o⟩,d2.o⟩;rw[hd,Vae u];simpa using u);by_cases b7:e=0
 .subst b7;go_wp2;rw[S.o];refine bodyPost_ret Tz rfl ?_;have u:((bs T).toList==s.toList)=decide ((T,0)=(aH s,0)):=by rw[d3.o,lN,Vax,Vax,Prod.mk.injEq];constructor;intro h;exact⟨by rw[<-h];rfl,rfl⟩;intro h;rw[h.1];rfl
  rw[u];exact a7.o
 have f5:((e:Int)==0)=false:=W4P;have f3:decide ((T,e)=(aH s,0))=false:=by rw[uJ,Prod.mk.injEq];exact λh=>b7 h.2
 rw[f3] at a7;go_wp2;rw[S.o];refine bodyPost_ret Tz rfl ?_;exact a7.o
def MZ (w w':aq) (o:Option gL) (x:Ending):Prop:=∃g A l c e,x=.returned (.tuple #[.agg #[.bool g,.slice A l c,.int .i64 e],o.isSome])/\Below w w w'/\∀n,o=some n->NV w' (.agg #[.bool g,.slice A l c,.int .i64 e]) n
theorem cres {w w':aq} {o:Option gL} {x:Ending} (h:DL w w' o x):MZ w w' o x:=by
 obtain⟨v,b,rfl,hb,⟨g,A,l,c,e,rfl⟩,hm⟩:=h;match o,hm with
 |none,hm=>subst hm;exact⟨g,A,l,c,e,rfl,hb,λn h=>po⟩
 |some m,hm=>obtain⟨rfl,k,p⟩:=hm;exact⟨g,A,l,c,e,rfl,hb,λn h=>by injection h with h;subst h;exact k⟩
theorem pcan (s:aT) {w:aq} (g:gl w):cK 220 #[s] w λx w'=>MZ w w' (tj (aH s)) x:=(ZbK s g).mono λx w' h=>cres h
theorem ZbT (s:aT) {w:aq} (g:gl w):
  Calls prog 171 #[s] w (bM w (Z3 (aH s))):=by have q:=J (pcan s g);have k:(tj (aH s)).isSome=Z3 (aH s):=rfl;clear g;generalize tj (aH s)=o at*;have t:=J k;clear k;go_in;go_wp21;refine(q.o).mono ?_;rintro x w1 ⟨u,A,l,c,e,rfl,hb,_⟩;have p:=J (hb.alloc hb.size (.cells #[u,(A,l,c),e] 305));clear hb;go_wp2;go_returns;exact⟨ZfM t.o,p.o⟩
variable{n:Int}{w:aq}
theorem Z' {kc:Array aI} (h:tK w n kc) (g:n<0\/4<=n):kc=m':=by rcases h with ⟨_,h⟩|⟨h0,h1,_⟩;exact h;omega
theorem H7 {kc:Array aI} (h:tK w 0 kc):∃b,kc= #[.int .i64 1,.int .i64 128,.func (.func 166) #[] #[],.func (.func 167) #[] #[],.func (.func 168) #[] #[],.func (.func 169) #[] #[],.string ⟨#[98]⟩]/\Bk w b 9 #[.string ⟨#[]⟩]:=EM
theorem H8 {kc:Array aI} (h:tK w 1 kc):∃b,kc= #[.int .i64 0,.int .i64 0,.func (.func 170) #[] #[],.func (.func 221) #[] #[.pointer (some ⟨b,0,none⟩)],.func (.func 173) #[] #[],.func (.func 175) #[] #[],.string ⟨#[114]⟩]/\Bk w b 9 #[.string ⟨#[48]⟩]:=EM
theorem H9 {kc:Array aI} (h:tK w 2 kc):∃b,kc= #[.int .i64 0,.int .i64 0,.func (.func 176) #[] #[],.func (.func 221) #[] #[.pointer (some ⟨b,0,none⟩)],.func (.func 177) #[] #[],.func (.func 179) #[] #[],.string ⟨#[115]⟩]/\Bk w b 9 #[.string ⟨#[]⟩]:=EM
theorem H' {kc:Array aI} (h:tK w 3 kc):∃b,kc= #[.int .i64 0,.int .i64 0,.func (.func 180) #[] #[],.func (.func 221) #[] #[.pointer (some ⟨b,0,none⟩)],.func (.func 181) #[] #[],.func (.func 182) #[] #[],.string ⟨#[]⟩]/\Bk w b 9 #[.string ⟨#[]⟩]:=EM
theorem Zb0 (W:Int) (v:ax) (u:v.length<=1099511627776) (w:aq):
  Calls prog 166 #[W,bs v] w (bM w (gH W v)):=by
 have k:=J (xz v u w);have l:(bs v).size=v:=Z0 v;have g:gH W v=(isV v&&decide ((v.length:Int)=W)):=rfl;cases hi:isV v;.rw[hi] at k g;have q:=J g;clear l g hi;generalize bs v=S at*;go_in;go_wp21;refine aP k.o λw1 p=>?_;go_wp2;go_returns;exact⟨Z4 (by rw[q.o];rfl),p⟩
 rw[hi] at k g;have q:=J g;have t:Hid ((((bs v).size:Int)==W)=gH W v):=J (by rw[g,l,Bool.true_and,lN,beq_iff_eq,Vax]);clear l g hi;generalize bs v=S at*;go_in;go_wp21;refine aP k.o λw1 p=>?_;go_wp2;go_returns;exact⟨Z4 t.o,p⟩
theorem Zpe (n:Int) (w:aq):
  Calls prog 167 #[n] w (bM w (bs (mr n 120))):=by have H:=J (Z4S n 120 w);rw[show((120:cj).toNat:Int)=120 from rfl] at H;generalize bs (mr n 120)=S at*;exact Fl
theorem Zpf (n:Int) (v:ax) (g:gl w):
  Calls prog 170 #[n,bs v] w (bM w (Z3 v)):=by have H:=J (ZbT (bs v) g);rw[Zm] at H;clear g;generalize bs v=S at*;exact Fl
theorem Zpg (n:Int) (v:ax) (w:aq):
  Calls prog 176 #[n,bs v] w (bM w (decide (v.length<=64))):=by have k:(bs v).size=v:=Z0 v;have g:Hid (decide (((bs v).size:Int)<=64)=decide (v.length<=64)):=J (by rw[k];simp only[decide_eq_decide];omega);clear k;exact P0
theorem Zph (n:Int) (v:ax) (w:aq):
  Calls prog 180 #[n,bs v] w (bM w (decide (v=[]))):=by have g:=J (YU v);exact P0
theorem Kq (n:Int) (b:Nat) (s:aT) (h:Bk w b 9 #[s]):
  Calls prog 221 #[n,(b,0)] w λx w'=>x=.returned s/\w=w':=by have c0:w.cell? (b,0)=s:=h.cell 0;clear h;exact xf
theorem Uo (n wd:Int) (w:aq):
  Calls prog 97 #[n,wd] w (bM w (dS (n,wd))):=by have g:=J (Me n wd w);generalize dS (n,wd)=B at*;by_cases k:n<0\/4<=n;have t:=J k;clear k;exact W6D;have l:n=0\/n=1\/n=2\/n=3:=O;rcases l with rfl|rfl|rfl|rfl;clear k;exact Oj;clear k;exact N6;clear k;exact Od;clear k;exact Og
theorem Sp (n wd:Int) (v:ax) (B:v.length<=1099511627776) (y:gl w):
  Calls prog 52 #[n,wd,bs v] w (bM w (fO Z3 (n,wd) v)):=by
 have t:=J (Me n wd w);have l:fO Z3 (n,wd) v=(dS (n,wd)&&sD Z3 n wd v):=rfl;by_cases z:n<0\/4<=n;.have p:=Mq (wd:=wd) z;have F:=J z;rw[p] at t l;have k:=J l;clear z p l;generalize bs v=S at*;go_in;go_wp21;refine(t.o).mono ?_;rintro x w1 ⟨kc,rfl,Q,E⟩;have:=Z' Q F.o;subst this;have q:=J (E.alloc E.size (.cells m' 157));unfold m' at*;clear Q E;go_wp2;go_returns;exact⟨Z4 (by rw[k.o];rfl),q.o⟩
 have I:n=0\/n=1\/n=2\/n=3:=O;rcases I with rfl|rfl|rfl|rfl
 .clear z;have d9:=J y;have g:=J (λ(W:aq) (D:gl W)=>Zb0 wd v B W);have u:sD Z3 0 wd v=gH wd v:=rfl;rw[u] at l;clear u y;generalize gH wd v=R at*;clear B;generalize bs v=S at*;cases p:dS (0,wd);.rw[p] at t l;have k:=J l;clear p l;go_in;go_wp21;refine(t.o).mono ?_;rintro x w1 ⟨kc,rfl,Q,E⟩;obtain⟨b,rfl,G⟩:=H7 Q;have q:=J (E.alloc E.size (.cells #[(1:Int),(128:Int),.func (.func 166) #[] #[],.func (.func 167) #[] #[],.func (.func 168) #[] #[],.func (.func 169) #[] #[],.string ⟨#[98]⟩] 157));exact W61
  rw[p] at t l;have k:=J l;clear p l;go_in;go_wp21;refine(t.o).mono ?_;rintro x w1 ⟨kc,rfl,Q,E⟩;obtain⟨b,rfl,G⟩:=H7 Q;have q:=J (E.alloc E.size (.cells #[(1:Int),(128:Int),.func (.func 166) #[] #[],.func (.func 167) #[] #[],.func (.func 168) #[] #[],.func (.func 169) #[] #[],.string ⟨#[98]⟩] 157));exact W5N
 .clear z;have d9:=J y;have g:=J (λ(W:aq) (D:gl W)=>Zpf wd v D);have u:sD Z3 1 wd v=Z3 v:=rfl;rw[u] at l;clear u y;generalize Z3 v=R at*;clear B;generalize bs v=S at*;cases p:dS (1,wd);.rw[p] at t l;have k:=J l;clear p l;go_in;go_wp21;refine(t.o).mono ?_;rintro x w1 ⟨kc,rfl,Q,E⟩;obtain⟨b,rfl,G⟩:=H8 Q;have q:=J (E.alloc E.size (.cells #[(0:Int),(0:Int),.func (.func 170) #[] #[],.func (.func 221) #[] #[.pointer (some ⟨b,0,none⟩)],.func (.func 173) #[] #[],.func (.func 175) #[] #[],.string ⟨#[114]⟩] 157));exact W61
  rw[p] at t l;have k:=J l;clear p l;go_in;go_wp21;refine(t.o).mono ?_;rintro x w1 ⟨kc,rfl,Q,E⟩;obtain⟨b,rfl,G⟩:=H8 Q;have q:=J (E.alloc E.size (.cells #[(0:Int),(0:Int),.func (.func 170) #[] #[],.func (.func 221) #[] #[.pointer (some ⟨b,0,none⟩)],.func (.func 173) #[] #[],.func (.func 175) #[] #[],.string ⟨#[114]⟩] 157));exact W5N
 .clear z;have d9:=J y;have g:=J (λ(W:aq) (D:gl W)=>Zpg wd v W);have u:sD Z3 2 wd v=decide (v.length<=64):=rfl;rw[u] at l;clear u y;generalize decide (v.length<=64)=R at*;clear B;generalize bs v=S at*;cases p:dS (2,wd);.rw[p] at t l;have k:=J l;clear p l;go_in;go_wp21;refine(t.o).mono ?_;rintro x w1 ⟨kc,rfl,Q,E⟩;obtain⟨b,rfl,G⟩:=H9 Q;have q:=J (E.alloc E.size (.cells #[(0:Int),(0:Int),.func (.func 176) #[] #[],.func (.func 221) #[] #[.pointer (some ⟨b,0,none⟩)],.func (.func 177) #[] #[],.func (.func 179) #[] #[],.string ⟨#[115]⟩] 157));exact W61
  rw[p] at t l;have k:=J l;clear p l;go_in;go_wp21;refine(t.o).mono ?_;rintro x w1 ⟨kc,rfl,Q,E⟩;obtain⟨b,rfl,G⟩:=H9 Q;have q:=J (E.alloc E.size (.cells #[(0:Int),(0:Int),.func (.func 176) #[] #[],.func (.func 221) #[] #[.pointer (some ⟨b,0,none⟩)],.func (.func 177) #[] #[],.func (.func 179) #[] #[],.string ⟨#[115]⟩] 157));exact W5N
 clear z;have d9:=J y;have g:=J (λ(W:aq) (D:gl W)=>Zph wd v W);have u:sD Z3 3 wd v=decide (v=[]):=rfl;rw[u] at l;clear u y;generalize decide (v=[])=R at*;clear B;generalize bs v=S at*;cases p:dS (3,wd);.rw[p] at t l;have k:=J l;clear p l;go_in;go_wp21;refine(t.o).mono ?_;rintro x w1 ⟨kc,rfl,Q,E⟩;obtain⟨b,rfl,G⟩:=H' Q;have q:=J (E.alloc E.size (.cells #[(0:Int),(0:Int),.func (.func 180) #[] #[],.func (.func 221) #[] #[.pointer (some ⟨b,0,none⟩)],.func (.func 181) #[] #[],.func (.func 182) #[] #[],.string ⟨#[]⟩] 157));exact W61
 rw[p] at t l;have k:=J l;clear p l;go_in;go_wp21;refine(t.o).mono ?_;rintro x w1 ⟨kc,rfl,Q,E⟩;obtain⟨b,rfl,G⟩:=H' Q;have q:=J (E.alloc E.size (.cells #[(0:Int),(0:Int),.func (.func 180) #[] #[],.func (.func 221) #[] #[.pointer (some ⟨b,0,none⟩)],.func (.func 181) #[] #[],.func (.func 182) #[] #[],.string ⟨#[]⟩] 157));exact W5N
theorem Zqs (h:dS (0,n)=true):mr n 120=qN (0,n):=by obtain⟨h1,g⟩:=XI h rfl;unfold mr qN;rw[Vae (by rintro(h|h|h)<;>first|exact absurd h O|exact absurd h aY),Vag rfl]
theorem Zh2 (n wd:Int) (w:aq):
  Calls prog 87 #[n,wd] w (bM w (bs (if dS (n,wd) then qN (n,wd) else[]))):=by
 have g:=J (Me n wd w);by_cases l:n<0\/4<=n;have k:=Mq (wd:=wd) l;have t:=J l;rw[k] at g⊢;rw[Vae aY,show bs ([]:ax)=⟨#[]⟩ from rfl];clear l k;exact W6D;have y:n=0\/n=1\/n=2\/n=3:=O;rcases y with rfl|rfl|rfl|rfl;.clear l;cases k:dS (0,wd);rw[k] at g;rw[Vae aY,show bs ([]:ax)=⟨#[]⟩ from rfl];clear k;exact Oj;rw[k] at g;rw[Vag rfl];have u:=J (λW=>Zpe wd W);rw[Zqs k] at u;generalize bs (qN (0,wd))=S at*;clear k;go_in;go_wp21;refine(g.o).mono ?_;rintro x w1 ⟨kc,rfl,Q,E⟩;obtain⟨b,rfl,G⟩:=H7 Q;have q:=J (E.alloc E.size (.cells #[(1:Int),(128:Int),.func (.func 166) #[] #[],.func (.func 167) #[] #[],.func (.func 168) #[] #[],.func (.func 169) #[] #[],.string ⟨#[98]⟩] 157));have p:=J G;clear Q E G;go_wp21;refine ij (u.o _) q λz a3=>?_;go_wp2;go_returns;exact⟨rfl,a3.o⟩
 .clear l;cases k:dS (1,wd);rw[k] at g;rw[Vae aY,show bs ([]:ax)=⟨#[]⟩ from rfl];clear k;exact N6;rw[k] at g;rw[Vag rfl];rw[show bs (qN (1,wd))=⟨#[48]⟩ from rfl];clear k;go_in;go_wp21;refine(g.o).mono ?_;rintro x w1 ⟨kc,rfl,Q,E⟩;obtain⟨b,rfl,G⟩:=H8 Q;have q:=J (E.alloc E.size (.cells #[(0:Int),(0:Int),.func (.func 170) #[] #[],.func (.func 221) #[] #[.pointer (some ⟨b,0,none⟩)],.func (.func 173) #[] #[],.func (.func 175) #[] #[],.string ⟨#[114]⟩] 157));have p:=J G;clear Q E G;go_wp21;refine cp (Kq wd b _ (p.o.alloc (.cells #[(0:Int),(0:Int),.func (.func 170) #[] #[],.func (.func 221) #[] #[.pointer (some ⟨b,0,none⟩)],.func (.func 173) #[] #[],.func (.func 175) #[] #[],.string ⟨#[114]⟩] 157))) ?_;exact Jh
 .clear l;cases k:dS (2,wd);rw[k] at g;rw[Vae aY,show bs ([]:ax)=⟨#[]⟩ from rfl];clear k;exact Od;rw[k] at g;rw[Vag rfl];rw[show bs (qN (2,wd))=⟨#[]⟩ from rfl];clear k;go_in;go_wp21;refine(g.o).mono ?_;rintro x w1 ⟨kc,rfl,Q,E⟩;obtain⟨b,rfl,G⟩:=H9 Q;have q:=J (E.alloc E.size (.cells #[(0:Int),(0:Int),.func (.func 176) #[] #[],.func (.func 221) #[] #[.pointer (some ⟨b,0,none⟩)],.func (.func 177) #[] #[],.func (.func 179) #[] #[],.string ⟨#[115]⟩] 157));have p:=J G;clear Q E G;go_wp21;refine cp (Kq wd b _ (p.o.alloc (.cells #[(0:Int),(0:Int),.func (.func 176) #[] #[],.func (.func 221) #[] #[.pointer (some ⟨b,0,none⟩)],.func (.func 177) #[] #[],.func (.func 179) #[] #[],.string ⟨#[115]⟩] 157))) ?_;exact Jh
 clear l;cases k:dS (3,wd);rw[k] at g;rw[Vae aY,show bs ([]:ax)=⟨#[]⟩ from rfl];clear k;exact Og;rw[k] at g;rw[Vag rfl];rw[show bs (qN (3,wd))=⟨#[]⟩ from rfl];clear k;go_in;go_wp21;refine(g.o).mono ?_;rintro x w1 ⟨kc,rfl,Q,E⟩;obtain⟨b,rfl,G⟩:=H' Q;have q:=J (E.alloc E.size (.cells #[(0:Int),(0:Int),.func (.func 180) #[] #[],.func (.func 221) #[] #[.pointer (some ⟨b,0,none⟩)],.func (.func 181) #[] #[],.func (.func 182) #[] #[],.string ⟨#[]⟩] 157));have p:=J G;clear Q E G;go_wp21;refine cp (Kq wd b _ (p.o.alloc (.cells #[(0:Int),(0:Int),.func (.func 180) #[] #[],.func (.func 221) #[] #[.pointer (some ⟨b,0,none⟩)],.func (.func 181) #[] #[],.func (.func 182) #[] #[],.string ⟨#[]⟩] 157))) ?_;exact Jh
