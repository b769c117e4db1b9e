import Derived.Test.YtnjkjoklnephcaaGreatDoorJ09
import Derived.Lib.AppendStr
import Derived.Lib.MinMax
set_option linter.all false
set_option maxRecDepth 100000
set_option maxHeartbeats 0
section
variable{P Q:Prop}
theorem Aw(h:P:=by rw[Z0];omega):P:=h
theorem vX(h:P:=by simp<;>omega):P:=h
theorem As(h:P:=by show ¬_=_;omega):P:=h
theorem Fg(h:P:=by first|trivial|rfl):P:=h
theorem iW(h:P:=by with_reducible rfl):P:=h
theorem Rm(h:P:=by simp[results,results253,go_sem,g,l,t];try rfl):P:=h
theorem OK(h:P:=by rw[lN];intro e;exact g (UInt8.toNat_inj.1 (by rw[show(48:ci).toNat=48 from rfl];omega))):P:=h
theorem IW(h:P:=by go_wp2;rw[q.o];refine bodyPost_ret (by simp[results,results224,go_sem,g,l,t];try rfl) rfl ?_;rw[<-u.o];exact⟨_,_,rfl,p.o,⟨_,_,_,_,_,rfl⟩,rfl⟩):P:=h
theorem Nx(h:P:=by
 cases b
 all_goals
  go_wp21;refine aO (g.o _) λw3 y=>?_;have k:=q.o.trans (y.mono q.o.size);go_wp21;refine aO (z.o _ k) λb0 u=>?_;have l:=k.trans (u.mono k.size);clear k y u c0 c1 c2;go_wp2;go_returns;exact⟨Zl7 (by have:=t.o;simpa using this) (by rw[p.o];rfl),l⟩):P:=h
end
namespace Go.Proofs.Y
open Tryz Wv Go.RowKit
variable{A:bS}{D L S d:ax}{F e:Int}{W W' w w0 w1 wx wy:au}{b:Bool}{ba bb k n:Nat}{p:Addr}{s:aS}{v v':aJ}
def DR (w:au) (v:aJ) (d:ax):Prop:=∃A cap,v=.slice A d cap/\At w A (d.map bv)/\d.length<=cap/\cap<=maxLen
theorem DR.nil (w:au):DR w (.slice none 0 0) []:=⟨none,0,rfl,At.nil _ _,aW,cf _⟩
theorem SZ (c:ci) (t:ax):X7 (c::t)=if c=48 then X7 t else c::t:=by unfold X7;rw[List.dropWhile_cons];by_cases h:c=48;subst h;rfl;rw[az h,az (by simpa using h)]
theorem ZnU (h:At w A (d.map bv)) (n cap:Nat) (a3:n=d) (b4:n<=cap) (G:cap<=maxLen):
  Calls prog 310 #[(A,n,cap),.int .u8 48] w λx w'=>∃v,x=.returned v/\DR w' v (X7 d)/\Below w w w':=by
 have b1:=J h;have b2:cap<=9223372036854775807:=(by unfold maxLen at G;omega);have a8:=J a3;have a7:=J G;clear h a3 G;go_in;go_wp2;go_loopw [0] (λv wr=>∃(k m p:Nat) (D:bS),k<=d/\m=d.length-k/\v=.slice D m p/\At wr D ((d.drop k).map bv)/\m<=p/\p<=9223372036854775807/\Hid (p<=maxLen)/\Hid (X7 (d.drop k)=X7 d)/\Below w w wr) (λv _=>match v with|.slice _ m _=>m|_=>0);exact⟨0,n,cap,A,O,by rw[<-a8.o,Nat.sub_zero],rfl,b1.o,b4,b2,a7,J rfl,bi _ _⟩;obtain⟨k,m,p,D,b8,u,rfl,q,a9,b6,a0,y,z⟩:=hrel;by_cases h0:0<m
 .have ab:k<d:=O;have hd:d.drop k=d[k]::d.drop (k+1):=kw ab;obtain⟨c,I⟩:=ay d[k];rw[I] at hd;have M:=q;rw[hd] at q;obtain⟨b,o,b3,hb,F⟩:=q.get 0 (bv c) rfl;subst b3;have b9:wr.cell? (b,o)=some (.int .u8 (c.toNat:Int)):=F;have Q:=Ve q 1;have E:=SZ c (d.drop (k+1));have l:=y.o;rw[hd] at l;rw[E] at l;by_cases g:c=48
  .rw[aP g] at l;subst g;obtain⟨t,a6,S⟩:=bF l Q z;clear l Q z q M hd I E y F;have B:=J u;have a1:=J (show m-1=d.length-(k+1) by omega);clear u;by_cases a2:p=1;.have b5:m=1:=O;go_wp2;refine⟨⟨k+1,0,0,some ⟨b,o,none⟩,O,by have:=a1.o;omega,rfl,?_,aW,O,J (cf _),t,S.o⟩,by show 0<m;omega⟩;have:d.drop (k+1)=[]:=oe (by have:=B.o;omega);rw[this];exact At.nil _ _
   go_wp2;refine⟨⟨k+1,m-1,p-1,some ⟨b,o+1,none⟩,O,a1.o,by first|rw[az a2]|rfl,?_,O,O,J (by have:=a0.o;omega),t,S.o⟩,by first|(rw[az a2];show m-1<m;omega)|(show m-1<m;omega)⟩;have:=a6.o;rw[tV,List.drop_one,List.tail_cons] at this;exact this
  rw[az g] at l;have b7:((c.toNat:Int)==48)=false:=OK;obtain⟨t,b0,Hd,B⟩:=dm l M hd u;have a5:((m:Int)==0)=false:=rY;clear l q M hd I E y F Q g u;go_wp2;go_returns;rw[<-t.o,<-Hd.o];exact⟨.slice (some (b,o)) m p,rfl,⟨_,p,by rw[jt,<-B.o],b0.o,by rw[jt,<-B.o];exact a9,a0.o⟩,z⟩
 have a5:m=0:=O;have R:d.drop k=[]:=oe O;have l:=y.o;rw[R] at l;have a4:X7 ([]:ax)=[]:=rfl;rw[a4] at l;have t:=J l;clear y R l a4 q u;subst a5;go_wp2;go_returns;rw[<-t.o];exact⟨_,rfl,DR.nil _,z⟩
theorem Z7H (h:At w A (d.map bv)) (n cap:Nat) (g:n=d) (l:n<=cap) (k:cap<=maxLen):
  Calls prog 287 #[(A,n,cap),.string ⟨#[48]⟩] w λx w'=>∃v,x=.returned v/\DR w' v (X7 d)/\Below w w w':=by
 have H:=J (ZnU h n cap g l k);by_cases h0:n=0;.subst h0;have hd:d=[]:=gx g.symm;subst hd;clear h g H k;go_in;go_wp2;go_returns;exact⟨_,rfl,DR.nil _,bi _ _⟩
 have q:((n:Int)==0)=false:=rY;have p:((⟨#[48]⟩:aS)[0]'Nat.zero_lt_one)=48:=rfl;clear h g k h0 l;go_in;go_wp2_with (go_at_call 310;refine(H.o).mono ?_;rintro x w1 ⟨v,rfl,hd,hb⟩);go_returns;exact⟨_,rfl,hd,hb⟩
theorem Zcu (d:ax) (c:ci):YE (d++[c])=if c=48 then YE d else d++[c]:=by unfold YE;rw[List.reverse_append,List.reverse_singleton,List.singleton_append,SZ];split;rfl;rw[List.reverse_cons,List.reverse_reverse]
theorem ZnX (h:At w A (d.map bv)) (n cap:Nat) (F:n=d) (a0:n<=cap) (E:cap<=maxLen):
  Calls prog 314 #[(A,n,cap),.int .u8 48] w (bN w (.slice A (YE d) cap)):=by
 have G:=J h;have S:cap<=9223372036854775807:=(by unfold maxLen at E;omega);have D:=J F;clear h F E;go_in;go_wp2;go_loopw [0] (λv wr=>∃k:Nat,k<=n/\v=.slice A k cap/\Hid (YE (d.take k)=YE d)/\Below w w wr) (λv _=>match v with|.slice _ m _=>m|_=>0);exact⟨n,aW,rfl,J (by rw[D.o,pm]),bi _ _⟩;obtain⟨k,a1,rfl,q,t⟩:=hrel;by_cases h0:0<k
 .obtain⟨j,rfl⟩:∃j,k=j+1:=⟨k-1,O⟩;have u:j<d.length:=(by rw[<-D.o];omega);have hd:d.take (j+1)=d.take j++[d[j]]:=dD u;obtain⟨c,y⟩:=ay d[j];rw[y] at hd;have p:=q.o;rw[hd,Zcu] at p;obtain⟨b,o,M,hb,B⟩:=(G.o.below t).get j (bv c) (by rw[jV,fD u,y];rfl);have a2:wr.cell? ⟨b,o+j,none⟩=some (.int .u8 (c.toNat:Int)):=B;subst M;by_cases g:c=48;.rw[aP g] at p;subst g;have Q:=J p;clear p hd y q B u;go_wp2;refine⟨⟨j,O,rfl,Q,t⟩,by show j<j+1;omega⟩
  rw[az g] at p;have R:((c.toNat:Int)==48)=false:=OK;have l:(YE d).length=j+1:=by rw[<-p,bT,eC];exact fp
  have z:=J l;clear p hd y q B u g l;go_wp2;go_returns;exact⟨by rw[z.o]<;>rfl,t⟩
 have I:k=0:=O;subst I;have l:(YE d).length=0:=(by rw[<-q.o];rfl);have z:=J l;clear q l;go_wp2;go_returns;exact⟨by rw[z.o]<;>rfl,t⟩
theorem Z60 (h:At w A (d.map bv)) (n cap:Nat) (g:n=d) (l:n<=cap) (k:cap<=maxLen):
  Calls prog 288 #[(A,n,cap),.string ⟨#[48]⟩] w (bN w (.slice A (YE d) cap)):=by
 have H:=J (ZnX h n cap g l k);by_cases h0:n=0;.subst h0;have hd:d=[]:=gx g.symm;subst hd;have p:(YE ([]:ax)).length=0:=rfl;rw[p];clear h g H k p;go_in;go_wp2;go_returns;exact⟨rfl,bi _ _⟩
 have t:((n:Int)==0)=false:=rY;have q:((⟨#[48]⟩:aS)[0]'Nat.zero_lt_one)=48:=rfl;clear h g k h0 l;go_in;go_wp2_with (go_at_call 314;refine(H.o).mono ?_;rintro x w1 ⟨rfl,hb⟩);go_returns;exact⟨rfl,hb⟩
theorem A' {r:Nat} (l:Bk w r 301 #[false,.slice none 0 0,(0:Int)]) (hb:Below w0 w0 w) (h0:w0<=r) (p:At w A (L.map bv)) (b:Bool) (v:aJ) (e:Int):
  ∃W,(((w.setCell (r,0) (.bool b)).setCell (r,1) v).setCell (r,2) e)=W/\W.cell? (r,0)=some (.bool b)/\W.cell? (r,1)=some v/\W.cell? (r,2)=some (.int .i64 e)/\At W A (L.map bv)/\Below w0 w0 W:=by have k:Fr (only r) w (((w.setCell (r,0) (.bool b)).setCell (r,1) v).setCell (r,2) e):=Xp (Xp (Xp (Fr.refl _ _) 0 _) 1 _) 2 _;have g:=((l.put 0 (.bool b)).put 1 v).put 2 e;exact⟨_,rfl,g.cell 0,g.cell 1,g.cell 2,Zls p l (λx t=>by obtain⟨q,_,rfl⟩:=iV.1 t;simp[bv]) k,hb.trans (Ks k hb.size h0)⟩
theorem Zfu {n:gY} (h:NV w v n) (h3:Sz n):
  Calls prog 253 #[v] w λx w'=>∃v',x=.returned v'/\NV w' v' (XA n)/\Below w w w':=by
 obtain⟨A,cap,rfl,d6,h0,h1⟩:=h;obtain⟨b,d,e⟩:=n;obtain⟨s1,i6,s3⟩:=h3;simp only at*;have b4:=Bk.new (w.alloc (.cells #[b,(A,d.length,cap),e] 301)) 301 #[false,.slice none 0 0,(0:Int)];rw[World.size_alloc] at b4;have c8:Bk ((w.alloc (.cells #[b,(A,d.length,cap),e] 301)).alloc (.cells #[false,.slice none 0 0,(0:Int)] 301)) w 301 #[b,(A,d.length,cap),e]:=Bk.alloc (Bk.new _ _ _) _;have d7:=UB w (.cells #[b,(A,d.length,cap),e] 301) (.cells #[false,.slice none 0 0,(0:Int)] 301);have g4:=(d6.alloc (.cells #[b,(A,d.length,cap),e] 301)).alloc (.cells #[false,.slice none 0 0,(0:Int)] 301);obtain⟨d1,c5,b8,a8⟩:=dm (Z7H g4 d cap rfl h0 h1) c8 b4 d7;clear d6 g4 c8 b4 d7;go_in;go_wp21;refine(d1.o).mono ?_;rintro x w1 ⟨i7,rfl,⟨A1,u,rfl,b2,d9,e9⟩,a9⟩;obtain⟨T,S⟩:=ay (X7 d);have i2:T<=d.length:=(by rw[<-S];exact Ki d);have c4:XA ⟨b,d,e⟩=if YE T=[] then wB else⟨b,YE T,e+((T.length-(YE T).length:Nat):Int)⟩:=by unfold XA;simp only[S]
 rw[S] at b2 d9;obtain⟨R,Q⟩:=ay (YE T);have i0:R<=T.length:=(by rw[<-Q];exact Uz T);have c7:T.take R.length=R:=by obtain⟨k,f4⟩:=UA T;rw[Q] at f4;have:T.take R.length=(R++List.replicate k 48).take R.length:=(by rw[<-f4]);rw[this,List.take_left]
 have a1:=Bk.below c5.o a9 (Bk.lt c5.o);have e2:=Bk.below b8.o a9 (Bk.lt b8.o);have f7:=a8.o.trans (a9.mono a8.o.size);have F:∀v∈T.map bv,v∉(#[b,(A,d.length,cap),e]:Array aJ).toList:=λv b6=>by obtain⟨y,_,rfl⟩:=iV.1 b6;simp[bv]
 have b1:=L9 b2 a1 F 1 (.slice A1 T u);have e6:=a1.put 1 (.slice A1 T u);have d8:=e2.off (p:=⟨w,1,none⟩) (by simp) (.slice A1 T u);have g3:=f7.setCell (p:=⟨w,1,none⟩) aW (.slice A1 T u);have c1:=a1.cell 1;have f1:=a1.frozen 1;simp at c1;have b5:=Z60 b1 T u rfl d9 e9;rw[Q] at b5;rw[S];obtain⟨d2,c6,b3,c3,f6⟩:=ia b5 e6 d8 g3 b1;rw[Q] at c4;have a2:=J c4;have c9:=J c7;clear a1 e2 f7 F b1 e6 d8 g3 a9 b2 d1 c5 b8 a8 c4 c7 S Q b5;go_wp21;refine aO d2.o λg5 aa=>?_;have f9:=Bk.below c6.o aa (Bk.lt c6.o);have B:=Bk.below b3.o aa (Bk.lt b3.o);have e5:=f6.o.below aa;have f3:=c3.o.trans (aa.mono c3.o.size);clear c1 f1;have e7:((T.length-R.length:Nat):Int)=(T.length:Int)-R.length:=O;obtain⟨E,g8⟩:=ay (e+((T.length:Int)-R.length));have F:∀(L:ax) (x:Bool) (y:aJ) (z:Int),y=.slice A1 T u\/y=.slice none 0 0->∀v∈L.map bv,v∉(#[x,y,z]:Array aJ).toList:=λL x y z h4 v b6=>by obtain⟨q,_,rfl⟩:=iV.1 b6;rcases h4 with rfl|rfl<;>simp[bv]
 have D:Bk g5 w 301 #[b,(A1,T.length,u),e]:=(by simpa using f9);have d4:Bk (g5.setCell (w,2) E) w 301 #[b,(A1,T.length,u),E]:=(by simpa using D.put 2 E);have e8:=L9 e5 D (F _ _ _ _ (.inl rfl)) 2 E;have e4:=L9 e8 d4 (F _ _ _ _ (.inl rfl)) 1 (.slice A1 R R);have e3:=(B.off (p:=⟨w,2,none⟩) (by simp) E).off (p:=⟨w,1,none⟩) (by simp) (.slice A1 R R);have f8:=(f3.setCell (p:=⟨w,2,none⟩) aW E).setCell (p:=⟨w,1,none⟩) aW (.slice A1 R R);have c0:=D.cell 0;have c1:=D.cell 1;have c2:=D.cell 2;have f1:=D.frozen 1;have i1:=D.frozen 2;have r0:=B.cell 0;have h6:=B.cell 1;have h7:=B.cell 2;have i3:=B.frozen 0;have i4:=B.frozen 1;have i5:=B.frozen 2;simp at c0 c1 c2 r0 h6 h7;have h5:=J F;have b0:=VG e4 R;rw[<-Ce,c9.o] at b0;obtain⟨a3,a5,a6⟩:=bF b0 e3 f8;have g9: -4000000<=E/\E<=4000000:=O;have d3:=J g8;have d5:=J e7;clear e7;have g7:R<=u:=O;clear f9 D d4 e5 e8 e4 b0 B e3 f3 f8 aa c6 b3 c3 f6 d2 F;by_cases I:R=[];.have f5:R.length=0:=(by rw[I];rfl);have G:=a2.o;rw[aP I] at G;have a7:=J G;obtain⟨g6,a0,g,l,t,a4,M⟩:=A' a5.o a6.o O a3.o false (.slice none 0 0) 0;have b9:=J a0;have b7:=J M;have h9:((R.length:Int)==0)=true:=(by rw[beq_iff_eq];omega);clear G a2 a0 a4 M a5 a6 a3 I d3 d5 h5 c9 f5;go_wp2;rw[b9.o];refine bodyPost_ret Rm rfl ?_;rw[a7.o];exact⟨_,rfl,⟨none,0,rfl,At.nil _ _,aW,cf _⟩,b7.o⟩
 have f5:((R.length:Int)==0)=false:=by rw[lN];intro h;exact I (gx O)
 have G:=a2.o;rw[az I] at G;have a7:=J G;obtain⟨g6,a0,g,l,t,a4,M⟩:=A' a5.o a6.o O a3.o b (.slice A1 R R) E;obtain⟨b9,h8,b7⟩:=bF a0 a4 M;clear G I a2 a0 a4 M a5 a6 a3;go_wp2;rw[b9.o];refine bodyPost_ret Rm rfl ?_;rw[a7.o];exact⟨_,rfl,⟨A1,R.length,by rw[d5.o,d3.o],h8.o,aW,cp g7 e9⟩,b7.o⟩
def ii (S L:ax) (k:Nat):Bool:=match L[k]? with
 |some c=>S.contains c
 |none=>false
def lY (S L:ax) (k:Nat):Nat:=if ii S L k then k+1 else k
theorem Lm (s:aS) (k:Nat) (h:k<s.size):(aH s)[k]? =some (s[k]'h):=by have g:k<(aH s):=h;rw[fD g];simp only[aH,Array.getElem_toList];rfl
theorem ZlM (s:aS) (k:Nat) (h:¬k<s.size):(aH s)[k]? =none:=Cj CF
theorem Zn3 (b9:Bk w ba 3 #[k]) (hb:Bk w bb 9 #[s]) (c9:k<=s.size) (d1:s.size<=64) (b0:S.length<=2):
  Calls prog 251 #[bs S,(ba,0),(bb,0)] w λx w'=>x=.returned (ii S (aH s) k)/\Bk w' ba 3 #[lY S (aH s) k]/\Bk w' bb 9 #[s]/\Fr (only ba) w w':=by
 have Ha:=J b9;have a5:=J hb;have E:(bs S).size=S:=rfl;by_cases ab:k<s.size
 .have a6:=Lm s k ab;obtain⟨c,b1⟩:=ay s[k];rw[b1] at a6;have t:ii S (aH s) k=S.contains c:=(by unfold ii;rw[a6]);have c6:((s[k]'ab).toNat:Int)=(c.toNat:Int):=(by rw[b1]);have b7:=J (show ∀(i:Nat) (h:i<(bs S).size) (b8:i<S.length),((bs S)[i]'h)=S[i] from λi h b8=>rfl);have I:=J t;have b5:=J (show S.contains c=false->lY S (aH s) k=k from λh=>by unfold lY;rw[t,h];rfl);have b6:=J (show S.contains c=true->lY S (aH s) k=k+1 from λh=>by unfold lY;rw[t,h];rfl);obtain⟨C,a8⟩:=ay c.toNat;rw[a8] at c6;have a3:=J a8;generalize bs S=B at*;obtain⟨L,F⟩:=ay S.length;have a4:=J F;rw[F] at E b0;have R:=J E;have a0:B.size<=2:=O;go_in;go_wp2;go_loopw [8] (λiv wr=>∃i:Nat,i<=B.size/\iv=.int .i64 i/\Bk wr ba 3 #[k]/\Bk wr bb 9 #[s]/\Hid (∀j,j<i->S[j]? ≠some c)/\Fr (only ba) w wr) (λiv _=>(B.size-intOf iv).toNat);exact⟨0,O,rfl,Ha.o,a5.o,J (λj h=>O),Fr.refl _ _⟩;obtain⟨i,hi,rfl,g,l,a7,q⟩:=hrel;have c0:=g.cell 0;have c1:=l.cell 0;have f0:=g.frozen 0;simp at c0 c1;by_cases Q:i<B.size
  .have b2:i<S.length:=(by rw[a4.o];have:=R.o;omega);obtain⟨d,hd⟩:=ay S[i];obtain⟨D,a1⟩:=ay d.toNat;have c7:((B[i]'Q).toNat:Int)=(D:Int):=(by rw[b7.o i Q b2,hd,a1]);by_cases G:c=d
   .have y:S.contains c=true:=by rw[List.contains_iff_mem,G,<-hd];exact dr _
    have c4:((C:Int)==D)=true:=(by rw[beq_iff_eq,<-a3.o,<-a1,G]);have u:=I.o;rw[y] at u;have M:=J u;have a2:=b6.o y;have z:=J a2;go_wp2;go_quiet (fail);go_wp2;go_returns;rw[M.o,z.o];refine⟨rfl,?_,(l.drewN nq).off (p:=⟨ba,0,none⟩) ?_ _,Xp (q.drewN nq) 0 _⟩;simpa using (g.drewN nq).put 0 (.int .i64 ((k+1:Nat):Int));exact λe=>(l.apart g aZ) e
   have c8:((C:Int)==D)=false:=by rw[lN,<-a3.o,<-a1];intro e;exact G (UInt8.toNat_inj.1 O)
   have b3:Hid (∀j,j<i+1->S[j]? ≠some c):=J (λj h=>by rcases Nat.lt_or_ge j i with h1|h1;exact a7.o j h1;have:j=i:=O;subst this;rw[fD b2,hd];intro e;injection e with e;exact G e.symm);go_wp2;go_quiet (fail);go_wp2;refine⟨⟨i+1,O,ck,g.drewN nq,l.drewN nq,b3,q.drewN nq⟩,?_⟩;simp[intOf]<;>omega
  have y:S.contains c=false:=by rw[Bool.eq_false_iff];intro h;rw[List.contains_iff_mem] at h;obtain⟨j,c5,c3⟩:=List.getElem_of_mem h;exact a7.o j (by have:=a4.o;have:=R.o;omega) (by rw[fD c5,c3])
  have u:=I.o;rw[y] at u;have M:=J u;have a2:=b5.o y;have z:=J a2;go_wp2;go_returns;rw[M.o,z.o];exact⟨rfl,g,l,q⟩
 have t:ii S (aH s) k=false:=(by unfold ii;rw[ZlM s k ab]);have b4:k=s.size:=O;have I:=J t;have z:=J (show lY S (aH s) k=k by unfold lY;rw[t];rfl);generalize bs S=B at*;obtain⟨L,F⟩:=ay S.length;rw[F] at E b0;have R:=J E;have a0:B.size<=2:=O;go_in;go_wp2;go_loopw [8] (λiv wr=>∃i:Nat,i<=B.size/\iv=.int .i64 i/\Bk wr ba 3 #[k]/\Bk wr bb 9 #[s]/\Fr (only ba) w wr) (λiv _=>(B.size-intOf iv).toNat);exact⟨0,O,rfl,Ha.o,a5.o,Fr.refl _ _⟩;obtain⟨i,hi,rfl,g,l,q⟩:=hrel;have c0:=g.cell 0;have c1:=l.cell 0;simp at c0 c1;by_cases Q:i<B.size;.go_wp2;go_quiet (fail);go_wp2;refine⟨⟨i+1,O,ck,g.drewN nq,l.drewN nq,q.drewN nq⟩,?_⟩;simp[intOf]<;>omega
 go_wp2;go_returns;rw[I.o,z.o];exact⟨rfl,by first|exact g|(rw[b4] at g;exact g),l,q⟩
theorem Z' (L:ax):fe L=L.take (fe L).length:=by have h:=(List.takeWhile_prefix m' (l:=L));exact(List.prefix_iff_eq_take.1 h)
theorem Zm5 (L:ax) (j:Nat) (h:j<(fe L)):∃c,L[j]? =some c/\m' c=true:=by obtain⟨c,k⟩:=ay ((fe L)[j]);have hd:m' c=true:=k▸G0 L _ (dr _);have h1:(fe L)[j]? =some c:=(by rw[fD h,k]);have g:(L.take (fe L))[j]? =some c:=(by rw[<-Z' L];exact h1);rw[List.getElem?_take,aP h] at g;exact⟨c,g,hd⟩
theorem Zir (L:ax):∀c,L[(fe L).length]? =some c->m' c=false:=by
 unfold fe;induction L with
 |nil=>intro c h;simp at h
 |cons a t ih=>intro c h;rw[List.takeWhile_cons] at h;split at h;rw[f',List.getElem?_cons_succ] at h;exact ih c h;rename_i ha;simp at h;subst h;simpa using ha
def MW (b n:Nat) (w:au):Nat:=match w.cell? ⟨b,0,none⟩ with
 |some (.int _ k)=>(n-k).toNat
 |_=>0
theorem ZkA {b:Nat} (h:Bk w b 3 #[k]):MW b n w=((n:Int)-k).toNat:=by have:=h.cell 0;simp at this;unfold MW;rw[this]
theorem Zml (s:aS) (a b:Nat):s.extract a b=bs (((aH s).drop a).take (b-a)):=by apply xc;apply pV.1;simp only[bs,aH,ByteArray.data_extract,Array.toList_extract,List.extract_eq_take_drop]
theorem Zm7 (S:Bk w ba 3 #[k]) (hb:Bk w bb 9 #[s]) (c5:k<=s.size) (c6:s.size<=64):
  Calls prog 252 #[(ba,0),(bb,0)] w λx w'=>x=.returned (bs (fe ((aH s).drop k)))/\Bk w' ba 3 #[((k+(fe ((aH s).drop k)).length:Nat):Int)]/\Bk w' bb 9 #[s]/\Fr (only ba) w w':=by
 have Ha:=J S;have a6:=J hb;have F:=Z' ((aH s).drop k);have I:=J (Zm5 ((aH s).drop k));have Q:=J (Zir ((aH s).drop k));obtain⟨D,M⟩:=ay (fe ((aH s).drop k));rw[M] at F I Q⊢;obtain⟨m,E⟩:=ay (k+D.length);have b4:D<=s.size-k:=by have:=G1 ((aH s).drop k);rw[M,jt,Z2] at this;exact this
 have c3:m<=s.size:=O;have q:s.extract k m=bs D:=by rw[Zml,show m-k=D by omega,<-F]
 have a2:=J q;have b9:=J E;rw[E];have b8:k<=m:=O;have b1:Hid (∀j,k<=j->j<m->∃(h:j<s.size),m' (s[j]'h)=true):=J (λj h1 c4=>by obtain⟨c,B,b2⟩:=I.o (j-k) O;have a1:j<s.size:=O;refine⟨a1,?_⟩;rw[List.getElem?_drop,show k+(j-k)=j by omega,Lm s j a1] at B;injection B with B;rw[B];exact b2);have b0:Hid (∀(h:m<s.size),m' (s[m]'h)=false):=J (λh=>by refine Q.o _ ?_;rw[List.getElem?_drop,show k+D.length=m from E];exact Lm s m h);clear S hb F I Q M b4 q E;have G:=Ha.o.cell 0;simp at G;go_in;go_wp2;go_loopw [] (λwr=>∃j:Nat,k<=j/\j<=m/\Bk wr ba 3 #[.int .i64 (j:Int)]/\Bk wr bb 9 #[s]/\Fr (only ba) w wr) (λwr=>MW ba m wr);exact⟨k,aW,b8,Ha.o,a6.o,Fr.refl _ _⟩;obtain⟨j,b7,c8,g,y,a0⟩:=hrel;have c0:=g.cell 0;have c1:=y.cell 0;have f0:=g.frozen 0;simp at c0 c1;by_cases ab:j<m
 .obtain⟨t,l⟩:=b1.o j b7 ab;obtain⟨C,b5⟩:=ay ((s[j]'t).toNat);have Ok:48<=C/\C<=57:=by unfold m' at l;simp at l;omega
  obtain⟨q1,q2⟩:=Ok;have a7:=y.apart g aZ;have a8:=g.put 0 (.int .i64 ((j+1:Nat):Int));obtain⟨R,z,u,a4⟩:=dm (show Bk (wr.setCell (ba,0) (.int .i64 ((j+1:Nat):Int))) ba 3 #[((j+1:Nat):Int)] by simpa using a8) (y.off (p:=⟨ba,0,none⟩) a7 (.int .i64 ((j+1:Nat):Int))) (Xp a0 0 (.int .i64 ((j+1:Nat):Int))) (ZkA (n:=m) g);go_wp2;have b3:(j:Int)+1=((j+1:Nat):Int):=O;rw[b3];refine⟨⟨j+1,O,O,R.o,z.o,u.o⟩,?_⟩;rw[ZkA R.o,a4.o];omega
 have a5:j=m:=O;subst a5;obtain⟨a3,z,u⟩:=bF g y a0;have c7:(k:Int)<=j:=O;by_cases t:j<s.size
 .have l:=b0.o t;obtain⟨C,b5⟩:=ay ((s[j]'t).toNat);have Ok:C<48\/57<C:=by unfold m' at l;simp at l;omega
  rcases Ok with q1|q1
  all_goals
   go_wp2;go_returns;exact⟨KZ a2.o,a3.o,z.o,u.o⟩
 have b6:¬(j:Int)<s.size:=O;go_wp2;go_returns;exact⟨KZ a2.o,a3.o,z.o,u.o⟩
theorem Zl7 {t:aS} {a b:Int} (h:s=t) (g:a=b):Ending.returned (.tuple #[s,a])=.returned (.tuple #[t,b]):=by rw[h,g]
theorem Zfs {n:gY} (h:NV w v n) (d5:Sz n) (c6:gL w):
  Calls prog 225 #[v] w (bN w (.tuple #[bs (Xw n).1,((Xw n).2:Int)])):=by
 obtain⟨A,cap,rfl,b8,d4,e7⟩:=h;obtain⟨b,d,e⟩:=n;obtain⟨s1,d8,s3⟩:=d5;simp only at*
 have B:Xw ⟨b,d,e⟩=if d=[] then([48],0) else if 17<d.length\/e+d.length-1< -400\/400<e+d.length-1 then([],9)
  else((if b then[45] else[])++d.take 1++(if 1<d.length then 46::d.drop 1 else[])++101::kd (e+d.length-1),0):=rfl;have b9:=(bi w w).alloc aW (.cells #[b,(A,d.length,cap),e] 301);have b6:Bk (w.alloc (.cells #[b,(A,d.length,cap),e] 301)) w 301 #[b,(A,d.length,cap),e]:=Bk.new _ _ _;obtain⟨E,R,a8,c8,g⟩:=ia b9 b6 b8 c6 (λW=>ZbV b A d cap e s1 d8 s3 W);clear b9 b6 b8 c6;by_cases h0:d=[];.subst h0;have D:=J (B.trans (aP rfl));clear B g;go_in;go_wp2;go_returns;exact⟨by rw[D.o]<;>rfl,E.o⟩
 rw[az h0] at B;have d2:((d.length:Int)==0)=false:=by rw[lN];intro h;exact h0 (gx O)
 have b4:0<d.length:=List.length_pos_iff.2 h0;obtain⟨L,c4⟩:=ay d.length;obtain⟨F,hF⟩:=ay (e+(L:Int)-1);rw[c4] at B g R E d4 d2 b4 s3⊢;rw[hF] at B g;by_cases a3:17<L;.rw[aP (.inl a3)] at B;have D:=J B;have c9:(17:Int)<L:=O;clear B g a3 hF;go_in;go_wp2;go_returns;exact⟨by rw[D.o]<;>rfl,E.o⟩
 have c9:¬(17:Int)<L:=O;by_cases d6:F< -400;.rw[aP (.inr (.inl d6))] at B;have D:=J B;clear B a3 hF;go_in;go_wp21;refine aO (g.o _) λw1 I=>?_;have b1:=E.o.trans (I.mono E.o.size);go_wp2;go_returns;exact⟨by rw[D.o]<;>rfl,b1⟩
 by_cases d7:400<F;.rw[aP (.inr (.inr d7))] at B;have D:=J B;clear B a3 hF;go_in;go_wp21;refine aO (g.o _) λw1 I=>?_;have G:=Bk.below R.o I (Bk.lt R.o);have a2:=E.o.trans (I.mono E.o.size);have c0:=G.cell 0;have c1:=G.cell 1;have c2:=G.cell 2;simp at c0 c1 c2;have Q:=J a2;clear G a2 I;go_wp21;refine aO (g.o _) λS aa=>?_;have b1:=Q.o.trans (aa.mono Q.o.size);go_wp2;go_returns;exact⟨by rw[D.o]<;>rfl,b1⟩
 rw[az O] at B;have D:=J B;have a7:=J c4;clear B a3 hF;go_in;go_wp21;refine aO (g.o _) λw1 I=>?_;have G:=Bk.below R.o I (Bk.lt R.o);have a2:=E.o.trans (I.mono E.o.size);have c0:=G.cell 0;have c1:=G.cell 1;have c2:=G.cell 2;simp at c0 c1 c2;have a6:=J G;have Q:=J a2;clear G a2 I;go_wp21;refine aO (g.o _) λS aa=>?_;have a0:=Bk.below a6.o aa (Bk.lt a6.o);have a4:=Q.o.trans (aa.mono Q.o.size);clear c0 c1 c2;have c0:=a0.cell 0;have c1:=a0.cell 1;have c2:=a0.cell 2;simp at c0 c1 c2;have a1:=a8.o.below a4;have a5:(d.take 1).length=1:=(by rw[eC,a7.o];omega);have e4:(convert 88 9 (.slice A 1 cap)).run prog S=.ok (.string (bs (d.take 1))) S:=by have:=n_ (P:=prog) 88 9 5 underlying88 underlying5 underlying9 (w:=S) (A:=A) (l:=d.take 1) (by rw[Ce];exact VG a1 1) cap;rw[a5] at this;exact this
 have z:=J (λW (h:Below w w W)=>Zfk (c8.o.below h) F O O);have b5:(kd F).length<=4:=by unfold kd;split;have:=AZ (n:=(-F).toNat) (k:=3) O O;rw[f'];omega;have:=AZ (n:=F.toNat) (k:=3) O O;omega
 have e9:(bs (d.take 1)).size<=1:=(by rw[Z0,a5];exact aW);have f3:(bs (kd F)).size<=4:=(by rw[Z0];exact b5);have e8:=J a0;have q:=J a4;by_cases b7:L=1
 .have M:=D.o;rw[az (show ¬1<L by omega),fu] at M;have t:Hid ((if b then(⟨#[45]⟩:aS)++bs (d.take 1) else bs (d.take 1))++(⟨#[101]⟩:aS)++bs (kd F)=bs (Xw ⟨b,d,e⟩).1):=J (by rw[M];have b2:(⟨#[101]⟩:aS)=bs [101]:=rfl;have b3:(⟨#[45]⟩:aS)=bs [45]:=rfl;rw[b2,b3];cases b;simp[Z8];simp[Z8]);have p:Hid ((Xw ⟨b,d,e⟩).2=0):=J (by rw[M]);subst b7;generalize bs (d.take 1)=S1 at*;generalize bs (kd F)=S3 at*;clear M D a0 a4 a1 a5 b5 a6 Q R E a8 aa;exact Nx
 have d9:1<L:=O;have c5:(1:Int)<L:=O;have M:=D.o;rw[aP d9] at M;obtain⟨c3,c7,d3,_⟩:=a1 0 (by rw[dc,a7.o];omega);subst d3;have l2:(d.drop 1)=L-1:=(by rw[jt,a7.o]);have e5:(convert 88 9 (.slice (some (c3,c7+1)) (L-1) (cap-1))).run prog S=.ok (.string (bs (d.drop 1))) S:=by have:=n_ (P:=prog) 88 9 5 underlying88 underlying5 underlying9 (w:=S) (A:=some ⟨c3,c7+1,none⟩) (l:=d.drop 1) (by rw[List.map_drop];exact Ve a1 1) (cap-1);rw[l2] at this;exact this
 have e6:¬cap=1:=O;have f2:(bs (d.drop 1)).size<=17:=(by rw[Z0,l2];omega);have t:Hid ((if b then(⟨#[45]⟩:aS)++(bs (d.take 1)++((⟨#[46]⟩:aS)++bs (d.drop 1))) else bs (d.take 1)++((⟨#[46]⟩:aS)++bs (d.drop 1)))++(⟨#[101]⟩:aS)++bs (kd F)=bs (Xw ⟨b,d,e⟩).1):=J (by rw[M];have b2:(⟨#[101]⟩:aS)=bs [101]:=rfl;have b3:(⟨#[45]⟩:aS)=bs [45]:=rfl;have d1:(⟨#[46]⟩:aS)=bs [46]:=rfl;rw[b2,b3,d1];cases b;simp[Z8];simp[Z8]);have p:Hid ((Xw ⟨b,d,e⟩).2=0):=J (by rw[M]);generalize bs (d.take 1)=S1 at*;generalize bs (d.drop 1)=S2 at*;generalize bs (kd F)=S3 at*;clear M D a0 a4 a1 a5 l2 b5 a6 Q R E a8 aa b7;exact Nx
def ot (L:ax) (k:Nat):Nat:=if ii [45] L k then k+1 else lY [43] L k
theorem QK (S L:ax) (k:Nat):(L<=k/\ii S L k=false/\L.drop k=[])\/(∃c,L[k]? =some c/\k<L/\ii S L k=S.contains c/\L.drop k=c::L.drop (k+1)):=by by_cases h:k<L;right;refine⟨L[k],fD h,h,?_,kw h⟩;unfold ii;rw[fD h];left;refine⟨O,?_,oe O⟩;unfold ii;rw[Cj O]
theorem UY (L:ax) (k:Nat):lF (L.drop k)=(ii [45] L k,L.drop (ot L k)):=by unfold ot lY;rcases QK [45] L k with ⟨h1,t,g⟩|⟨c,h1,t,g,u⟩;have l:ii [43] L k=false:=(by unfold ii;rw[Cj h1]);rw[t,l,g];simp[lF,g];have l:ii [43] L k=[43].contains c:=(by unfold ii;rw[h1]);rw[g,l,u,K0];by_cases p:c=45;subst p;simp;by_cases q:c=43;subst q;simp;simp[p,q,u]
theorem Zla (q:k<=L):k<=ot L k/\ot L k<=L:=by unfold ot lY;rcases QK [45] L k with ⟨h1,g,l⟩|⟨c,h1,g,l,t⟩;have p:ii [43] L k=false:=(by unfold ii;rw[Cj h1]);rw[g,p];simp[q];split;exact O;split<;>omega
theorem ZkZ (h:ii S L k=true):k<L:=by rcases QK S L k with ⟨h1,g,l⟩|⟨c,h1,g,l,p⟩;rw[g] at h;cases h;exact g
theorem GL (h:ii S L k=true):lY S L k=k+1:=by unfold lY;rw[aP h]
theorem Hk (h:ii S L k=false):lY S L k=k:=by unfold lY;rw[h];rfl
theorem KF (L:ax) (k:Nat):qU (L.drop k)=L.drop (k+(fe (L.drop k)).length):=by
 have h:L.drop k=fe (L.drop k)++qU (L.drop k):=(List.takeWhile_append_dropWhile (p:=m') (l:=L.drop k)).symm;have q:(L.drop k).drop (fe (L.drop k)).length=qU (L.drop k):=by have g:(fe (L.drop k)++qU (L.drop k)).drop (fe (L.drop k)).length=qU (L.drop k):=Cc;rw[<-h] at g;exact g
 rw[<-q,rX]
theorem LJ (L:ax) (g:k<=L):k+(fe (L.drop k)).length<=L:=by have:=G1 (L.drop k);rw[jt] at this;omega
theorem Zbu (L:ax) (k:Nat):xX (L.drop k)=if ii [46] L k then(if fe (L.drop (k+1))=[] then none else some (fe (L.drop (k+1)),L.drop (k+1+(fe (L.drop (k+1))).length))) else some ([],L.drop k):=by rcases QK [46] L k with ⟨h1,l,g⟩|⟨c,h1,l,g,p⟩;rw[l,g];rfl;rw[g,p,F'];by_cases e:c=46;subst e;simp[KF];simp[e]
theorem Tx (f:ax->Nat) (L:ax) (k:Nat):xU f (L.drop k)=if ii [101,69] L k then(if fe (L.drop (ot L (k+1)))=[] then none else some (sg (ii [45] L (k+1))*(f (fe (L.drop (ot L (k+1)))):Int),L.drop (ot L (k+1)+(fe (L.drop (ot L (k+1)))).length))) else some (0,L.drop k):=by
 rcases QK [101,69] L k with ⟨h1,l,g⟩|⟨c,h1,l,g,p⟩;rw[l,g];rfl;rw[g,p,TR,UY];by_cases e:c=101\/c=69;have:[101,69].contains c=true:=(by rw[List.contains_iff_mem];simpa using e);rw[this,aP e];simp[KF];have:[101,69].contains c=false:=by rw[Bool.eq_false_iff];intro h;rw[List.contains_iff_mem] at h;exact e (by simpa using h)
 rw[this,az e];simp
structure fk (w wx:World) (s:ByteArray) (k:Nat) (b:Bool) (v:Value) (D:List UInt8) (e:Int):Prop where
 bs_:Bk wx w.heap.size 9 #[s]
 br:Bk wx (w.heap.size+1) 301 #[false,.slice none 0 0,(0:Int)]
 bn:Bk wx (w.heap.size+1+1) 301 #[b,v,e]
 ba:Bk wx (w.heap.size+1+1+1) 3 #[k]
 own:wx.ownsRow w.heap.size 5 1 v D.length (D.map bv)
 bel:Below w.heap.size w wx
theorem fk.step {k':Nat} (h:fk w wx s k b v D e) (hb:Bk wy (w.heap.size+1+1+1) 3 #[k']) (l:Fr (only (w.heap.size+1+1+1)) wx wy):fk w wy s k' b v D e where
 bs_:=h.bs_.fr l As
 br:=h.br.fr l As
 bn:=h.bn.fr l As
 ba:=hb
 own:=Z6 h.own l (λg p q=>Z1 h.own h.ba aZ (q▸p))
 bel:=h.bel.trans (Ks l h.bel.size O)
theorem fk.num {p:Bool} {q:Int} (h:fk w wx s k b v D e) (hb:Bk wy (w.heap.size+1+1) 301 #[p,v,q]) (l:Fr (only (w.heap.size+1+1)) wx wy):fk w wy s k p v D q where
 bs_:=h.bs_.fr l As
 br:=h.br.fr l As
 bn:=hb
 ba:=h.ba.fr l As
 own:=Z6 h.own l (λg t u=>Z1 h.own h.bn aZ (u▸t))
 bel:=h.bel.trans (Ks l h.bel.size O)
theorem fk.neg (h:fk w wx s k b v D e) (g:Bool):fk w (wx.setCell (w.heap.size+1+1,0) (.bool g)) s k g v D e:=
 h.num (by simpa using h.bn.put 0 (.bool g)) (Xp (Fr.refl _ _) 0 _)
theorem fk.exp (h:fk w wx s k b v D e) (g:Int):fk w (wx.setCell (w.heap.size+1+1,2) g) s k b v D g:=
 h.num (by simpa using h.bn.put 2 g) (Xp (Fr.refl _ _) 2 _)
theorem fk.app {E:ax} (h:fk w wx s k b v D e) (t:wy.ownsRow w 5 1 v' (D++E) ((D++E).map bv)) (g:wx.grownBy wy v.ownBlock):
  Bk wy (w.heap.size+1+1) 301 #[b,v,e]/\fk w (wy.setCell (w.heap.size+1+1,1) v') s k b v' (D++E) e:=by have q:=h.bn.grown g (λx=>Z1 h.own h.bn aZ x.symm);have l:=q.put 1 v';refine⟨q,?_⟩;refine⟨?_,?_,by simpa using l,?_,?_,?_⟩;exact(h.bs_.grown g (λx=>Z1 h.own h.bs_ aZ x.symm)).off (p:=⟨w+1+1,1,none⟩) vX _;exact(h.br.grown g (λx=>Z1 h.own h.br aZ x.symm)).off (p:=⟨w+1+1,1,none⟩) vX _;exact(h.ba.grown g (λx=>Z1 h.own h.ba aZ x.symm)).off (p:=⟨w+1+1,1,none⟩) vX _;exact Zq t (p:=⟨w+1+1,1,none⟩) (Z1 t q aZ) _;exact(h.bel.grown g h.bel.size (λk l=>(h.own.lt k l).1)).setCell (p:=⟨w+1+1,1,none⟩) (by show _<=_+1+1;omega) _
theorem fk.one (h:fk w wx s k b v D e) (S:ax) (q:k<=s.size) (t:s.size<=64) (p:S.length<=2):
  dt 251 #[bs S,(w.heap.size+1+1+1,0),(w,0)] wx λx w'=>x=.returned (ii S (aH s) k)/\fk w w' s (lY S (aH s) k) b v D e:=by refine(Zn3 h.ba h.bs_ q t p).mono ?_;rintro x w' ⟨h1,g,u,l⟩;exact⟨h1,h.step g l⟩
theorem fk.dig (h:fk w wx s k b v D e) (p:k<=s.size) (q:s.size<=64):
  dt 252 #[(w.heap.size+1+1+1,0),(w,0)] wx λx w'=>x=.returned (bs (fe ((aH s).drop k)))/\fk w w' s (k+(fe ((aH s).drop k)).length) b v D e:=by refine(Zm7 h.ba h.bs_ p q).mono ?_;rintro x w' ⟨h1,g,t,l⟩;exact⟨h1,h.step g l⟩
theorem Z98 (L:ax):Lib.strCells (bs L)=L.map bv:=by unfold Lib.strCells bs bv;simp
def DU (w w':au) (o:Option gY) (x:Ending):Prop:=∃v b,x=.returned (.tuple #[v,.bool b])/\Below w w w'/\(∃g A l c e,v=.agg #[.bool g,.slice A l c,.int .i64 e])/\(match o with
 |none=>b=false
 |some n=>b=true/\NV w' v n/\Sz n)
theorem ZjZ (w:au) (s:aS):
  fk w ((((w.alloc (.cells #[s] 9)).alloc (.cells #[false,.slice none 0 0,(0:Int)] 301)).alloc (.cells #[false,.slice none 0 0,(0:Int)] 301)).alloc (.cells #[(0:Int)] 3)) s 0 false (.slice none 0 0) [] 0 where
 bs_:=((Bk.new w _ _).alloc _).alloc _|>.alloc _
 br:=by have:=Bk.new (w.alloc (.cells #[s] 9)) 301 #[false,.slice none 0 0,(0:Int)];rw[World.size_alloc] at this;exact(this.alloc _).alloc _
 bn:=by have:=Bk.new ((w.alloc (.cells #[s] 9)).alloc (.cells #[false,.slice none 0 0,(0:Int)] 301)) 301 #[false,.slice none 0 0,(0:Int)];rw[World.size_alloc,World.size_alloc] at this;exact this.alloc _
 ba:=by have:=Bk.new (((w.alloc (.cells #[s] 9)).alloc (.cells #[false,.slice none 0 0,(0:Int)] 301)).alloc (.cells #[false,.slice none 0 0,(0:Int)] 301)) 3 #[(0:Int)];rw[World.size_alloc,World.size_alloc,World.size_alloc] at this;exact this
 own:=Zm
 bel:=(((bi w w).alloc aW _).alloc (by simp) _|>.alloc vX _).alloc vX _
theorem Zq1 (f:ax->Nat) (h:L.length<=64):qv f L=if fe (L.drop (ot L 0))=[] then none else
  match xX (L.drop (ot L 0+(fe (L.drop (ot L 0))).length)) with
  |none=>none
  |some x=>match xU f x.2 with
   |none=>none
   |some y=>if y.2=[] then some ⟨ii [45] L 0,fe (L.drop (ot L 0))++x.1,y.1-x.1.length⟩ else none:=by have h0:=UY L 0;rw[Al] at h0;unfold qv;rw[az O,h0];simp only[KF];rfl
theorem Mu (h:fk w w1 s k b v D e):
  ∃W,(((w1.setCell (w.heap.size+1,0) (.bool b)).setCell (w.heap.size+1,1) v).setCell (w.heap.size+1,2) e)=W/\W.cell? (w.heap.size+1,0)=some (.bool b)/\W.cell? (w.heap.size+1,1)=some v/\W.cell? (w.heap.size+1,2)=some (.int .i64 e)/\Below w w W:=by obtain⟨W,h1,g,l,p,_,q⟩:=A' h.br h.bel O (L:=[]) (At.nil w1 none) b v e;exact⟨W,h1,g,l,p,q⟩
theorem Zl8 (h:fk w w1 s k b v D e) (E:ax) (z:D.length+E.length<=1000):
  ∃v' w',(Builtin.append_ #[88,9] 88 #[v,bs E]).run prog w1=.ok v' w'/\Bk w' (w.heap.size+1+1) 301 #[b,v,e]/\fk w (w'.setCell (w.heap.size+1+1,1) v') s k b v' (D++E) e:=by obtain⟨i,hi,y,u,l⟩:=info_parts Zqk;obtain⟨v',w',t,g,q,_⟩:=Lib.run_append_own_string (P:=prog) (w:=w1) w 88 9 88 5 i underlying88 underlying9 hi y u l v D (D.map bv) h.own (bs E) (by rw[Z0];unfold maxLen;omega) Aw h.bel.size;rw[Z98,<-jv,Z0,<-bT] at g;obtain⟨h1,p⟩:=h.app g q;exact⟨v',w',t,h1,p⟩
theorem Si {P:Program} {l:Array Oper} {rest:List Oper} {o:Oper} {a:Act} {w':au} {Q:Exit->Act->au->Prop} (a9:w=w0) (g:o.guard=none) (s x:Operand) (t q:TypeId)
  (p:o.op=.call { callee:=.builtin .append,args:= #[s,x],argTypes:= #[t,q] }) (v u:aJ) (a0:a.eval s=v) (D:a.eval x=u)
  (B:(Builtin.append_ #[t,q] o.type #[v,u]).run P w0=.ok v' w') (h:wpList P l Q rest (a.put o.dst v') w'):wpList P l Q (o::rest) a w:=NJ
theorem Zi5 (p:ax) (i:Nat) (h:i<p):kM (p.take (i+1))=min 1048576 (10*kM (p.take i)+dv p[i]):=by unfold kM;rw[dD h,rn];rfl
theorem ZkL (p:ax):kM p<=1048576:=by rw[ZkK];exact Nat.min_le_left _ _
theorem Zp2 {c:ci} (h:m' c=true):48<=c.toNat/\c.toNat<=57/\dv c=c.toNat-48:=by unfold m' at h;simp at h;exact⟨h.1,h.2,rfl⟩
theorem ZnR {n:gY} (h1: -1500000<=n.ex) (g:n.ex<=1500000) (k:n.dg.length<=1000):Sz n/\Sz (XA n):=by refine⟨⟨O,O,O⟩,?_⟩;have a1:=Ki n.dg;have a2:=Uz (X7 n.dg);unfold XA;split;exact⟨by simp[wB],by simp[wB],by simp[wB]⟩;exact⟨dw,dw,dw⟩
theorem Zmi {E:Int} {r:ax} (h:xU kM (L.drop k)=some (E,r)): -1048576<=E/\E<=1048576:=by rw[Tx] at h;have:=ZkL (fe (L.drop (ot L (k+1))));generalize kM (fe (L.drop (ot L (k+1))))=c at*;split at h;split at h;cases h;injection h with h;injection h with h _;rw[<-h];unfold sg;split<;>omega;injection h with h;injection h with h _;rw[<-h];omega
theorem fk.keep (h:fk w wx s k b v D e) (hb:Below wx wx wy):fk w wy s k b v D e where
 bs_:=h.bs_.below hb h.bs_.lt
 br:=h.br.below hb h.br.lt
 bn:=h.bn.below hb h.bn.lt
 ba:=h.ba.below hb h.ba.lt
 own:=Z6 h.own (Fr.of_below (S:=nob) hb) (λ_ _ f=>f)
 bel:=h.bel.trans (hb.mono h.bel.size)
theorem Z4Z (D:ax) (w:au):∃cap W,(convert 9 88 (.string (bs D))).run prog w=.ok (.slice (some (w,0)) (bs D).size cap) W/\At W (some ⟨w,0,none⟩) (D.map bv)/\Below w w W:=by have h:=run_bytes_of_string (P:=prog) w 9 88 5 (bs D) underlying9 underlying88 underlying5;refine⟨_,_,h,?_,((bi w w).drew).alloc aW _⟩;intro i hi;rw[dc] at hi;refine⟨w,0,rfl,by rw[World.size_alloc];exact uM _,?_⟩;rw[jW];show(w.drew.alloc _).cell? (w.drew,i)=_;rw[World.cell?_alloc_mark,bytesRow_at _ _ i hi];simp[bv,bs]
theorem Zjk {base e:Nat} {t:List aJ} (h:w.ownsRow base e 1 v n t):∃A cap,v=.slice A n cap/\At w A t/\n<=cap/\cap<=maxLen:=by have z:=h;obtain⟨A,cap,p,u⟩:=Zi h;refine⟨A,cap,p,u,?_⟩;rcases z.2 with ⟨k,B⟩|⟨g,E,y,k,_,_,q,l,_⟩;rw[p] at k;injection k with k q l;subst l;subst B;exact⟨aW,cf _⟩;rw[p] at k;injection k with k F D;subst D;exact⟨q,l⟩
def sO (w:au) (s:aS) (k:Nat) (b:Bool) (v:aJ) (F:Int) (W:au):Prop:=
 W.cell? ⟨w+1+1,0,none⟩=some (.bool b)/\W.cell? ⟨w+1+1,1,none⟩=some v/\W.cell? ⟨w+1+1,2,none⟩=F/\W.cell? ⟨w+1+1+1,0,none⟩=k/\W.cell? ⟨w,0,none⟩=some (.string s)
theorem YP (h:W.cell? p=some v) (hb:Below W W W'):W'.cell? p=some v:=(hb.cell (World.block_lt_of_cell? W p h)).trans h
theorem sO.below (h:sO w s k b v F W) (hb:Below W W W'):sO w s k b v F W':=
 ⟨YP h.1 hb,YP h.2.1 hb,YP h.2.2.1 hb,YP h.2.2.2.1 hb,YP h.2.2.2.2 hb⟩
theorem Dl {g i:Nat} {u:aJ} (h:W.cell? p=some v) (l:g≠p.block):(W.setCell (g,i) u).cell? p=some v:=by have k:=((Fr.refl (only g) W).setCell (p:=⟨g,i,none⟩) (.inl rfl) u).cell (p:=p) (World.block_lt_of_cell? W p h) (λe=>l e.symm);exact k.trans h
theorem sO.put3 (h:sO w s k b v F W) (x y z:aJ):sO w s k b v F (((W.setCell (w.heap.size+1,0) x).setCell (w.heap.size+1,1) y).setCell (w.heap.size+1,2) z):=by
 have go:∀ {W:au} (i:Nat) (u:aJ),sO w s k b v F W->sO w s k b v F (W.setCell (w.heap.size+1,i) u):=λi u h=>
  ⟨Dl h.1 (by simp),Dl h.2.1 (by simp),Dl h.2.2.1 (by simp),Dl h.2.2.2.1 vX,Dl h.2.2.2.2 (by simp)⟩;exact go 2 z (go 1 y (go 0 x h))
theorem Zfq (s : aS) (w : au) :
    Calls prog 224 #[s] w λx w'=>DU w w' ((qv kM (aH s)).map XA) x:=by
  by_cases b2:s.size<=64
  . obtain⟨R,y⟩:=ay ((qv kM (aH s)).map XA);rw[y];have o1:(aH s).length<=64:=(by rw[Z2];exact b2);have o2:(aH s)=s.size:=Z2 s;rw[Zq1 kM o1] at y;have m2:=Zla (L:=aH s) (k:=0) (cf _);obtain⟨b,hb⟩:=ay (ii [45] (aH s) 0);obtain⟨k1,l2⟩:=ay (ot (aH s) 0);have d8:ot (aH s) 0=if ii [45] (aH s) 0 then 0+1 else lY [43] (aH s) 0:=rfl;rw[hb,l2] at y d8;rw[l2,o2] at m2;have n3:k1<=s.size:=m2.2;obtain⟨j4,d9,d1,d3⟩:=dm hb d8 y (ZjZ w s);have n5:0<=s.size:=cf _;clear hb l2 d8 y m2 o1 o2;go_in;go_upto_if 22 with (go_at_call 251;refine((fk.one d3.o [45] n5 b2 (by simp)).mono ?_);rintro x w1 ⟨rfl,h1⟩);rw[j4.o];go_cut [] (λwx=>fk w wx s k1 b (.slice none 0 0) [] 0)
    case first=>
      cases b;. have e0:lY [45] (aH s) 0=0:=Hk j4.o;rw[e0] at h1;have d4:k1=lY [43] (aH s) 0:=d9.o;have b5:=J h1;clear h1;go_wp2_with (go_at_call 251;refine((fk.one b5.o [43] n5 b2 (by simp)).mono ?_);rintro x t3 ⟨rfl,G⟩);rw[<-d4] at G;have p6:=J G;clear G;go_meet;case rel=>exact p6.o
      have e0:lY [45] (aH s) 0=0+1:=GL j4.o;have d4:k1=0+1:=d9.o;rw[e0,<-d4] at h1;have a9:=h1.bn.cell 0;have n1:=h1.bn.frozen 0;have d5:=h1.neg true;simp at a9;have f5:=J d5;clear h1 d5;go_wp2;go_meet;case rel=>exact f5.o
    have b5:=J hcut;clear hcut h1 d9;obtain⟨D,g8⟩:=ay (fe ((aH s).drop k1));obtain⟨k2,g3⟩:=ay (k1+D.length);have b3:=LJ (aH s) (k:=k1) (by rw[Z2];exact n3);rw[g8,Z2,g3] at b3;have GP:k2<=s.size:=b3;have u9:D.length<=64:=O;have y:=d1.o;rw[g8,g3] at y;have a4:Hid (∀(wx:au) (a3:Bool) (v:aJ) (E:ax) (e:Int),fk w wx s k1 a3 v E e->Calls prog 252 #[(w.heap.size+1+1+1,0),(w,0)] wx λx w'=>x=.returned (bs D)/\fk w w' s k2 a3 v E e):=J (λwx a3 v E e h=>by have:=h.dig n3 b2;rw[g8,g3] at this;exact this);clear g8 g3 b3 d1;go_upto_if 29 with (go_at_call 252;refine((a4.o _ _ _ _ _ b5.o).mono ?_);rintro x t3 ⟨rfl,G⟩);clear a4 b5 d3;by_cases a2:D=[];rw[aP a2] at y;have u:Hid ((none:Option gY)=R):=J y;have b4:(bs D).toList.isEmpty=true:=MR (by rw[Z0,a2];rfl);obtain⟨f9,a8,g,l,t,a6⟩:=Mu G;have a9:=G.bn.cell 0;have n1:=G.bn.cell 1;have n2:=G.bn.cell 2;have r0:=G.br.cell 0;have c8:=G.br.cell 1;have c9:=G.br.cell 2;have g5:=G.br.frozen 0;have g6:=G.br.frozen 1;have g7:=G.br.frozen 2;simp at a9 n1 n2 r0 c8 c9;have q:=J a8;have p:=J a6;rw[b4];clear y a2 a8 a6 b4 G;exact IW;rw[az a2] at y;have d1:=J y;have b4:(bs D).toList.isEmpty=false:=MQ (by rw[Z0];exact List.length_pos_iff.2 a2);obtain⟨v0,v4,o7,b7,d5⟩:=Zl8 G D fp;obtain⟨A3,u0,u2,rfl⟩:=Za d5.own;rw[pX] at d5;have n1:=G.bn.cell 1;have i3:=b7.cell 1;have f1:=b7.frozen 1;simp at n1 i3;have f5:=J d5;have o5:=J o7;rw[b4];clear y a2 G d5 o7 b7 b4;generalize bs D=SD at*
    go_upto_if 37 with (first
      |(at_builtin;refine Si iW rfl _ _ _ _ rfl _ _ (by rfl) (by rfl) o5.o ?_)
      |(go_at_call 251;refine((fk.one f5.o [46] GP b2 (by simp)).mono ?_);rintro x v7 ⟨rfl,d6⟩));clear n1 i3 f1 o5 f5;go_cut [] (λwx=>∃v P k3,k3<=s.size/\P.length<=64/\Hid (xX ((aH s).drop k2)=some (P,(aH s).drop k3))/\fk w wx s k3 b v (D++P) (-(P.length:Int)))
    case first=>
      have b0:=Zbu (aH s) k2;by_cases c4:ii [46] (aH s) k2=true
      . rw[aP c4] at b0;rw[GL c4] at d6;have i7:k2+1<=s.size:=(by have:=ZkZ c4;rw[Z2] at this;exact this);obtain⟨P,g9⟩:=ay (fe ((aH s).drop (k2+1)));obtain⟨k3,b7⟩:=ay (k2+1+P.length);have b3:=LJ (aH s) (k:=k2+1) (by rw[Z2];exact i7);rw[g9,Z2,b7] at b3;have k8:P.length<=64:=O;rw[g9,b7] at b0;have a4:Hid (∀(wx:au) (a3:Bool) (v:aJ) (E:ax) (e:Int),fk w wx s (k2+1) a3 v E e->Calls prog 252 #[(w.heap.size+1+1+1,0),(w,0)] wx λx w'=>x=.returned (bs P)/\fk w w' s k3 a3 v E e):=J (λwx a3 v E e h=>by have:=h.dig i7 b2;rw[g9,b7] at this;exact this);have e3:=J d6;rw[c4];clear g9 b7 d6 c4;by_cases e5:P=[];. rw[aP e5] at b0;have y:=d1.o;rw[b0] at y;have u:Hid ((none:Option gY)=R):=J y;have b4:(bs P).toList.isEmpty=true:=MR (by rw[Z0,e5];rfl);clear y b0 e5 d1;go_upto_region 17 with (go_at_call 252;refine((a4.o _ _ _ _ _ e3.o).mono ?_);rintro x t4 ⟨rfl,Q⟩);obtain⟨f9,a8,g,l,t,a6⟩:=Mu Q;have a9:=Q.bn.cell 0;have n1:=Q.bn.cell 1;have n2:=Q.bn.cell 2;have r0:=Q.br.cell 0;have c8:=Q.br.cell 1;have c9:=Q.br.cell 2;have g5:=Q.br.frozen 0;have g6:=Q.br.frozen 1;have g7:=Q.br.frozen 2;simp at a9 n1 n2 r0 c8 c9;have q:=J a8;have p:=J a6;clear a8 a6 Q a4 e3;exact IW
        rw[az e5] at b0;have j9:=J b0;have b4:(bs P).toList.isEmpty=false:=MQ (by rw[Z0];exact List.length_pos_iff.2 e5);clear b0 e5;go_upto_region 18 with (go_at_call 252;refine((a4.o _ _ _ _ _ e3.o).mono ?_);rintro x t4 ⟨rfl,Q⟩);obtain⟨v2,t5,n7,j1,a1⟩:=Zl8 Q P O;obtain⟨t9,u1,u3,rfl⟩:=Za a1.own;have n1:=Q.bn.cell 1;have i3:=j1.cell 1;have f1:=j1.frozen 1;have t1:=a1.bn.cell 2;have q2:=a1.bn.frozen 2;simp at n1 i3 t1;have b1:=a1.exp (-((bs P).size:Int));have e7:=J b1;have t7:=J n7;have s2:(bs P).size<=64:=k8;clear Q n7 j1 a1 b1 a4 e3;go_wp2_with (at_builtin;refine Si iW rfl _ _ _ _ rfl _ _ (by rfl) (by rfl) t7.o ?_);go_meet;case rel=>exact⟨_,P,k3,b3,k8,j9,e7.o⟩
      rw[az c4] at b0;have j0:ii [46] (aH s) k2=false:=(by simpa using c4);rw[Hk j0] at d6;have j9:=J b0;have e3:=J d6;rw[j0];clear b0 c4 j0 d6;go_wp2;go_meet;case rel=>exact⟨_,[],k2,GP,by simp,j9,by simpa using e3.o⟩
    obtain⟨v1,P,k3,n4,k8,o6,I⟩:=hcut;obtain⟨A5,j8,b6,rfl⟩:=Za I.own;have y:=d1.o;rw[o6.o] at y;simp only at y;have e9:=J y;have f6:=J I;clear y d1 I o6 d6;go_upto_if 53 with (go_at_call 251;refine((fk.one f6.o [101,69] n4 b2 (by simp)).mono ?_);rintro x t5 ⟨rfl,a1⟩);go_cut [] (λwx=>∃E a5,a5<=s.size/\Hid (xU kM ((aH s).drop k3)=some (E,(aH s).drop a5))/\fk w wx s a5 b (.slice A5 j8 b6) (D++P) (E-(P.length:Int)))
    case first=>
      have z:=Tx kM (aH s) k3;by_cases b8:ii [101,69] (aH s) k3=true
      . rw[aP b8] at z;rw[GL b8] at a1;have i9:k3+1<=s.size:=(by have:=ZkZ b8;rw[Z2] at this;exact this);have i8:=(Zla (L:=aH s) (k:=k3+1) (by rw[Z2];exact i9)).2;have d8:ot (aH s) (k3+1)=if ii [45] (aH s) (k3+1) then k3+1+1 else lY [43] (aH s) (k3+1):=rfl;obtain⟨bn,l5⟩:=ay (ii [45] (aH s) (k3+1));obtain⟨d7,m4⟩:=ay (ot (aH s) (k3+1));rw[l5,m4] at z d8;rw[m4,Z2] at i8;obtain⟨B,e6⟩:=ay (fe ((aH s).drop d7));obtain⟨i1,f8⟩:=ay (d7+B.length);have b3:=LJ (aH s) (k:=d7) (by rw[Z2];exact i8);rw[e6,Z2,f8] at b3;have o9:B.length<=64:=O;rw[e6,f8] at z;have l6:Hid (sG B):=J (e6▸G0 _);have a4:Hid (∀(wx:au) (a3:Bool) (v:aJ) (E:ax) (e:Int),fk w wx s d7 a3 v E e->Calls prog 252 #[(w.heap.size+1+1+1,0),(w,0)] wx λx w'=>x=.returned (bs B)/\fk w w' s i1 a3 v E e):=J (λwx a3 v E e h=>by have:=h.dig i8 b2;rw[e6,f8] at this;exact this);obtain⟨i4,d9,f7,e2⟩:=dm l5 d8 a1 z;rw[b8];clear z b8 a1 l5 m4 d8 e6 f8;go_upto_if 57 with (go_at_call 251;refine((fk.one f7.o [45] i9 b2 (by simp)).mono ?_);rintro x v8 ⟨rfl,b1⟩);rw[i4.o];go_cut [10] (λs7 wx=>s7=.bool bn/\fk w wx s d7 b (.slice A5 j8 b6) (D++P) (-(P.length:Int)))
        case first=>
          cases bn;. have e0:lY [45] (aH s) (k3+1)=k3+1:=Hk i4.o;rw[e0] at b1;have d4:d7=lY [43] (aH s) (k3+1):=d9.o;have e7:=J b1;clear b1 e0;go_wp2_with (go_at_call 251;refine((fk.one e7.o [43] i9 b2 (by simp)).mono ?_);rintro x v9 ⟨rfl,l8⟩);rw[<-d4] at l8;have e4:=J l8;clear l8;go_meet;case rel=>exact⟨rfl,e4.o⟩
          have e0:lY [45] (aH s) (k3+1)=k3+1+1:=GL i4.o;have d4:d7=k3+1+1:=d9.o;rw[e0,<-d4] at b1;have e7:=J b1;clear b1 e0;go_wp2;go_meet;case rel=>exact⟨rfl,e7.o⟩
        obtain⟨rfl,I⟩:=hcut;have e4:=J I;clear I b1 f7 f6 d9 i4;by_cases a2:B=[];. have y:=e9.o;have z:=e2.o;rw[aP a2] at z;rw[z] at y;have u:Hid ((none:Option gY)=R):=J y;have b4:(bs B).toList.isEmpty=true:=MR (by rw[Z0,a2];rfl);clear y z e9 e2 a2 l6;go_upto_region 26 with (go_at_call 252;refine((a4.o _ _ _ _ _ e4.o).mono ?_);rintro x i5 ⟨rfl,S⟩);obtain⟨f9,a8,g,l,t,a6⟩:=Mu S;have a9:=S.bn.cell 0;have n1:=S.bn.cell 1;have n2:=S.bn.cell 2;have r0:=S.br.cell 0;have c8:=S.br.cell 1;have c9:=S.br.cell 2;have g5:=S.br.frozen 0;have g6:=S.br.frozen 1;have g7:=S.br.frozen 2;simp at a9 n1 n2 r0 c8 c9;have q:=J a8;have p:=J a6;clear a8 a6 S a4 e4;exact IW
        have z:=e2.o;rw[az a2] at z;have m6:=J z;have b4:(bs B).toList.isEmpty=false:=MQ (by rw[Z0];exact List.length_pos_iff.2 a2);clear z e2 e9 a2;go_upto_region 28 with (go_at_call 252;refine((a4.o _ _ _ _ _ e4.o).mono ?_);rintro x i5 ⟨rfl,S⟩);obtain⟨u4,o0,r7,e8,o8⟩:=Z4Z B i5;have i2:=S.keep o8;obtain⟨d2,OF⟩:=ay B.length;have m9:(bs B).size=d2:=OF;have o4:∀i (h:i<d2),∃X:Nat,o0.cell? (i5,i)=some (.int .u8 (X:Int))/\48<=X/\X<=57/\kM (B.take (i+1))=min 1048576 (10*kM (B.take i)+(X-48)):=by intro i hi;obtain⟨a3,u7,l9,i0,a7⟩:=e8 i (by rw[dc];omega);injection l9 with l9;injection l9 with s8 r8;subst s8;subst r8;rw[jW,uL] at a7;obtain⟨q1,q2,q3⟩:=Zp2 (l6.o B[i] (dr _));exact⟨_,a7,q1,q2,by rw[Zi5 B i O,q3]⟩
        have n2:=i2.bn.cell 2;have r9:=i2.bn.frozen 2;simp at n2;obtain⟨m3,j2,j3⟩:=bF o4 i2 OF;rw[m9] at r7;clear e8 o8 S i2 o4 a4 e4 OF m9 l6;have p1:d2<=64:=(by have:=j3.o;omega);go_upto_region 29 with fail;go_loopw [12,68] (λs6 l0 wr=>∃i:Nat,i<=d2/\s6=.int .i64 ((kM (B.take i):Nat):Int)/\l0=(i:Int)/\wr=o0) (λ_ l0 _=>(d2-intOf l0).toNat);exact⟨0,cf _,rfl,rfl,rfl⟩;obtain⟨i,hi,rfl,rfl,rfl⟩:=hrel;obtain⟨c,a7⟩:=ay (kM (B.take i));have r6:=ZkL (B.take i);rw[a7] at r6;by_cases ab:i<d2
        . obtain⟨X,u6,q1,q2,q3⟩:=m3.o i ab;rw[a7] at q3;have q6:=J q3;rw[a7];clear q3 a7 n2 r9 m3;go_wp2;refine⟨⟨i+1,ab,?_,ck,Fg⟩,?_⟩
          . rw[q6.o]
            first
              |(congr 1;omega)
              |rfl
          simp[intOf]<;>omega
        have s9:i=d2:=O;have l3:B.take i=B:=dU (by have:=j3.o;omega);rw[l3] at a7;have z:=m6.o;rw[a7] at z;have m7:=J z;have f3:Hid (∀g4,fk w (wr.setCell (w.heap.size+1+1,2) (.int .i64 g4)) s i1 b (.slice A5 j8 b6) (D++P) g4):=J (λg4=>j2.o.exp g4);rw[l3,a7];subst s9;clear l3 a7 z m6 m3 j3;cases bn;. go_wp2;go_meet;exact⟨_,i1,b3,m7,by have:=f3.o (-(P.length:Int)+(c:Int));rw[show sg false*(c:Int)-P.length= -(P.length:Int)+(c:Int) by unfold sg;simp;omega];exact this⟩
        go_wp2;go_meet
        exact⟨_,i1,b3,m7,by
 have:=f3.o (-(P.length:Int)+ -(c:Int));rw[show sg true*(c:Int)-P.length=-(P.length:Int)+ -(c:Int) by unfold sg;simp;omega];exact this⟩
      rw[az b8] at z;have k9:ii [101,69] (aH s) k3=false:=(by simpa using b8);rw[Hk k9] at a1;have e2:=J z;have f7:=J a1;rw[k9];clear z b8 k9 a1 f6;go_wp2;go_meet;case rel=>exact⟨0,k3,n4,e2,by simpa using f7.o⟩
    obtain⟨E,a5,i7,z,I⟩:=hcut;obtain⟨q0,t6⟩:=Zmi z.o;have y:=e9.o;rw[z.o] at y;simp only at y;obtain⟨N,b9⟩:∃N:gY,N=⟨b,D++P,E-(P.length:Int)⟩:=⟨_,rfl⟩;obtain⟨o3,n6⟩:Sz N/\Sz (XA N):=ZnR (by rw[b9];exact dw) (by rw[b9];exact dw) (by rw[b9];simp only[bT];omega);obtain⟨A,cap,s5,e8,r4,r5⟩:=Zjk I.own;injection s5 with q8 r3 s1;subst q8;subst r3;subst s1;have p5:NV wc (.agg #[b,.slice A5 (D++P) b6,(E-(P.length:Int):Int)]) N:=⟨A5,b6,by rw[b9],by rw[b9];exact e8,by rw[b9];exact r4,r5⟩;have k0:Hid (∀W,Below wc wc W->Calls prog 253 #[.agg #[b,.slice A5 (D++P) b6,(E-(P.length:Int):Int)]] W λx w'=>∃v',x=.returned v'/\NV w' v' (XA N)/\Below W.heap.size W w'):=J (λW h=>Zfu (p5.below h) o3);have l7:(aH s).drop a5=[]↔a5=s.size:=by rw[List.drop_eq_nil_iff,Z2];omega
    have q9:Hid (∀(v':aJ) (W:au),Below w w W->NV W v' (XA N)->DU w W R (.returned (.tuple #[v',decide (a5=s.size)]))):=J (λv' W s4 f4=>by refine⟨v',_,rfl,s4,?_,?_⟩;obtain⟨i6,k6,rfl,_⟩:=f4;exact⟨_,_,_,_,_,rfl⟩;rw[<-y];by_cases h0:a5=s.size;rw[aP (l7.2 h0),<-b9];exact⟨by simpa using h0,f4,n6⟩;rw[az (λh=>h0 (l7.1 h))];simpa using h0);have d3:=J I;have a9:=I.bn.cell 0;have n1:=I.bn.cell 1;have n2:=I.bn.cell 2;have l1:=I.ba.cell 0;have m5:=I.bs_.cell 0;obtain⟨F,hF⟩:=ay (E-(P.length:Int));obtain⟨M,p0⟩:=ay ((D++P).length);rw[hF] at n2 k0;rw[p0] at n1 k0;simp at a9 n1 n2 l1 m5;clear y I e8 p5 n6 o3 b9 z e9 hF p0 q0 t6 a1 f6 l7;have b5:sO w s a5 b (.slice A5 M b6) F wc.drew:=⟨a9,n1,n2,l1,m5⟩;unfold sO at b5;go_wp2
    go_region_held3 (λW=>W.cell? (w.heap.size+1+1,0)=some (.bool b)/\W.cell? (w.heap.size+1+1,1)=some (.slice A5 M b6)/\W.cell? (w.heap.size+1+1,2)=some (.int .i64 F)/\W.cell? (w.heap.size+1+1+1,0)=some (.int .i64 (a5:Int))/\W.cell? (w,0)=some (.string s)) (first|exact b5|assumption|exact sO.below mp mp|exact sO.put3 mp _ _ _)
      (first
        | (go_at_call 253; refine (k0.o _ ((bi _ _).drew)).mono ?_; rintro x i5 ⟨v', rfl, ⟨i6, k6, rfl, m8, n8, n9⟩, i0⟩;have c7:=d3.o.br.below (((bi wc wc).drew).trans i0) d3.o.br.lt;have r0:=c7.cell 0;have c8:=c7.cell 1;have c9:=c7.cell 2;have g5:=c7.frozen 0;have g6:=c7.frozen 1;have g7:=c7.frozen 2;simp at r0 c8 c9;have j7:=J c7;have p9:=J m8;clear c7 m8));obtain⟨f9,a8,g,l,t,p4,a6⟩:=A' j7.o (d3.o.bel.trans (((bi wc wc).drew.trans i0).mono d3.o.bel.size)) O p9.o (XA N).neg (.slice i6 (XA N).dg k6) (XA N).ex;obtain⟨q,t2,p⟩:=bF a8 p4 a6;have p3:((a5:Int)==s.size)=decide (a5=s.size):=by rw[lO,beq_iff_eq,fE];omega
    obtain⟨p8,j5,j6⟩:=bF p3 n8 n9;clear a8 p4 a6 p3 n8 n9 b5 a9 n1 n2 l1 m5 r0 c8 c9 g5 g6 g7 i0;go_wp2;rw[q.o];refine bodyPost_ret (by simp[results,results224,go_sem,g,l,t];try rfl) rfl ?_;rw[p8.o];exact q9.o _ f9 p.o ⟨i6,k6,rfl,t2.o,j5.o,j6.o⟩
  have f4 : qv kM (aH s) = none := by unfold qv;rw[aP CF]
  have p7:=J f4;have u5:(64:Int)<s.size:=O;have q7:=J ((UB w (.cells #[s] 9) (.cells #[false,.slice none 0 0,(0:Int)] 301)).alloc vX (.cells #[false,.slice none 0 0,(0:Int)] 301));clear f4;go_in;go_wp2;go_returns;rw[p7.o];exact⟨_,_,rfl,q7.o,⟨_,_,_,_,_,rfl⟩,rfl⟩
