import Derived.Test.YtikecoijpkmnbaaGreatDoorJ09
import Derived.Lib.AppendStr
import Derived.Lib.MinMax
set_option linter.all false
set_option maxRecDepth 100000
set_option maxHeartbeats 0
section
variable{P Q:Prop}
theorem Ar(h:P:=by rw[Z0];omega):P:=h
theorem vP(h:P:=by simp<;>omega):P:=h
theorem Ap(h:P:=by show ¬_=_;omega):P:=h
theorem Fv(h:P:=by first|trivial|rfl):P:=h
theorem iG(h:P:=by with_reducible rfl):P:=h
theorem Ro(h:P:=by simp[results,results254,go_sem,g,l,t];try rfl):P:=h
theorem Ox(h:P:=by rw[lL];intro e;exact g (UInt8.toNat_inj.1 (by rw[show(48:cj).toNat=48 from rfl];omega))):P:=h
theorem NT(h:P:=by go_wp2;rw[q.o];refine bodyPost_ret (by simp[results,results222,go_sem,g,l,t];try rfl) rfl ?_;rw[<-u.o];exact⟨_,_,rfl,z.o,⟨_,_,_,_,_,rfl⟩,rfl⟩):P:=h
theorem Oa(h:P:=by
 cases b
 all_goals
  go_wp21;refine aP (g.o _) λw3 M=>?_;have k:=q.o.trans (M.mono q.o.size);go_wp21;refine aP (u.o _ k) λb8 an=>?_;have l:=k.trans (an.mono k.size);clear k M an c0 c1 c2;go_wp2;go_returns;exact⟨Zl2 (by have:=t.o;simpa using this) (by rw[p.o];rfl),l⟩):P:=h
end
namespace Go.Proofs.Y
open Tryz Wv Go.RowKit
variable{A:Wto}{D L S d:ax}{F e:Int}{W W' w w0 w1 wx wy:aq}{b:Bool}{ba bb k n:Nat}{p:Addr}{s:aT}{v v':aI}
def DR (w:aq) (v:aI) (d:ax):Prop:=∃A cap,v=.slice A d cap/\At w A (d.map bv)/\d.length<=cap/\cap<=maxLen
theorem DR.nil (w:aq):DR w (.slice none 0 0) []:=⟨none,0,rfl,At.nil _ _,aU,cf _⟩
theorem Sj (c:cj) (t:ax):kC (c::t)=if c=48 then kC t else c::t:=by unfold kC;rw[List.dropWhile_cons];by_cases h:c=48;subst h;rfl;rw[Vae h,Vae (by simpa using h)]
theorem ZnO (h:At w A (d.map bv)) (n cap:Nat) (a3:n=d) (b3:n<=cap) (G:cap<=maxLen):
  Calls prog 296 #[(A,n,cap),.int .u8 48] w λx w'=>∃v,x=.returned v/\DR w' v (kC d)/\Below w w w':=by
 have b0:=J h;have b1:cap<=9223372036854775807:=(by unfold maxLen at G;omega);have a8:=J a3;have a7:=J G;clear h a3 G;go_in;go_wp2;go_loopw [0] (λv wr=>∃(k m p:Nat) (D:Wto),k<=d/\m=d.length-k/\v=.slice D m p/\At wr D ((d.drop k).map bv)/\m<=p/\p<=9223372036854775807/\Hid (p<=maxLen)/\Hid (kC (d.drop k)=kC d)/\Below w w wr) (λv _=>match v with|.slice _ m _=>m|_=>0);exact⟨0,n,cap,A,O,by rw[<-a8.o,Nat.sub_zero],rfl,b0.o,b3,b1,a7,J rfl,bf _ _⟩;obtain⟨k,m,p,D,b8,u,rfl,q,a9,b6,a0,y,z⟩:=hrel;by_cases h0:0<m
 .have ab:k<d:=O;have hd:d.drop k=d[k]::d.drop (k+1):=kw ab;obtain⟨c,I⟩:=ay d[k];rw[I] at hd;have M:=q;rw[hd] at q;obtain⟨b,o,b2,hb,F⟩:=q.get 0 (bv c) rfl;subst b2;have b9:wr.cell? (b,o)=some (.int .u8 (c.toNat:Int)):=F;have Q:=Vr q 1;have E:=Sj c (d.drop (k+1));have l:=y.o;rw[hd] at l;rw[E] at l;by_cases g:c=48
  .rw[Vag g] at l;subst g;obtain⟨t,a6,S⟩:=bD l Q z;clear l Q z q M hd I E y F;have B:=J u;have a1:=J (show m-1=d.length-(k+1) by omega);clear u;by_cases a2:p=1;.have b4:m=1:=O;go_wp2;refine⟨⟨k+1,0,0,some ⟨b,o,none⟩,O,by have:=a1.o;omega,rfl,?_,aU,O,J (cf _),t,S.o⟩,by show 0<m;omega⟩;have:d.drop (k+1)=[]:=oc (by have:=B.o;omega);rw[this];exact At.nil _ _
   go_wp2;refine⟨⟨k+1,m-1,p-1,some ⟨b,o+1,none⟩,O,a1.o,by first|rw[Vae a2]|rfl,?_,O,O,J (by have:=a0.o;omega),t,S.o⟩,by first|(rw[Vae a2];show m-1<m;omega)|(show m-1<m;omega)⟩;have:=a6.o;rw[tR,List.drop_one,List.tail_cons] at this;exact this
  rw[Vae g] at l;have b7:((c.toNat:Int)==48)=false:=Ox;obtain⟨t,b5,Hd,B⟩:=dc l M hd u;have a5:((m:Int)==0)=false:=rT;clear l q M hd I E y F Q g u;go_wp2;go_returns;rw[<-t.o,<-Hd.o];exact⟨.slice (some (b,o)) m p,rfl,⟨_,p,by rw[iW,<-B.o],b5.o,by rw[iW,<-B.o];exact a9,a0.o⟩,z⟩
 have a5:m=0:=O;have R:d.drop k=[]:=oc O;have l:=y.o;rw[R] at l;have a4:kC ([]:ax)=[]:=rfl;rw[a4] at l;have t:=J l;clear y R l a4 q u;subst a5;go_wp2;go_returns;rw[<-t.o];exact⟨_,rfl,DR.nil _,z⟩
theorem Z7z (h:At w A (d.map bv)) (n cap:Nat) (g:n=d) (l:n<=cap) (k:cap<=maxLen):
  Calls prog 281 #[(A,n,cap),.string ⟨#[48]⟩] w λx w'=>∃v,x=.returned v/\DR w' v (kC d)/\Below w w w':=by
 have H:=J (ZnO h n cap g l k);by_cases h0:n=0;.subst h0;have hd:d=[]:=ia g.symm;subst hd;clear h g H k;go_in;go_wp2;go_returns;exact⟨_,rfl,DR.nil _,bf _ _⟩
 have q:((n:Int)==0)=false:=rT;have p:((⟨#[48]⟩:aT)[0]'Nat.zero_lt_one)=48:=rfl;clear h g k h0 l;go_in;go_wp2_with (go_at_call 296;refine(H.o).mono ?_;rintro x w1 ⟨v,rfl,hd,hb⟩);go_returns;exact⟨_,rfl,hd,hb⟩
theorem Zcl (d:ax) (c:cj):YE (d++[c])=if c=48 then YE d else d++[c]:=by unfold YE;rw[List.reverse_append,List.reverse_singleton,List.singleton_append,Sj];split;rfl;rw[List.reverse_cons,List.reverse_reverse]
theorem ZnR (h:At w A (d.map bv)) (n cap:Nat) (F:n=d) (a0:n<=cap) (E:cap<=maxLen):
  Calls prog 300 #[(A,n,cap),.int .u8 48] w (bM w (.slice A (YE d) cap)):=by
 have G:=J h;have S:cap<=9223372036854775807:=(by unfold maxLen at E;omega);have D:=J F;clear h F E;go_in;go_wp2;go_loopw [0] (λv wr=>∃k:Nat,k<=n/\v=.slice A k cap/\Hid (YE (d.take k)=YE d)/\Below w w wr) (λv _=>match v with|.slice _ m _=>m|_=>0);exact⟨n,aU,rfl,J (by rw[D.o,pi]),bf _ _⟩;obtain⟨k,a1,rfl,q,t⟩:=hrel;by_cases h0:0<k
 .obtain⟨j,rfl⟩:∃j,k=j+1:=⟨k-1,O⟩;have u:j<d.length:=(by rw[<-D.o];omega);have hd:d.take (j+1)=d.take j++[d[j]]:=dK u;obtain⟨c,y⟩:=ay d[j];rw[y] at hd;have p:=q.o;rw[hd,Zcl] at p;obtain⟨b,o,M,hb,B⟩:=(G.o.below t).get j (bv c) (by rw[jX,fb u,y];rfl);have a2:wr.cell? ⟨b,o+j,none⟩=some (.int .u8 (c.toNat:Int)):=B;subst M;by_cases g:c=48;.rw[Vag g] at p;subst g;have Q:=J p;clear p hd y q B u;go_wp2;refine⟨⟨j,O,rfl,Q,t⟩,by show j<j+1;omega⟩
  rw[Vae g] at p;have R:((c.toNat:Int)==48)=false:=Ox;have l:(YE d).length=j+1:=by rw[<-p,Vab,ek];exact fj
  have z:=J l;clear p hd y q B u g l;go_wp2;go_returns;exact⟨by rw[z.o]<;>rfl,t⟩
 have I:k=0:=O;subst I;have l:(YE d).length=0:=(by rw[<-q.o];rfl);have z:=J l;clear q l;go_wp2;go_returns;exact⟨by rw[z.o]<;>rfl,t⟩
theorem Z5Q (h:At w A (d.map bv)) (n cap:Nat) (g:n=d) (l:n<=cap) (k:cap<=maxLen):
  Calls prog 282 #[(A,n,cap),.string ⟨#[48]⟩] w (bM w (.slice A (YE d) cap)):=by
 have H:=J (ZnR h n cap g l k);by_cases h0:n=0;.subst h0;have hd:d=[]:=ia g.symm;subst hd;have p:(YE ([]:ax)).length=0:=rfl;rw[p];clear h g H k p;go_in;go_wp2;go_returns;exact⟨rfl,bf _ _⟩
 have t:((n:Int)==0)=false:=rT;have q:((⟨#[48]⟩:aT)[0]'Nat.zero_lt_one)=48:=rfl;clear h g k h0 l;go_in;go_wp2_with (go_at_call 300;refine(H.o).mono ?_;rintro x w1 ⟨rfl,hb⟩);go_returns;exact⟨rfl,hb⟩
theorem AU {r:Nat} (l:Bk w r 305 #[false,.slice none 0 0,(0:Int)]) (hb:Below w0 w0 w) (h0:w0<=r) (p:At w A (L.map bv)) (b:Bool) (v:aI) (e:Int):
  ∃W,(((w.setCell (r,0) (.bool b)).setCell (r,1) v).setCell (r,2) e)=W/\W.cell? (r,0)=some (.bool b)/\W.cell? (r,1)=some v/\W.cell? (r,2)=some (.int .i64 e)/\At W A (L.map bv)/\Below w0 w0 W:=by have k:Fr (only r) w (((w.setCell (r,0) (.bool b)).setCell (r,1) v).setCell (r,2) e):=Xm (Xm (Xm (Fr.refl _ _) 0 _) 1 _) 2 _;have g:=((l.put 0 (.bool b)).put 1 v).put 2 e;exact⟨_,rfl,g.cell 0,g.cell 1,g.cell 2,Zlm p l (λx t=>by obtain⟨q,_,rfl⟩:=Vbm.1 t;simp[bv]) k,hb.trans (J' k hb.size h0)⟩
theorem Zfn {n:gL} (h:NV w v n) (h1:Sz n):
  Calls prog 254 #[v] w λx w'=>∃v',x=.returned v'/\NV w' v' (Xw n)/\Below w w w':=by
 obtain⟨A,cap,rfl,d5,g9,h0⟩:=h;obtain⟨b,d,e⟩:=n;obtain⟨s1,i5,s3⟩:=h1;simp only at*;have b3:=Bk.new (w.alloc (.cells #[b,(A,d.length,cap),e] 305)) 305 #[false,.slice none 0 0,(0:Int)];rw[World.size_alloc] at b3;have c7:Bk ((w.alloc (.cells #[b,(A,d.length,cap),e] 305)).alloc (.cells #[false,.slice none 0 0,(0:Int)] 305)) w 305 #[b,(A,d.length,cap),e]:=Bk.alloc (Bk.new _ _ _) _;have d6:=Ul w (.cells #[b,(A,d.length,cap),e] 305) (.cells #[false,.slice none 0 0,(0:Int)] 305);have g3:=(d5.alloc (.cells #[b,(A,d.length,cap),e] 305)).alloc (.cells #[false,.slice none 0 0,(0:Int)] 305);obtain⟨c9,c4,b7,a8⟩:=dc (Z7z g3 d cap rfl g9 h0) c7 b3 d6;clear d5 g3 c7 b3 d6;go_in;go_wp21;refine(c9.o).mono ?_;rintro x w1 ⟨i6,rfl,⟨A1,u,rfl,b1,d8,e3⟩,eA⟩;obtain⟨T,S⟩:=ay (kC d);have i1:T<=d.length:=(by rw[<-S];exact Ka d);have c3:Xw ⟨b,d,e⟩=if YE T=[] then wq else⟨b,YE T,e+((T.length-(YE T).length:Nat):Int)⟩:=by unfold Xw;simp only[S]
 rw[S] at b1 d8;obtain⟨R,Q⟩:=ay (YE T);have h9:R<=T.length:=(by rw[<-Q];exact UT T);have c6:T.take R.length=R:=by obtain⟨k,f3⟩:=UU T;rw[Q] at f3;have:T.take R.length=(R++List.replicate k 48).take R.length:=(by rw[<-f3]);rw[this,List.take_left]
 have a1:=Bk.below c4.o eA (Bk.lt c4.o);have d9:=Bk.below b7.o eA (Bk.lt b7.o);have f6:=a8.o.trans (eA.mono a8.o.size);have F:∀v∈T.map bv,v∉(#[b,(A,d.length,cap),e]:Array aI).toList:=λv b5=>by obtain⟨y,_,rfl⟩:=Vbm.1 b5;simp[bv]
 have b0:=LW b1 a1 F 1 (.slice A1 T u);have e5:=a1.put 1 (.slice A1 T u);have d7:=d9.off (p:=⟨w,1,none⟩) (by simp) (.slice A1 T u);have f9:=f6.setCell (p:=⟨w,1,none⟩) aU (.slice A1 T u);have c1:=a1.cell 1;have f1:=a1.frozen 1;simp at c1;have b4:=Z5Q b0 T u rfl d8 e3;rw[Q] at b4;rw[S];obtain⟨d1,c5,b2,b9,f5⟩:=ii b4 e5 d7 f9 b0;rw[Q] at c3;have a2:=J c3;have c8:=J c6;clear a1 d9 f6 F b0 e5 d7 f9 eA b1 c9 c4 b7 a8 c3 c6 S Q b4;go_wp21;refine aP d1.o λg4 aa=>?_;have f8:=Bk.below c5.o aa (Bk.lt c5.o);have B:=Bk.below b2.o aa (Bk.lt b2.o);have e8:=f5.o.below aa;have e9:=b9.o.trans (aa.mono b9.o.size);clear c1 f1;have e6:((T.length-R.length:Nat):Int)=(T.length:Int)-R.length:=O;obtain⟨E,g7⟩:=ay (e+((T.length:Int)-R.length));have F:∀(L:ax) (x:Bool) (y:aI) (z:Int),y=.slice A1 T u\/y=.slice none 0 0->∀v∈L.map bv,v∉(#[x,y,z]:Array aI).toList:=λL x y z h3 v b5=>by obtain⟨q,_,rfl⟩:=Vbm.1 b5;rcases h3 with rfl|rfl<;>simp[bv]
 have D:Bk g4 w 305 #[b,(A1,T.length,u),e]:=(by simpa using f8);have d3:Bk (g4.setCell (w,2) E) w 305 #[b,(A1,T.length,u),E]:=(by simpa using D.put 2 E);have e7:=LW e8 D (F _ _ _ _ (.inl rfl)) 2 E;have e4:=LW e7 d3 (F _ _ _ _ (.inl rfl)) 1 (.slice A1 R R);have e2:=(B.off (p:=⟨w,2,none⟩) (by simp) E).off (p:=⟨w,1,none⟩) (by simp) (.slice A1 R R);have f7:=(e9.setCell (p:=⟨w,2,none⟩) aU E).setCell (p:=⟨w,1,none⟩) aU (.slice A1 R R);have c0:=D.cell 0;have c1:=D.cell 1;have c2:=D.cell 2;have f1:=D.frozen 1;have i0:=D.frozen 2;have r0:=B.cell 0;have h5:=B.cell 1;have h6:=B.cell 2;have i2:=B.frozen 0;have i3:=B.frozen 1;have i4:=B.frozen 2;simp at c0 c1 c2 r0 h5 h6;have h4:=J F;have a9:=Vq e4 R;rw[<-B',c8.o] at a9;obtain⟨a3,a4,a6⟩:=bD a9 e2 f7;have g8: -4000000<=E/\E<=4000000:=O;have d2:=J g7;have d4:=J e6;clear e6;have g6:R<=u:=O;clear f8 D d3 e8 e7 e4 a9 B e2 e9 f7 aa c5 b2 b9 f5 d1 F;by_cases I:R=[];.have f4:R.length=0:=(by rw[I];rfl);have G:=a2.o;rw[Vag I] at G;have a7:=J G;obtain⟨g5,a0,g,l,t,a5,M⟩:=AU a4.o a6.o O a3.o false (.slice none 0 0) 0;have b8:=J a0;have b6:=J M;have h8:((R.length:Int)==0)=true:=(by rw[beq_iff_eq];omega);clear G a2 a0 a5 M a4 a6 a3 I d2 d4 h4 c8 f4;go_wp2;rw[b8.o];refine bodyPost_ret Ro rfl ?_;rw[a7.o];exact⟨_,rfl,⟨none,0,rfl,At.nil _ _,aU,cf _⟩,b6.o⟩
 have f4:((R.length:Int)==0)=false:=by rw[lL];intro h;exact I (ia O)
 have G:=a2.o;rw[Vae I] at G;have a7:=J G;obtain⟨g5,a0,g,l,t,a5,M⟩:=AU a4.o a6.o O a3.o b (.slice A1 R R) E;obtain⟨b8,h7,b6⟩:=bD a0 a5 M;clear G I a2 a0 a5 M a4 a6 a3;go_wp2;rw[b8.o];refine bodyPost_ret Ro rfl ?_;rw[a7.o];exact⟨_,rfl,⟨A1,R.length,by rw[d4.o,d2.o],h7.o,aU,co g6 e3⟩,b6.o⟩
def hK (S L:ax) (k:Nat):Bool:=match L[k]? with
 |some c=>S.contains c
 |none=>false
def lY (S L:ax) (k:Nat):Nat:=if hK S L k then k+1 else k
theorem K8 (s:aT) (k:Nat) (h:k<s.size):(aH s)[k]? =some (s[k]'h):=by have g:k<(aH s):=h;rw[fb g];simp only[aH,Array.getElem_toList];rfl
theorem ZlH (s:aT) (k:Nat) (h:¬k<s.size):(aH s)[k]? =none:=Ce Cu
theorem ZmX (b8:Bk w ba 3 #[k]) (hb:Bk w bb 9 #[s]) (c7:k<=s.size) (c8:s.size<=64) (a9:S.length<=2):
  Calls prog 252 #[bs S,(ba,0),(bb,0)] w λx w'=>x=.returned (hK S (aH s) k)/\Bk w' ba 3 #[lY S (aH s) k]/\Bk w' bb 9 #[s]/\Fr (only ba) w w':=by
 have Ha:=J b8;have a5:=J hb;have E:(bs S).size=S:=rfl;by_cases ab:k<s.size
 .have a6:=K8 s k ab;obtain⟨c,b0⟩:=ay s[k];rw[b0] at a6;have t:hK S (aH s) k=S.contains c:=(by unfold hK;rw[a6]);have b2:((s[k]'ab).toNat:Int)=(c.toNat:Int):=(by rw[b0]);have b6:=J (show ∀(i:Nat) (h:i<(bs S).size) (b7:i<S.length),((bs S)[i]'h)=S[i] from λi h b7=>rfl);have I:=J t;have b5:=J (show S.contains c=false->lY S (aH s) k=k from λh=>by unfold lY;rw[t,h];rfl);have ff:=J (show S.contains c=true->lY S (aH s) k=k+1 from λh=>by unfold lY;rw[t,h];rfl);obtain⟨C,a8⟩:=ay c.toNat;rw[a8] at b2;have a3:=J a8;generalize bs S=B at*;obtain⟨L,F⟩:=ay S.length;have a4:=J F;rw[F] at E a9;have R:=J E;have a0:B.size<=2:=O;go_in;go_wp2;go_loopw [8] (λiv wr=>∃i:Nat,i<=B.size/\iv=.int .i64 i/\Bk wr ba 3 #[k]/\Bk wr bb 9 #[s]/\Hid (∀j,j<i->S[j]? ≠some c)/\Fr (only ba) w wr) (λiv _=>(B.size-intOf iv).toNat);exact⟨0,O,rfl,Ha.o,a5.o,J (λj h=>O),Fr.refl _ _⟩;obtain⟨i,hi,rfl,g,l,a7,q⟩:=hrel;have c0:=g.cell 0;have c1:=l.cell 0;have f0:=g.frozen 0;simp at c0 c1;by_cases Q:i<B.size
  .have b1:i<S.length:=(by rw[a4.o];have:=R.o;omega);obtain⟨d,hd⟩:=ay S[i];obtain⟨D,a1⟩:=ay d.toNat;have c5:((B[i]'Q).toNat:Int)=(D:Int):=(by rw[b6.o i Q b1,hd,a1]);by_cases G:c=d
   .have y:S.contains c=true:=by rw[List.contains_iff_mem,G,<-hd];exact dt _
    have c3:((C:Int)==D)=true:=(by rw[beq_iff_eq,<-a3.o,<-a1,G]);have u:=I.o;rw[y] at u;have M:=J u;have a2:=ff.o y;have z:=J a2;go_wp2;go_quiet (fail);go_wp2;go_returns;rw[M.o,z.o];refine⟨rfl,?_,(l.drewN nq).off (p:=⟨ba,0,none⟩) ?_ _,Xm (q.drewN nq) 0 _⟩;simpa using (g.drewN nq).put 0 (.int .i64 ((k+1:Nat):Int));exact λe=>(l.apart g aY) e
   have c6:((C:Int)==D)=false:=by rw[lL,<-a3.o,<-a1];intro e;exact G (UInt8.toNat_inj.1 O)
   have b3:Hid (∀j,j<i+1->S[j]? ≠some c):=J (λj h=>by rcases Nat.lt_or_ge j i with h1|h1;exact a7.o j h1;have:j=i:=O;subst this;rw[fb b1,hd];intro e;injection e with e;exact G e.symm);go_wp2;go_quiet (fail);go_wp2;refine⟨⟨i+1,O,ci,g.drewN nq,l.drewN nq,b3,q.drewN nq⟩,?_⟩;simp[intOf]<;>omega
  have y:S.contains c=false:=by rw[Bool.eq_false_iff];intro h;rw[List.contains_iff_mem] at h;obtain⟨j,c4,b9⟩:=List.getElem_of_mem h;exact a7.o j (by have:=a4.o;have:=R.o;omega) (by rw[fb c4,b9])
  have u:=I.o;rw[y] at u;have M:=J u;have a2:=b5.o y;have z:=J a2;go_wp2;go_returns;rw[M.o,z.o];exact⟨rfl,g,l,q⟩
 have t:hK S (aH s) k=false:=(by unfold hK;rw[ZlH s k ab]);have b4:k=s.size:=O;have I:=J t;have z:=J (show lY S (aH s) k=k by unfold lY;rw[t];rfl);generalize bs S=B at*;obtain⟨L,F⟩:=ay S.length;rw[F] at E a9;have R:=J E;have a0:B.size<=2:=O;go_in;go_wp2;go_loopw [8] (λiv wr=>∃i:Nat,i<=B.size/\iv=.int .i64 i/\Bk wr ba 3 #[k]/\Bk wr bb 9 #[s]/\Fr (only ba) w wr) (λiv _=>(B.size-intOf iv).toNat);exact⟨0,O,rfl,Ha.o,a5.o,Fr.refl _ _⟩;obtain⟨i,hi,rfl,g,l,q⟩:=hrel;have c0:=g.cell 0;have c1:=l.cell 0;simp at c0 c1;by_cases Q:i<B.size;.go_wp2;go_quiet (fail);go_wp2;refine⟨⟨i+1,O,ci,g.drewN nq,l.drewN nq,q.drewN nq⟩,?_⟩;simp[intOf]<;>omega
 go_wp2;go_returns;rw[I.o,z.o];exact⟨rfl,by first|exact g|(rw[b4] at g;exact g),l,q⟩
theorem WU (L:ax):eQ L=L.take (eQ L).length:=by have h:=(List.takeWhile_prefix mR (l:=L));exact(List.prefix_iff_eq_take.1 h)
theorem Zm0 (L:ax) (j:Nat) (h:j<(eQ L)):∃c,L[j]? =some c/\mR c=true:=by obtain⟨c,k⟩:=ay ((eQ L)[j]);have hd:mR c=true:=k▸GN L _ (dt _);have h1:(eQ L)[j]? =some c:=(by rw[fb h,k]);have g:(L.take (eQ L))[j]? =some c:=(by rw[<-WU L];exact h1);rw[List.getElem?_take,Vag h] at g;exact⟨c,g,hd⟩
theorem Zii (L:ax):∀c,L[(eQ L).length]? =some c->mR c=false:=by
 unfold eQ;induction L with
 |nil=>intro c h;simp at h
 |cons a t ih=>intro c h;rw[List.takeWhile_cons] at h;split at h;rw[gd,List.getElem?_cons_succ] at h;exact ih c h;rename_i ha;simp at h;subst h;simpa using ha
def ML (b n:Nat) (w:aq):Nat:=match w.cell? ⟨b,0,none⟩ with
 |some (.int _ k)=>(n-k).toNat
 |_=>0
theorem PR {b:Nat} (h:Bk w b 3 #[k]):ML b n w=((n:Int)-k).toNat:=by have:=h.cell 0;simp at this;unfold ML;rw[this]
theorem Zmf (s:aT) (a b:Nat):s.extract a b=bs (((aH s).drop a).take (b-a)):=by apply xc;apply pS.1;simp only[bs,aH,ByteArray.data_extract,Array.toList_extract,List.extract_eq_take_drop]
theorem Zm2 (a0:Bk w ba 3 #[k]) (hb:Bk w bb 9 #[s]) (c3:k<=s.size) (c4:s.size<=64):
  Calls prog 253 #[(ba,0),(bb,0)] w λx w'=>x=.returned (bs (eQ ((aH s).drop k)))/\Bk w' ba 3 #[((k+(eQ ((aH s).drop k)).length:Nat):Int)]/\Bk w' bb 9 #[s]/\Fr (only ba) w w':=by
 have Ha:=J a0;have a6:=J hb;have F:=WU ((aH s).drop k);have M:=J (Zm0 ((aH s).drop k));have R:=J (Zii ((aH s).drop k));obtain⟨D,Q⟩:=ay (eQ ((aH s).drop k));rw[Q] at F M R⊢;obtain⟨m,E⟩:=ay (k+D.length);have b3:D<=s.size-k:=by have:=GO ((aH s).drop k);rw[Q,iW,Z2] at this;exact this
 have c5:m<=s.size:=O;have q:s.extract k m=bs D:=by rw[Zmf,show m-k=D by omega,<-F]
 have a3:=J q;have b8:=J E;rw[E];have b7:k<=m:=O;have b0:Hid (∀j,k<=j->j<m->∃(h:j<s.size),mR (s[j]'h)=true):=J (λj h1 b9=>by obtain⟨c,z,b1⟩:=M.o (j-k) O;have a2:j<s.size:=O;refine⟨a2,?_⟩;rw[List.getElem?_drop,show k+(j-k)=j by omega,K8 s j a2] at z;injection z with z;rw[z];exact b1);have a9:Hid (∀(h:m<s.size),mR (s[m]'h)=false):=J (λh=>by refine R.o _ ?_;rw[List.getElem?_drop,show k+D.length=m from E];exact K8 s m h);clear a0 hb F M R Q b3 q E;have I:=Ha.o.cell 0;simp at I;go_in;go_wp2;go_loopw [] (λwr=>∃j:Nat,k<=j/\j<=m/\Bk wr ba 3 #[.int .i64 (j:Int)]/\Bk wr bb 9 #[s]/\Fr (only ba) w wr) (λwr=>ML ba m wr);exact⟨k,aU,b7,Ha.o,a6.o,Fr.refl _ _⟩;obtain⟨j,b6,c7,g,B,a1⟩:=hrel;have c0:=g.cell 0;have c1:=B.cell 0;have f0:=g.frozen 0;simp at c0 c1;by_cases ab:j<m
 .obtain⟨t,l⟩:=b0.o j b6 ab;obtain⟨C,b4⟩:=ay ((s[j]'t).toNat);have G:48<=C/\C<=57:=by unfold mR at l;simp at l;omega
  obtain⟨q1,q2⟩:=G;have a7:=B.apart g aY;have a8:=g.put 0 (.int .i64 ((j+1:Nat):Int));obtain⟨S,y,u,a5⟩:=dc (show Bk (wr.setCell (ba,0) (.int .i64 ((j+1:Nat):Int))) ba 3 #[((j+1:Nat):Int)] by simpa using a8) (B.off (p:=⟨ba,0,none⟩) a7 (.int .i64 ((j+1:Nat):Int))) (Xm a1 0 (.int .i64 ((j+1:Nat):Int))) (PR (n:=m) g);go_wp2;have b2:(j:Int)+1=((j+1:Nat):Int):=O;rw[b2];refine⟨⟨j+1,O,O,S.o,y.o,u.o⟩,?_⟩;rw[PR S.o,a5.o];omega
 have GS:j=m:=O;subst GS;obtain⟨a4,y,u⟩:=bD g B a1;have c6:(k:Int)<=j:=O;by_cases t:j<s.size
 .have l:=a9.o t;obtain⟨C,b4⟩:=ay ((s[j]'t).toNat);have G:C<48\/57<C:=by unfold mR at l;simp at l;omega
  rcases G with q1|q1
  all_goals
   go_wp2;go_returns;exact⟨KN a3.o,a4.o,y.o,u.o⟩
 have b5:¬(j:Int)<s.size:=O;go_wp2;go_returns;exact⟨KN a3.o,a4.o,y.o,u.o⟩
theorem Zl2 {t:aT} {a b:Int} (h:s=t) (g:a=b):Ending.returned (.tuple #[s,a])=.returned (.tuple #[t,b]):=by rw[h,g]
theorem Zfl {n:gL} (h:NV w v n) (d3:Sz n) (c4:gl w):
  Calls prog 223 #[v] w (bM w (.tuple #[bs (Xs n).1,((Xs n).2:Int)])):=by
 obtain⟨A,cap,rfl,b5,d2,e5⟩:=h;obtain⟨b,d,e⟩:=n;obtain⟨s1,d6,s3⟩:=d3;simp only at*
 have y:Xs ⟨b,d,e⟩=if d=[] then([48],0) else if 17<d.length\/e+d.length-1< -400\/400<e+d.length-1 then([],9)
  else((if b then[45] else[])++d.take 1++(if 1<d.length then 46::d.drop 1 else[])++101::kd (e+d.length-1),0):=rfl;have b6:=(bf w w).alloc aU (.cells #[b,(A,d.length,cap),e] 305);have b3:Bk (w.alloc (.cells #[b,(A,d.length,cap),e] 305)) w 305 #[b,(A,d.length,cap),e]:=Bk.new _ _ _;obtain⟨B,Q,a8,c6,g⟩:=ii b6 b3 b5 c4 (λW=>ZbM b A d cap e s1 d6 s3 W);clear b6 b3 b5 c4;by_cases h0:d=[];.subst h0;have z:=J (y.trans (Vag rfl));clear y g;go_in;go_wp2;go_returns;exact⟨by rw[z.o]<;>rfl,B.o⟩
 rw[Vae h0] at y;have c9:((d.length:Int)==0)=false:=by rw[lL];intro h;exact h0 (ia O)
 have b1:0<d.length:=List.length_pos_iff.2 h0;obtain⟨L,b9⟩:=ay d.length;obtain⟨F,hF⟩:=ay (e+(L:Int)-1);rw[b9] at y g Q B d2 c9 b1 s3⊢;rw[hF] at y g;by_cases a2:17<L;.rw[Vag (.inl a2)] at y;have z:=J y;have c7:(17:Int)<L:=O;clear y g a2 hF;go_in;go_wp2;go_returns;exact⟨by rw[z.o]<;>rfl,B.o⟩
 have c7:¬(17:Int)<L:=O;by_cases d4:F< -400;.rw[Vag (.inr (.inl d4))] at y;have z:=J y;clear y a2 hF;go_in;go_wp21;refine aP (g.o _) λw1 E=>?_;have a7:=B.o.trans (E.mono B.o.size);go_wp2;go_returns;exact⟨by rw[z.o]<;>rfl,a7⟩
 by_cases d5:400<F;.rw[Vag (.inr (.inr d5))] at y;have z:=J y;clear y a2 hF;go_in;go_wp21;refine aP (g.o _) λw1 E=>?_;have D:=Bk.below Q.o E (Bk.lt Q.o);have a1:=B.o.trans (E.mono B.o.size);have c0:=D.cell 0;have c1:=D.cell 1;have c2:=D.cell 2;simp at c0 c1 c2;have I:=J a1;clear D a1 E;go_wp21;refine aP (g.o _) λR aa=>?_;have a7:=I.o.trans (aa.mono I.o.size);go_wp2;go_returns;exact⟨by rw[z.o]<;>rfl,a7⟩
 rw[Vae O] at y;have z:=J y;have a6:=J b9;clear y a2 hF;go_in;go_wp21;refine aP (g.o _) λw1 E=>?_;have D:=Bk.below Q.o E (Bk.lt Q.o);have a1:=B.o.trans (E.mono B.o.size);have c0:=D.cell 0;have c1:=D.cell 1;have c2:=D.cell 2;simp at c0 c1 c2;have a5:=J D;have I:=J a1;clear D a1 E;go_wp21;refine aP (g.o _) λR aa=>?_;have S:=Bk.below a5.o aa (Bk.lt a5.o);have a3:=I.o.trans (aa.mono I.o.size);clear c0 c1 c2;have c0:=S.cell 0;have c1:=S.cell 1;have c2:=S.cell 2;simp at c0 c1 c2;have a0:=a8.o.below a3;have a4:(d.take 1).length=1:=(by rw[ek,a6.o];omega);have d8:(convert 110 9 (.slice A 1 cap)).run prog R=.ok (.string (bs (d.take 1))) R:=by have:=WS (P:=prog) 110 9 5 underlying110 underlying5 underlying9 (w:=R) (A:=A) (l:=d.take 1) (by rw[B'];exact Vq a0 1) cap;rw[a4] at this;exact this
 have u:=J (λW (h:Below w w W)=>Zfc (c6.o.below h) F O O);have b2:(kd F).length<=4:=by unfold kd;split;have:=QY (n:=(-F).toNat) (k:=3) O O;rw[gd];omega;have:=QY (n:=F.toNat) (k:=3) O O;omega
 have e7:(bs (d.take 1)).size<=1:=(by rw[Z0,a4];exact aU);have e9:(bs (kd F)).size<=4:=(by rw[Z0];exact b2);have e6:=J S;have q:=J a3;by_cases b4:L=1
 .have G:=z.o;rw[Vae (show ¬1<L by omega),fg] at G;have t:Hid ((if b then(⟨#[45]⟩:aT)++bs (d.take 1) else bs (d.take 1))++(⟨#[101]⟩:aT)++bs (kd F)=bs (Xs ⟨b,d,e⟩).1):=J (by rw[G];have a9:(⟨#[101]⟩:aT)=bs [101]:=rfl;have b0:(⟨#[45]⟩:aT)=bs [45]:=rfl;rw[a9,b0];cases b;simp[Z9];simp[Z9]);have p:Hid ((Xs ⟨b,d,e⟩).2=0):=J (by rw[G]);subst b4;generalize bs (d.take 1)=S1 at*;generalize bs (kd F)=S3 at*;clear G z S a3 a0 a4 b2 a5 I Q B a8 aa;exact Oa
 have d7:1<L:=O;have c3:(1:Int)<L:=O;have G:=z.o;rw[Vag d7] at G;obtain⟨b7,c5,d1,_⟩:=a0 0 (by rw[Vah,a6.o];omega);subst d1;have l2:(d.drop 1)=L-1:=(by rw[iW,a6.o]);have d9:(convert 110 9 (.slice (some (b7,c5+1)) (L-1) (cap-1))).run prog R=.ok (.string (bs (d.drop 1))) R:=by have:=WS (P:=prog) 110 9 5 underlying110 underlying5 underlying9 (w:=R) (A:=some ⟨b7,c5+1,none⟩) (l:=d.drop 1) (by rw[List.map_drop];exact Vr a0 1) (cap-1);rw[l2] at this;exact this
 have e4:¬cap=1:=O;have e8:(bs (d.drop 1)).size<=17:=(by rw[Z0,l2];omega);have t:Hid ((if b then(⟨#[45]⟩:aT)++(bs (d.take 1)++((⟨#[46]⟩:aT)++bs (d.drop 1))) else bs (d.take 1)++((⟨#[46]⟩:aT)++bs (d.drop 1)))++(⟨#[101]⟩:aT)++bs (kd F)=bs (Xs ⟨b,d,e⟩).1):=J (by rw[G];have a9:(⟨#[101]⟩:aT)=bs [101]:=rfl;have b0:(⟨#[45]⟩:aT)=bs [45]:=rfl;have c8:(⟨#[46]⟩:aT)=bs [46]:=rfl;rw[a9,b0,c8];cases b;simp[Z9];simp[Z9]);have p:Hid ((Xs ⟨b,d,e⟩).2=0):=J (by rw[G]);generalize bs (d.take 1)=S1 at*;generalize bs (d.drop 1)=S2 at*;generalize bs (kd F)=S3 at*;clear G z S a3 a0 a4 l2 b2 a5 I Q B a8 aa b4;exact Oa
def ot (L:ax) (k:Nat):Nat:=if hK [45] L k then k+1 else lY [43] L k
theorem QJ (S L:ax) (k:Nat):(L<=k/\hK S L k=false/\L.drop k=[])\/(∃c,L[k]? =some c/\k<L/\hK S L k=S.contains c/\L.drop k=c::L.drop (k+1)):=by by_cases h:k<L;right;refine⟨L[k],fb h,h,?_,kw h⟩;unfold hK;rw[fb h];left;refine⟨O,?_,oc O⟩;unfold hK;rw[Ce O]
theorem UH (L:ax) (k:Nat):lD (L.drop k)=(hK [45] L k,L.drop (ot L k)):=by unfold ot lY;rcases QJ [45] L k with ⟨h1,t,g⟩|⟨c,h1,t,g,u⟩;have l:hK [43] L k=false:=(by unfold hK;rw[Ce h1]);rw[t,l,g];simp[lD,g];have l:hK [43] L k=[43].contains c:=(by unfold hK;rw[h1]);rw[g,l,u,KO];by_cases p:c=45;subst p;simp;by_cases q:c=43;subst q;simp;simp[p,q,u]
theorem UF (q:k<=L):k<=ot L k/\ot L k<=L:=by unfold ot lY;rcases QJ [45] L k with ⟨h1,g,l⟩|⟨c,h1,g,l,t⟩;have p:hK [43] L k=false:=(by unfold hK;rw[Ce h1]);rw[g,p];simp[q];split;exact O;split<;>omega
theorem Ou (h:hK S L k=true):k<L:=by rcases QJ S L k with ⟨h1,g,l⟩|⟨c,h1,g,l,p⟩;rw[g] at h;cases h;exact g
theorem Gt (h:hK S L k=true):lY S L k=k+1:=by unfold lY;rw[Vag h]
theorem G5 (h:hK S L k=false):lY S L k=k:=by unfold lY;rw[h];rfl
theorem Kz (L:ax) (k:Nat):qQ (L.drop k)=L.drop (k+(eQ (L.drop k)).length):=by
 have h:L.drop k=eQ (L.drop k)++qQ (L.drop k):=(List.takeWhile_append_dropWhile (p:=mR) (l:=L.drop k)).symm;have q:(L.drop k).drop (eQ (L.drop k)).length=qQ (L.drop k):=by have g:(eQ (L.drop k)++qQ (L.drop k)).drop (eQ (L.drop k)).length=qQ (L.drop k):=B7;rw[<-h] at g;exact g
 rw[<-q,vM]
theorem Le (L:ax) (g:k<=L):k+(eQ (L.drop k)).length<=L:=by have:=GO (L.drop k);rw[iW] at this;omega
theorem Zbk (L:ax) (k:Nat):xT (L.drop k)=if hK [46] L k then(if eQ (L.drop (k+1))=[] then none else some (eQ (L.drop (k+1)),L.drop (k+1+(eQ (L.drop (k+1))).length))) else some ([],L.drop k):=by rcases QJ [46] L k with ⟨h1,l,g⟩|⟨c,h1,l,g,p⟩;rw[l,g];rfl;rw[g,p,FW];by_cases e:c=46;subst e;simp[Kz];simp[e]
theorem Td (f:ax->Nat) (L:ax) (k:Nat):xO f (L.drop k)=if hK [101,69] L k then(if eQ (L.drop (ot L (k+1)))=[] then none else some (sg (hK [45] L (k+1))*(f (eQ (L.drop (ot L (k+1)))):Int),L.drop (ot L (k+1)+(eQ (L.drop (ot L (k+1)))).length))) else some (0,L.drop k):=by
 rcases QJ [101,69] L k with ⟨h1,l,g⟩|⟨c,h1,l,g,p⟩;rw[l,g];rfl;rw[g,p,Ub,UH];by_cases e:c=101\/c=69;have:[101,69].contains c=true:=(by rw[List.contains_iff_mem];simpa using e);rw[this,Vag e];simp[Kz];have:[101,69].contains c=false:=by rw[Bool.eq_false_iff];intro h;rw[List.contains_iff_mem] at h;exact e (by simpa using h)
 rw[this,Vae e];simp
structure eY (w wx:World) (s:ByteArray) (k:Nat) (b:Bool) (v:Value) (D:List UInt8) (e:Int):Prop where
 bs_:Bk wx w.heap.size 9 #[s]
 br:Bk wx (w.heap.size+1) 305 #[false,.slice none 0 0,(0:Int)]
 bn:Bk wx (w.heap.size+1+1) 305 #[b,v,e]
 ba:Bk wx (w.heap.size+1+1+1) 3 #[k]
 own:wx.ownsRow w.heap.size 5 1 v D.length (D.map bv)
 bel:Below w.heap.size w wx
theorem eY.step {k':Nat} (h:eY w wx s k b v D e) (hb:Bk wy (w.heap.size+1+1+1) 3 #[k']) (l:Fr (only (w.heap.size+1+1+1)) wx wy):eY w wy s k' b v D e where
 bs_:=h.bs_.fr l Ap
 br:=h.br.fr l Ap
 bn:=h.bn.fr l Ap
 ba:=hb
 own:=Z6 h.own l (λg p q=>Z1 h.own h.ba aY (q▸p))
 bel:=h.bel.trans (J' l h.bel.size O)
theorem eY.num {p:Bool} {q:Int} (h:eY w wx s k b v D e) (hb:Bk wy (w.heap.size+1+1) 305 #[p,v,q]) (l:Fr (only (w.heap.size+1+1)) wx wy):eY w wy s k p v D q where
 bs_:=h.bs_.fr l Ap
 br:=h.br.fr l Ap
 bn:=hb
 ba:=h.ba.fr l Ap
 own:=Z6 h.own l (λg t u=>Z1 h.own h.bn aY (u▸t))
 bel:=h.bel.trans (J' l h.bel.size O)
theorem eY.neg (h:eY w wx s k b v D e) (g:Bool):eY w (wx.setCell (w.heap.size+1+1,0) (.bool g)) s k g v D e:=
 h.num (by simpa using h.bn.put 0 (.bool g)) (Xm (Fr.refl _ _) 0 _)
theorem eY.exp (h:eY w wx s k b v D e) (g:Int):eY w (wx.setCell (w.heap.size+1+1,2) g) s k b v D g:=
 h.num (by simpa using h.bn.put 2 g) (Xm (Fr.refl _ _) 2 _)
theorem eY.app {E:ax} (h:eY w wx s k b v D e) (t:wy.ownsRow w 5 1 v' (D++E) ((D++E).map bv)) (g:wx.grownBy wy v.ownBlock):
  Bk wy (w.heap.size+1+1) 305 #[b,v,e]/\eY w (wy.setCell (w.heap.size+1+1,1) v') s k b v' (D++E) e:=by have q:=h.bn.grown g (λx=>Z1 h.own h.bn aY x.symm);have l:=q.put 1 v';refine⟨q,?_⟩;refine⟨?_,?_,by simpa using l,?_,?_,?_⟩;exact(h.bs_.grown g (λx=>Z1 h.own h.bs_ aY x.symm)).off (p:=⟨w+1+1,1,none⟩) vP _;exact(h.br.grown g (λx=>Z1 h.own h.br aY x.symm)).off (p:=⟨w+1+1,1,none⟩) vP _;exact(h.ba.grown g (λx=>Z1 h.own h.ba aY x.symm)).off (p:=⟨w+1+1,1,none⟩) vP _;exact Zq t (p:=⟨w+1+1,1,none⟩) (Z1 t q aY) _;exact(h.bel.grown g h.bel.size (λk l=>(h.own.lt k l).1)).setCell (p:=⟨w+1+1,1,none⟩) (by show _<=_+1+1;omega) _
theorem eY.one (h:eY w wx s k b v D e) (S:ax) (q:k<=s.size) (t:s.size<=64) (p:S.length<=2):
  cK 252 #[bs S,(w.heap.size+1+1+1,0),(w,0)] wx λx w'=>x=.returned (hK S (aH s) k)/\eY w w' s (lY S (aH s) k) b v D e:=by refine(ZmX h.ba h.bs_ q t p).mono ?_;rintro x w' ⟨h1,g,u,l⟩;exact⟨h1,h.step g l⟩
theorem eY.dig (h:eY w wx s k b v D e) (p:k<=s.size) (q:s.size<=64):
  cK 253 #[(w.heap.size+1+1+1,0),(w,0)] wx λx w'=>x=.returned (bs (eQ ((aH s).drop k)))/\eY w w' s (k+(eQ ((aH s).drop k)).length) b v D e:=by refine(Zm2 h.ba h.bs_ p q).mono ?_;rintro x w' ⟨h1,g,t,l⟩;exact⟨h1,h.step g l⟩
theorem Z93 (L:ax):Lib.strCells (bs L)=L.map bv:=by unfold Lib.strCells bs bv;simp
def DL (w w':aq) (o:Option gL) (x:Ending):Prop:=∃v b,x=.returned (.tuple #[v,.bool b])/\Below w w w'/\(∃g A l c e,v=.agg #[.bool g,.slice A l c,.int .i64 e])/\(match o with
 |none=>b=false
 |some n=>b=true/\NV w' v n/\Sz n)
theorem ZjQ (w:aq) (s:aT):
  eY w ((((w.alloc (.cells #[s] 9)).alloc (.cells #[false,.slice none 0 0,(0:Int)] 305)).alloc (.cells #[false,.slice none 0 0,(0:Int)] 305)).alloc (.cells #[(0:Int)] 3)) s 0 false (.slice none 0 0) [] 0 where
 bs_:=((Bk.new w _ _).alloc _).alloc _|>.alloc _
 br:=by have:=Bk.new (w.alloc (.cells #[s] 9)) 305 #[false,.slice none 0 0,(0:Int)];rw[World.size_alloc] at this;exact(this.alloc _).alloc _
 bn:=by have:=Bk.new ((w.alloc (.cells #[s] 9)).alloc (.cells #[false,.slice none 0 0,(0:Int)] 305)) 305 #[false,.slice none 0 0,(0:Int)];rw[World.size_alloc,World.size_alloc] at this;exact this.alloc _
 ba:=by have:=Bk.new (((w.alloc (.cells #[s] 9)).alloc (.cells #[false,.slice none 0 0,(0:Int)] 305)).alloc (.cells #[false,.slice none 0 0,(0:Int)] 305)) 3 #[(0:Int)];rw[World.size_alloc,World.size_alloc,World.size_alloc] at this;exact this
 own:=Zl
 bel:=(((bf w w).alloc aU _).alloc (by simp) _|>.alloc vP _).alloc vP _
theorem ZpT (f:ax->Nat) (h:L.length<=64):qq f L=if eQ (L.drop (ot L 0))=[] then none else
  match xT (L.drop (ot L 0+(eQ (L.drop (ot L 0))).length)) with
  |none=>none
  |some x=>match xO f x.2 with
   |none=>none
   |some y=>if y.2=[] then some ⟨hK [45] L 0,eQ (L.drop (ot L 0))++x.1,y.1-x.1.length⟩ else none:=by have h0:=UH L 0;rw[Ch] at h0;unfold qq;rw[Vae O,h0];simp only[Kz];rfl
theorem Ml (h:eY w w1 s k b v D e):
  ∃W,(((w1.setCell (w.heap.size+1,0) (.bool b)).setCell (w.heap.size+1,1) v).setCell (w.heap.size+1,2) e)=W/\W.cell? (w.heap.size+1,0)=some (.bool b)/\W.cell? (w.heap.size+1,1)=some v/\W.cell? (w.heap.size+1,2)=some (.int .i64 e)/\Below w w W:=by obtain⟨W,h1,g,l,p,_,q⟩:=AU h.br h.bel O (L:=[]) (At.nil w1 none) b v e;exact⟨W,h1,g,l,p,q⟩
theorem Ui (h:eY w w1 s k b v D e) (E:ax) (z:D.length+E.length<=1000):
  ∃v' w',(Builtin.append_ #[110,9] 110 #[v,bs E]).run prog w1=.ok v' w'/\Bk w' (w.heap.size+1+1) 305 #[b,v,e]/\eY w (w'.setCell (w.heap.size+1+1,1) v') s k b v' (D++E) e:=by obtain⟨i,hi,y,u,l⟩:=info_parts Zqe;obtain⟨v',w',t,g,q,_⟩:=Lib.run_append_own_string (P:=prog) (w:=w1) w 110 9 110 5 i underlying110 underlying9 hi y u l v D (D.map bv) h.own (bs E) (by rw[Z0];unfold maxLen;omega) Ar h.bel.size;rw[Z93,<-jy,Z0,<-Vab] at g;obtain⟨h1,p⟩:=h.app g q;exact⟨v',w',t,h1,p⟩
theorem Z3N {P:Program} {l:Array Oper} {rest:List Oper} {o:Oper} {a:Act} {w':aq} {Q:Exit->Act->aq->Prop} (q:w=w0) (g:o.guard=none) (s x:Operand) (t y:TypeId)
  (p:o.op=.call { callee:=.builtin .append,args:= #[s,x],argTypes:= #[t,y] }) (v u:aI) (F:a.eval s=v) (D:a.eval x=u)
  (B:(Builtin.append_ #[t,y] o.type #[v,u]).run P w0=.ok v' w') (h:wpList P l Q rest (a.put o.dst v') w'):wpList P l Q (o::rest) a w:=NC
theorem ZhX (p:ax) (i:Nat) (h:i<p):kP (p.take (i+1))=min 1048576 (10*kP (p.take i)+dv p[i]):=by unfold kP;rw[dK h,rk];rfl
theorem W_ (p:ax):kP p<=1048576:=by rw[V_];exact Nat.min_le_left _ _
theorem ZoT {c:cj} (h:mR c=true):48<=c.toNat/\c.toNat<=57/\dv c=c.toNat-48:=by unfold mR at h;simp at h;exact⟨h.1,h.2,rfl⟩
theorem ZnL {n:gL} (h1: -1500000<=n.ex) (g:n.ex<=1500000) (k:n.dg.length<=1000):Sz n/\Sz (Xw n):=by refine⟨⟨O,O,O⟩,?_⟩;have a1:=Ka n.dg;have a2:=UT (kC n.dg);unfold Xw;split;exact⟨by simp[wq],by simp[wq],by simp[wq]⟩;exact⟨dz,dz,dz⟩
theorem Zmc {E:Int} {r:ax} (h:xO kP (L.drop k)=some (E,r)): -1048576<=E/\E<=1048576:=by rw[Td] at h;have:=W_ (eQ (L.drop (ot L (k+1))));generalize kP (eQ (L.drop (ot L (k+1))))=c at*;split at h;split at h;exact po;injection h with h;injection h with h _;rw[<-h];unfold sg;split<;>omega;injection h with h;injection h with h _;rw[<-h];omega
theorem eY.keep (h:eY w wx s k b v D e) (hb:Below wx wx wy):eY w wy s k b v D e where
 bs_:=h.bs_.below hb h.bs_.lt
 br:=h.br.below hb h.br.lt
 bn:=h.bn.below hb h.bn.lt
 ba:=h.ba.below hb h.ba.lt
 own:=Z6 h.own (Fr.of_below (S:=nob) hb) (λ_ _ f=>f)
 bel:=h.bel.trans (hb.mono h.bel.size)
theorem Z4W (D:ax) (w:aq):∃cap W,(convert 9 110 (.string (bs D))).run prog w=.ok (.slice (some (w,0)) (bs D).size cap) W/\At W (some ⟨w,0,none⟩) (D.map bv)/\Below w w W:=by have h:=run_bytes_of_string (P:=prog) w 9 110 5 (bs D) underlying9 underlying110 underlying5;refine⟨_,_,h,?_,((bf w w).drew).alloc aU _⟩;intro i hi;rw[Vah] at hi;refine⟨w,0,rfl,by rw[World.size_alloc];exact uH _,?_⟩;rw[jK];show(w.drew.alloc _).cell? (w.drew,i)=_;rw[World.cell?_alloc_mark,bytesRow_at _ _ i hi];simp[bv,bs]
theorem Zja {base e:Nat} {xs:List aI} (h:w.ownsRow base e 1 v n xs):∃A cap,v=.slice A n cap/\At w A xs/\n<=cap/\cap<=maxLen:=by have y:=h;obtain⟨A,cap,p,t⟩:=Zh h;refine⟨A,cap,p,t,?_⟩;rcases y.2 with ⟨k,z⟩|⟨g,D,u,k,_,_,q,l,_⟩;rw[p] at k;injection k with k q l;subst l;subst z;exact⟨aU,cf _⟩;rw[p] at k;injection k with k E B;subst B;exact⟨q,l⟩
def sT (w:aq) (s:aT) (k:Nat) (b:Bool) (v:aI) (F:Int) (W:aq):Prop:=
 W.cell? ⟨w+1+1,0,none⟩=some (.bool b)/\W.cell? ⟨w+1+1,1,none⟩=some v/\W.cell? ⟨w+1+1,2,none⟩=F/\W.cell? ⟨w+1+1+1,0,none⟩=k/\W.cell? ⟨w,0,none⟩=some (.string s)
theorem YL (h:W.cell? p=some v) (hb:Below W W W'):W'.cell? p=some v:=(hb.cell (World.block_lt_of_cell? W p h)).trans h
theorem sT.below (h:sT w s k b v F W) (hb:Below W W W'):sT w s k b v F W':=
 ⟨YL h.1 hb,YL h.2.1 hb,YL h.2.2.1 hb,YL h.2.2.2.1 hb,YL h.2.2.2.2 hb⟩
theorem Db {g i:Nat} {u:aI} (h:W.cell? p=some v) (l:g≠p.block):(W.setCell (g,i) u).cell? p=some v:=by have k:=((Fr.refl (only g) W).setCell (p:=⟨g,i,none⟩) (.inl rfl) u).cell (p:=p) (World.block_lt_of_cell? W p h) (λe=>l e.symm);exact k.trans h
theorem sT.put3 (h:sT w s k b v F W) (x y z:aI):sT w s k b v F (((W.setCell (w.heap.size+1,0) x).setCell (w.heap.size+1,1) y).setCell (w.heap.size+1,2) z):=by
 have go:∀ {W:aq} (i:Nat) (u:aI),sT w s k b v F W->sT w s k b v F (W.setCell (w.heap.size+1,i) u):=λi u h=>
  ⟨Db h.1 (by simp),Db h.2.1 (by simp),Db h.2.2.1 (by simp),Db h.2.2.2.1 vP,Db h.2.2.2.2 (by simp)⟩;exact go 2 z (go 1 y (go 0 x h))
theorem Zfj (s : aT) (w : aq) :
    Calls prog 222 #[s] w λx w'=>DL w w' ((qq kP (aH s)).map Xw) x:=by
  by_cases b3:s.size<=64
  . obtain⟨R,p⟩:=ay ((qq kP (aH s)).map Xw);rw[p];have o0:(aH s).length<=64:=(by rw[Z2];exact b3);have o1:(aH s)=s.size:=Z2 s;rw[ZpT kP o0] at p;have l9:=UF (L:=aH s) (k:=0) (cf _);obtain⟨b,hb⟩:=ay (hK [45] (aH s) 0);obtain⟨k1,l1⟩:=ay (ot (aH s) 0);have d8:ot (aH s) 0=if hK [45] (aH s) 0 then 0+1 else lY [43] (aH s) 0:=rfl;rw[hb,l1] at p d8;rw[l1,o1] at l9;have m9:k1<=s.size:=l9.2;obtain⟨j3,d9,d1,d3⟩:=dc hb d8 p (ZjQ w s);have n4:0<=s.size:=cf _;clear hb l1 d8 p l9 o0 o1;go_in;go_upto_if 22 with (go_at_call 252;refine((eY.one d3.o [45] n4 b3 (by simp)).mono ?_);rintro x w1 ⟨rfl,h1⟩);rw[j3.o];go_cut [] (λwx=>eY w wx s k1 b (.slice none 0 0) [] 0)
    case first=>
      cases b;. have e0:lY [45] (aH s) 0=0:=G5 j3.o;rw[e0] at h1;have d4:k1=lY [43] (aH s) 0:=d9.o;have b5:=J h1;clear h1;go_wp2_with (go_at_call 252;refine((eY.one b5.o [43] n4 b3 (by simp)).mono ?_);rintro x t4 ⟨rfl,G⟩);rw[<-d4] at G;have p6:=J G;clear G;go_meet;case rel=>exact p6.o
      have e0:lY [45] (aH s) 0=0+1:=Gt j3.o;have d4:k1=0+1:=d9.o;rw[e0,<-d4] at h1;have a9:=h1.bn.cell 0;have n1:=h1.bn.frozen 0;have d5:=h1.neg true;simp at a9;have f5:=J d5;clear h1 d5;go_wp2;go_meet;case rel=>exact f5.o
    have b5:=J hcut;clear hcut h1 d9;obtain⟨D,g8⟩:=ay (eQ ((aH s).drop k1));obtain⟨k2,g3⟩:=ay (k1+D.length);have b1:=Le (aH s) (k:=k1) (by rw[Z2];exact m9);rw[g8,Z2,g3] at b1;have GW:k2<=s.size:=b1;have u6:D.length<=64:=O;have p:=d1.o;rw[g8,g3] at p;have a4:Hid (∀(wx:aq) (a3:Bool) (v:aI) (E:ax) (e:Int),eY w wx s k1 a3 v E e->Calls prog 253 #[(w.heap.size+1+1+1,0),(w,0)] wx λx w'=>x=.returned (bs D)/\eY w w' s k2 a3 v E e):=J (λwx a3 v E e h=>by have:=h.dig m9 b3;rw[g8,g3] at this;exact this);clear g8 g3 b1 d1;go_upto_if 29 with (go_at_call 253;refine((a4.o _ _ _ _ _ b5.o).mono ?_);rintro x t4 ⟨rfl,G⟩);clear a4 b5 d3;by_cases a2:D=[];rw[Vag a2] at p;have u:Hid ((none:Option gL)=R):=J p;have b4:(bs D).toList.isEmpty=true:=MF (by rw[Z0,a2];rfl);obtain⟨f9,a8,g,l,t,a6⟩:=Ml G;have a9:=G.bn.cell 0;have n1:=G.bn.cell 1;have n2:=G.bn.cell 2;have r0:=G.br.cell 0;have c8:=G.br.cell 1;have c9:=G.br.cell 2;have g5:=G.br.frozen 0;have g6:=G.br.frozen 1;have g7:=G.br.frozen 2;simp at a9 n1 n2 r0 c8 c9;have q:=J a8;have z:=J a6;rw[b4];clear p a2 a8 a6 b4 G;exact NT;rw[Vae a2] at p;have d1:=J p;have b4:(bs D).toList.isEmpty=false:=ME (by rw[Z0];exact List.length_pos_iff.2 a2);obtain⟨u7,v1,o7,b7,d5⟩:=Ui G D fj;obtain⟨A3,t8,u0,rfl⟩:=Z7 d5.own;rw[pU] at d5;have n1:=G.bn.cell 1;have i3:=b7.cell 1;have f1:=b7.frozen 1;simp at n1 i3;have f5:=J d5;have o4:=J o7;rw[b4];clear p a2 G d5 o7 b7 b4;generalize bs D=SD at*
    go_upto_if 37 with (first
      |(at_builtin;refine Z3N iG rfl _ _ _ _ rfl _ _ (by rfl) (by rfl) o4.o ?_)
      |(go_at_call 252;refine((eY.one f5.o [46] GW b3 (by simp)).mono ?_);rintro x v2 ⟨rfl,d6⟩));clear n1 i3 f1 o4 f5;go_cut [] (λwx=>∃v P k3,k3<=s.size/\P.length<=64/\Hid (xT ((aH s).drop k2)=some (P,(aH s).drop k3))/\eY w wx s k3 b v (D++P) (-(P.length:Int)))
    case first=>
      have b0:=Zbk (aH s) k2;by_cases c4:hK [46] (aH s) k2=true
      . rw[Vag c4] at b0;rw[Gt c4] at d6;have AT:k2+1<=s.size:=(by have:=Ou c4;rw[Z2] at this;exact this);obtain⟨P,g9⟩:=ay (eQ ((aH s).drop (k2+1)));obtain⟨k3,b7⟩:=ay (k2+1+P.length);have b1:=Le (aH s) (k:=k2+1) (by rw[Z2];exact AT);rw[g9,Z2,b7] at b1;have k8:P.length<=64:=O;rw[g9,b7] at b0;have a4:Hid (∀(wx:aq) (a3:Bool) (v:aI) (E:ax) (e:Int),eY w wx s (k2+1) a3 v E e->Calls prog 253 #[(w.heap.size+1+1+1,0),(w,0)] wx λx w'=>x=.returned (bs P)/\eY w w' s k3 a3 v E e):=J (λwx a3 v E e h=>by have:=h.dig AT b3;rw[g9,b7] at this;exact this);have e3:=J d6;rw[c4];clear g9 b7 d6 c4;by_cases e5:P=[];. rw[Vag e5] at b0;have p:=d1.o;rw[b0] at p;have u:Hid ((none:Option gL)=R):=J p;have b4:(bs P).toList.isEmpty=true:=MF (by rw[Z0,e5];rfl);clear p b0 e5 d1;go_upto_region 17 with (go_at_call 253;refine((a4.o _ _ _ _ _ e3.o).mono ?_);rintro x t5 ⟨rfl,Q⟩);obtain⟨f9,a8,g,l,t,a6⟩:=Ml Q;have a9:=Q.bn.cell 0;have n1:=Q.bn.cell 1;have n2:=Q.bn.cell 2;have r0:=Q.br.cell 0;have c8:=Q.br.cell 1;have c9:=Q.br.cell 2;have g5:=Q.br.frozen 0;have g6:=Q.br.frozen 1;have g7:=Q.br.frozen 2;simp at a9 n1 n2 r0 c8 c9;have q:=J a8;have z:=J a6;clear a8 a6 Q a4 e3;exact NT
        rw[Vae e5] at b0;have j8:=J b0;have b4:(bs P).toList.isEmpty=false:=ME (by rw[Z0];exact List.length_pos_iff.2 e5);clear b0 e5;go_upto_region 18 with (go_at_call 253;refine((a4.o _ _ _ _ _ e3.o).mono ?_);rintro x t5 ⟨rfl,Q⟩);obtain⟨v0,t6,n6,j0,a1⟩:=Ui Q P O;obtain⟨t7,t9,u1,rfl⟩:=Z7 a1.own;have n1:=Q.bn.cell 1;have i3:=j0.cell 1;have f1:=j0.frozen 1;have t1:=a1.bn.cell 2;have q2:=a1.bn.frozen 2;simp at n1 i3 t1;have b2:=a1.exp (-((bs P).size:Int));have e7:=J b2;have p5:=J n6;have s2:(bs P).size<=64:=k8;clear Q n6 j0 a1 b2 a4 e3;go_wp2_with (at_builtin;refine Z3N iG rfl _ _ _ _ rfl _ _ (by rfl) (by rfl) p5.o ?_);go_meet;case rel=>exact⟨_,P,k3,b1,k8,j8,e7.o⟩
      rw[Vae c4] at b0;have i9:hK [46] (aH s) k2=false:=(by simpa using c4);rw[G5 i9] at d6;have j8:=J b0;have e3:=J d6;rw[i9];clear b0 c4 i9 d6;go_wp2;go_meet;case rel=>exact⟨_,[],k2,GW,by simp,j8,by simpa using e3.o⟩
    obtain⟨u9,P,k3,n3,k8,o6,I⟩:=hcut;obtain⟨A5,j7,b6,rfl⟩:=Z7 I.own;have p:=d1.o;rw[o6.o] at p;simp only at p;have e9:=J p;have f6:=J I;clear p d1 I o6 d6;go_upto_if 53 with (go_at_call 252;refine((eY.one f6.o [101,69] n3 b3 (by simp)).mono ?_);rintro x t6 ⟨rfl,a1⟩);go_cut [] (λwx=>∃E a5,a5<=s.size/\Hid (xO kP ((aH s).drop k3)=some (E,(aH s).drop a5))/\eY w wx s a5 b (.slice A5 j7 b6) (D++P) (E-(P.length:Int)))
    case first=>
      have y:=Td kP (aH s) k3;by_cases b8:hK [101,69] (aH s) k3=true
      . rw[Vag b8] at y;rw[Gt b8] at a1;have i8:k3+1<=s.size:=(by have:=Ou b8;rw[Z2] at this;exact this);have i7:=(UF (L:=aH s) (k:=k3+1) (by rw[Z2];exact i8)).2;have d8:ot (aH s) (k3+1)=if hK [45] (aH s) (k3+1) then k3+1+1 else lY [43] (aH s) (k3+1):=rfl;obtain⟨bn,l3⟩:=ay (hK [45] (aH s) (k3+1));obtain⟨d7,m4⟩:=ay (ot (aH s) (k3+1));rw[l3,m4] at y d8;rw[m4,Z2] at i7;obtain⟨B,e6⟩:=ay (eQ ((aH s).drop d7));obtain⟨i1,f8⟩:=ay (d7+B.length);have b1:=Le (aH s) (k:=d7) (by rw[Z2];exact i7);rw[e6,Z2,f8] at b1;have o8:B.length<=64:=O;rw[e6,f8] at y;have l5:Hid (sM B):=J (e6▸GN _);have a4:Hid (∀(wx:aq) (a3:Bool) (v:aI) (E:ax) (e:Int),eY w wx s d7 a3 v E e->Calls prog 253 #[(w.heap.size+1+1+1,0),(w,0)] wx λx w'=>x=.returned (bs B)/\eY w w' s i1 a3 v E e):=J (λwx a3 v E e h=>by have:=h.dig i7 b3;rw[e6,f8] at this;exact this);obtain⟨i4,d9,f7,e2⟩:=dc l3 d8 a1 y;rw[b8];clear y b8 a1 l3 m4 d8 e6 f8;go_upto_if 57 with (go_at_call 252;refine((eY.one f7.o [45] i8 b3 (by simp)).mono ?_);rintro x v4 ⟨rfl,b2⟩);rw[i4.o];go_cut [10] (λs7 wx=>s7=.bool bn/\eY w wx s d7 b (.slice A5 j7 b6) (D++P) (-(P.length:Int)))
        case first=>
          cases bn;. have e0:lY [45] (aH s) (k3+1)=k3+1:=G5 i4.o;rw[e0] at b2;have d4:d7=lY [43] (aH s) (k3+1):=d9.o;have e7:=J b2;clear b2 e0;go_wp2_with (go_at_call 252;refine((eY.one e7.o [43] i8 b3 (by simp)).mono ?_);rintro x v7 ⟨rfl,l7⟩);rw[<-d4] at l7;have e4:=J l7;clear l7;go_meet;case rel=>exact⟨rfl,e4.o⟩
          have e0:lY [45] (aH s) (k3+1)=k3+1+1:=Gt i4.o;have d4:d7=k3+1+1:=d9.o;rw[e0,<-d4] at b2;have e7:=J b2;clear b2 e0;go_wp2;go_meet;case rel=>exact⟨rfl,e7.o⟩
        obtain⟨rfl,I⟩:=hcut;have e4:=J I;clear I b2 f7 f6 d9 i4;by_cases a2:B=[];. have p:=e9.o;have y:=e2.o;rw[Vag a2] at y;rw[y] at p;have u:Hid ((none:Option gL)=R):=J p;have b4:(bs B).toList.isEmpty=true:=MF (by rw[Z0,a2];rfl);clear p y e9 e2 a2 l5;go_upto_region 26 with (go_at_call 253;refine((a4.o _ _ _ _ _ e4.o).mono ?_);rintro x i5 ⟨rfl,S⟩);obtain⟨f9,a8,g,l,t,a6⟩:=Ml S;have a9:=S.bn.cell 0;have n1:=S.bn.cell 1;have n2:=S.bn.cell 2;have r0:=S.br.cell 0;have c8:=S.br.cell 1;have c9:=S.br.cell 2;have g5:=S.br.frozen 0;have g6:=S.br.frozen 1;have g7:=S.br.frozen 2;simp at a9 n1 n2 r0 c8 c9;have q:=J a8;have z:=J a6;clear a8 a6 S a4 e4;exact NT
        have y:=e2.o;rw[Vae a2] at y;have m5:=J y;have b4:(bs B).toList.isEmpty=false:=ME (by rw[Z0];exact List.length_pos_iff.2 a2);clear y e2 e9 a2;go_upto_region 28 with (go_at_call 253;refine((a4.o _ _ _ _ _ e4.o).mono ?_);rintro x i5 ⟨rfl,S⟩);obtain⟨u2,n9,r6,e8,o5⟩:=Z4W B i5;have i2:=S.keep o5;obtain⟨d2,k6⟩:=ay B.length;have m7:(bs B).size=d2:=k6;have o3:∀i (h:i<d2),∃X:Nat,n9.cell? (i5,i)=some (.int .u8 (X:Int))/\48<=X/\X<=57/\kP (B.take (i+1))=min 1048576 (10*kP (B.take i)+(X-48)):=by intro i hi;obtain⟨a3,u5,l8,i0,a7⟩:=e8 i (by rw[Vah];omega);injection l8 with l8;injection l8 with s8 r8;subst s8;subst r8;rw[jK,uF] at a7;obtain⟨q1,q2,q3⟩:=ZoT (l5.o B[i] (dt _));exact⟨_,a7,q1,q2,by rw[ZhX B i O,q3]⟩
        have n2:=i2.bn.cell 2;have r9:=i2.bn.frozen 2;simp at n2;obtain⟨m2,j1,j2⟩:=bD o3 i2 k6;rw[m7] at r6;clear e8 o5 S i2 o3 a4 e4 k6 m7 l5;have p0:d2<=64:=(by have:=j2.o;omega);go_upto_region 29 with fail;go_loopw [12,68] (λs6 k9 wr=>∃i:Nat,i<=d2/\s6=.int .i64 ((kP (B.take i):Nat):Int)/\k9=(i:Int)/\wr=n9) (λ_ k9 _=>(d2-intOf k9).toNat);exact⟨0,cf _,rfl,rfl,rfl⟩;obtain⟨i,hi,rfl,rfl,rfl⟩:=hrel;obtain⟨c,a7⟩:=ay (kP (B.take i));have r7:=W_ (B.take i);rw[a7] at r7;by_cases ab:i<d2
        . obtain⟨X,u4,q1,q2,q3⟩:=m2.o i ab;rw[a7] at q3;have q6:=J q3;rw[a7];clear q3 a7 n2 r9 m2;go_wp2;refine⟨⟨i+1,ab,?_,ci,Fv⟩,?_⟩
          . rw[q6.o]
            first
              |(congr 1;omega)
              |rfl
          simp[intOf]<;>omega
        have s9:i=d2:=O;have l2:B.take i=B:=d' (by have:=j2.o;omega);rw[l2] at a7;have y:=m5.o;rw[a7] at y;have m6:=J y;have f3:Hid (∀g4,eY w (wr.setCell (w.heap.size+1+1,2) (.int .i64 g4)) s i1 b (.slice A5 j7 b6) (D++P) g4):=J (λg4=>j1.o.exp g4);rw[l2,a7];subst s9;clear l2 a7 y m5 m2 j2;cases bn;. go_wp2;go_meet;exact⟨_,i1,b1,m6,by have:=f3.o (-(P.length:Int)+(c:Int));rw[show sg false*(c:Int)-P.length= -(P.length:Int)+(c:Int) by unfold sg;simp;omega];exact this⟩
        go_wp2;go_meet
        exact⟨_,i1,b1,m6,by
 have:=f3.o (-(P.length:Int)+ -(c:Int));rw[show sg true*(c:Int)-P.length= -(P.length:Int)+ -(c:Int) by unfold sg;simp;omega];exact this⟩
      rw[Vae b8] at y;have j9:hK [101,69] (aH s) k3=false:=(by simpa using b8);rw[G5 j9] at a1;have e2:=J y;have f7:=J a1;rw[j9];clear y b8 j9 a1 f6;go_wp2;go_meet;case rel=>exact⟨0,k3,n3,e2,by simpa using f7.o⟩
    obtain⟨E,a5,AT,y,I⟩:=hcut;obtain⟨q0,t3⟩:=Zmc y.o;have p:=e9.o;rw[y.o] at p;simp only at p;obtain⟨N,b9⟩:∃N:gL,N=⟨b,D++P,E-(P.length:Int)⟩:=⟨_,rfl⟩;obtain⟨o2,n5⟩:Sz N/\Sz (Xw N):=ZnL (by rw[b9];exact dz) (by rw[b9];exact dz) (by rw[b9];simp only[Vab];omega);obtain⟨A,cap,s5,e8,r3,r5⟩:=Zja I.own;injection s5 with q8 q9 s1;subst q8;subst q9;subst s1;have p4:NV wc (.agg #[b,.slice A5 (D++P) b6,(E-(P.length:Int):Int)]) N:=⟨A5,b6,by rw[b9],by rw[b9];exact e8,by rw[b9];exact r3,r5⟩;have NO:Hid (∀W,Below wc wc W->Calls prog 254 #[.agg #[b,.slice A5 (D++P) b6,(E-(P.length:Int):Int)]] W λx w'=>∃v',x=.returned v'/\NV w' v' (Xw N)/\Below W.heap.size W w'):=J (λW h=>Zfn (p4.below h) o2);have l6:(aH s).drop a5=[]↔a5=s.size:=by rw[List.drop_eq_nil_iff,Z2];omega
    have r4:Hid (∀(v':aI) (W:aq),Below w w W->NV W v' (Xw N)->DL w W R (.returned (.tuple #[v',decide (a5=s.size)]))):=J (λv' W s4 f4=>by refine⟨v',_,rfl,s4,?_,?_⟩;obtain⟨i6,k0,rfl,_⟩:=f4;exact⟨_,_,_,_,_,rfl⟩;rw[<-p];by_cases h0:a5=s.size;rw[Vag (l6.2 h0),<-b9];exact⟨by simpa using h0,f4,n5⟩;rw[Vae (λh=>h0 (l6.1 h))];simpa using h0);have d3:=J I;have a9:=I.bn.cell 0;have n1:=I.bn.cell 1;have n2:=I.bn.cell 2;have l0:=I.ba.cell 0;have m3:=I.bs_.cell 0;obtain⟨F,hF⟩:=ay (E-(P.length:Int));obtain⟨M,o9⟩:=ay ((D++P).length);rw[hF] at n2 NO;rw[o9] at n1 NO;simp at a9 n1 n2 l0 m3;clear p I e8 p4 n5 o2 b9 y e9 hF o9 q0 t3 a1 f6 l6;have b5:sT w s a5 b (.slice A5 M b6) F wc.drew:=⟨a9,n1,n2,l0,m3⟩;unfold sT at b5;go_wp2
    go_region_held3 (λW=>W.cell? (w.heap.size+1+1,0)=some (.bool b)/\W.cell? (w.heap.size+1+1,1)=some (.slice A5 M b6)/\W.cell? (w.heap.size+1+1,2)=some (.int .i64 F)/\W.cell? (w.heap.size+1+1+1,0)=some (.int .i64 (a5:Int))/\W.cell? (w,0)=some (.string s)) (first|exact b5|assumption|exact sT.below mi mi|exact sT.put3 mi _ _ _)
      (first
        | (go_at_call 254; refine (NO.o _ ((bf _ _).drew)).mono ?_; rintro x i5 ⟨v', rfl, ⟨i6, k0, rfl, m8, n7, n8⟩, i0⟩;have c7:=d3.o.br.below (((bf wc wc).drew).trans i0) d3.o.br.lt;have r0:=c7.cell 0;have c8:=c7.cell 1;have c9:=c7.cell 2;have g5:=c7.frozen 0;have g6:=c7.frozen 1;have g7:=c7.frozen 2;simp at r0 c8 c9;have j6:=J c7;have p9:=J m8;clear c7 m8));obtain⟨f9,a8,g,l,t,p3,a6⟩:=AU j6.o (d3.o.bel.trans (((bf wc wc).drew.trans i0).mono d3.o.bel.size)) O p9.o (Xw N).neg (.slice i6 (Xw N).dg k0) (Xw N).ex;obtain⟨q,t2,z⟩:=bD a8 p3 a6;have p1:((a5:Int)==s.size)=decide (a5=s.size):=by rw[lN,beq_iff_eq,Vax];omega
    obtain⟨p8,j4,j5⟩:=bD p1 n7 n8;clear a8 p3 a6 p1 n7 n8 b5 a9 n1 n2 l0 m3 r0 c8 c9 g5 g6 g7 i0;go_wp2;rw[q.o];refine bodyPost_ret (by simp[results,results222,go_sem,g,l,t];try rfl) rfl ?_;rw[p8.o];exact r4.o _ f9 z.o ⟨i6,k0,rfl,t2.o,j4.o,j5.o⟩
  have f4 : qq kP (aH s) = none := by unfold qq;rw[Vag Cu]
  have p7:=J f4;have u3:(64:Int)<s.size:=O;have q7:=J ((Ul w (.cells #[s] 9) (.cells #[false,.slice none 0 0,(0:Int)] 305)).alloc vP (.cells #[false,.slice none 0 0,(0:Int)] 305));clear f4;go_in;go_wp2;go_returns;rw[p7.o];exact⟨_,_,rfl,q7.o,⟨_,_,_,_,_,rfl⟩,rfl⟩
