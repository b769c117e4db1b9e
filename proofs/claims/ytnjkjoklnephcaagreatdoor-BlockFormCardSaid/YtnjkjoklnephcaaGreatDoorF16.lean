import Derived.Test.YtnjkjoklnephcaaGreatDoorF09
import Derived.Lib.AppendStr
import Derived.Lib.MinMax
set_option linter.all false
set_option maxRecDepth 100000
set_option maxHeartbeats 0
section
variable{P Q:Prop}
theorem Ar(h:P:=by rw[Z0];omega):P:=h
theorem vP(h:P:=by simp<;>omega):P:=h
theorem Ap(h:P:=by show ¬_=_;omega):P:=h
theorem Fv(h:P:=by first|trivial|rfl):P:=h
theorem iG(h:P:=by with_reducible rfl):P:=h
theorem P8(h:P:=by simp[results,results253,go_sem,g,l,t];try rfl):P:=h
theorem Ox(h:P:=by rw[lL];intro e;exact g (UInt8.toNat_inj.1 (by rw[show(48:cj).toNat=48 from rfl];omega))):P:=h
theorem IW(h:P:=by go_wp2;rw[q.o];refine bodyPost_ret (by simp[results,results224,go_sem,g,l,t];try rfl) rfl ?_;rw[<-u.o];exact⟨_,_,rfl,p.o,⟨_,_,_,_,_,rfl⟩,rfl⟩):P:=h
theorem Oa(h:P:=by
 cases b
 all_goals
  go_wp21;refine aP (g.o _) λw3 M=>?_;have k:=q.o.trans (M.mono q.o.size);go_wp21;refine aP (u.o _ k) λb8 an=>?_;have l:=k.trans (an.mono k.size);clear k M an c0 c1 c2;go_wp2;go_returns;exact⟨Zl2 (by have:=t.o;simpa using this) (by rw[p.o];rfl),l⟩):P:=h
end
namespace Go.Proofs.Y
open Tryz Wv Go.RowKit
variable{A:bN}{D L S d:ax}{F e:Int}{W W' w w0 w1 wx wy:aq}{b:Bool}{ba bb k n:Nat}{p:Addr}{s:aT}{v v':aI}
def DR (w:aq) (v:aI) (d:ax):Prop:=∃A cap,v=.slice A d cap/\At w A (d.map bv)/\d.length<=cap/\cap<=maxLen
theorem DR.nil (w:aq):DR w (.slice none 0 0) []:=⟨none,0,rfl,At.nil _ _,aU,cf _⟩
theorem Sj (c:cj) (t:ax):X2 (c::t)=if c=48 then X2 t else c::t:=by unfold X2;rw[List.dropWhile_cons];by_cases h:c=48;subst h;rfl;rw[aD h,aD (by simpa using h)]
theorem ZnO (h:At w A (d.map bv)) (n cap:Nat) (a1:n=d) (b1:n<=cap) (F:cap<=maxLen):
  Calls prog 310 #[(A,n,cap),.int .u8 48] w λx w'=>∃v,x=.returned v/\DR w' v (X2 d)/\Below w w w':=by
 have a8:=J h;have a9:cap<=9223372036854775807:=(by unfold maxLen at F;omega);have a6:=J a1;have a5:=J F;clear h a1 F;go_in;go_wp2;go_loopw [0] (λv wr=>∃(k m l:Nat) (B:bN),k<=d/\m=d.length-k/\v=.slice B m l/\At wr B ((d.drop k).map bv)/\m<=l/\l<=9223372036854775807/\Hid (l<=maxLen)/\Hid (X2 (d.drop k)=X2 d)/\Below w w wr) (λv _=>match v with|.slice _ m _=>m|_=>0);exact⟨0,n,cap,A,O,by rw[<-a6.o,Nat.sub_zero],rfl,a8.o,b1,a9,a5,J rfl,bf _ _⟩;obtain⟨k,m,l,B,b6,t,rfl,p,a7,b4,R,u,y⟩:=hrel;by_cases h0:0<m
 .have ab:k<d:=O;have hd:d.drop k=d[k]::d.drop (k+1):=kw ab;obtain⟨c,G⟩:=ay d[k];rw[G] at hd;have I:=p;rw[hd] at p;obtain⟨b,o,b0,hb,E⟩:=p.get 0 (bv c) rfl;subst b0;have b7:wr.cell? (b,o)=some (.int .u8 (c.toNat:Int)):=E;have L:=Vr p 1;have D:=Sj c (d.drop (k+1));have j:=u.o;rw[hd] at j;rw[D] at j;by_cases g:c=48
  .rw[Vag g] at j;subst g;obtain⟨q,a4,Q⟩:=bD j L y;clear j L y p I hd G D u E;have z:=J t;have S:=J (show m-1=d.length-(k+1) by omega);clear t;by_cases a0:l=1;.have b2:m=1:=O;go_wp2;refine⟨⟨k+1,0,0,some ⟨b,o,none⟩,O,by have:=S.o;omega,rfl,?_,aU,O,J (cf _),q,Q.o⟩,by show 0<m;omega⟩;have:d.drop (k+1)=[]:=oc (by have:=z.o;omega);rw[this];exact At.nil _ _
   go_wp2;refine⟨⟨k+1,m-1,l-1,some ⟨b,o+1,none⟩,O,S.o,by first|rw[aD a0]|rfl,?_,O,O,J (by have:=R.o;omega),q,Q.o⟩,by first|(rw[aD a0];show m-1<m;omega)|(show m-1<m;omega)⟩;have:=a4.o;rw[tR,List.drop_one,List.tail_cons] at this;exact this
  rw[aD g] at j;have b5:((c.toNat:Int)==48)=false:=Ox;obtain⟨q,b3,Hd,z⟩:=dc j I hd t;have a3:((m:Int)==0)=false:=rT;clear j p I hd G D u E L g t;go_wp2;go_returns;rw[<-q.o,<-Hd.o];exact⟨.slice (some (b,o)) m l,rfl,⟨_,l,by rw[iW,<-z.o],b3.o,by rw[iW,<-z.o];exact a7,R.o⟩,y⟩
 have a3:m=0:=O;have M:d.drop k=[]:=oc O;have j:=u.o;rw[M] at j;have a2:X2 ([]:ax)=[]:=rfl;rw[a2] at j;have q:=J j;clear u M j a2 p t;subst a3;go_wp2;go_returns;rw[<-q.o];exact⟨_,rfl,DR.nil _,y⟩
theorem Z7z (h:At w A (d.map bv)) (n cap:Nat) (j:n=d) (l:n<=cap) (k:cap<=maxLen):
  Calls prog 287 #[(A,n,cap),.string ⟨#[48]⟩] w λx w'=>∃v,x=.returned v/\DR w' v (X2 d)/\Below w w w':=by
 have g:=J (ZnO h n cap j l k);by_cases h0:n=0;.subst h0;have hd:d=[]:=ia j.symm;subst hd;clear h j g k;go_in;go_wp2;go_returns;exact⟨_,rfl,DR.nil _,bf _ _⟩
 have q:((n:Int)==0)=false:=rT;have p:((⟨#[48]⟩:aT)[0]'Nat.zero_lt_one)=48:=rfl;clear h j k h0 l;go_in;go_wp2_with (go_at_call 310;refine(g.o).mono ?_;rintro x w1 ⟨v,rfl,hd,hb⟩);go_returns;exact⟨_,rfl,hd,hb⟩
theorem Zcl (d:ax) (c:cj):YE (d++[c])=if c=48 then YE d else d++[c]:=by unfold YE;rw[List.reverse_append,List.reverse_singleton,List.singleton_append,Sj];split;rfl;rw[List.reverse_cons,List.reverse_reverse]
theorem ZnR (h:At w A (d.map bv)) (n cap:Nat) (F:n=d) (S:n<=cap) (E:cap<=maxLen):
  Calls prog 314 #[(A,n,cap),.int .u8 48] w (bM w (.slice A (YE d) cap)):=by
 have G:=J h;have R:cap<=9223372036854775807:=(by unfold maxLen at E;omega);have D:=J F;clear h F E;go_in;go_wp2;go_loopw [0] (λv wr=>∃k:Nat,k<=n/\v=.slice A k cap/\Hid (YE (d.take k)=YE d)/\Below w w wr) (λv _=>match v with|.slice _ m _=>m|_=>0);exact⟨n,aU,rfl,J (by rw[D.o,Vbq]),bf _ _⟩;obtain⟨k,a0,rfl,q,t⟩:=hrel;by_cases h0:0<k
 .obtain⟨j,rfl⟩:∃j,k=j+1:=⟨k-1,O⟩;have u:j<d.length:=(by rw[<-D.o];omega);have hd:d.take (j+1)=d.take j++[d[j]]:=dK u;obtain⟨c,y⟩:=ay d[j];rw[y] at hd;have p:=q.o;rw[hd,Zcl] at p;obtain⟨b,o,L,hb,B⟩:=(G.o.below t).get j (bv c) (by rw[jX,fb u,y];rfl);have a1:wr.cell? ⟨b,o+j,none⟩=some (.int .u8 (c.toNat:Int)):=B;subst L;by_cases g:c=48;.rw[Vag g] at p;subst g;have M:=J p;clear p hd y q B u;go_wp2;refine⟨⟨j,O,rfl,M,t⟩,by show j<j+1;omega⟩
  rw[aD g] at p;have Q:((c.toNat:Int)==48)=false:=Ox;have l:(YE d).length=j+1:=by rw[<-p,bV,ek];exact fj
  have z:=J l;clear p hd y q B u g l;go_wp2;go_returns;exact⟨by rw[z.o]<;>rfl,t⟩
 have I:k=0:=O;subst I;have l:(YE d).length=0:=(by rw[<-q.o];rfl);have z:=J l;clear q l;go_wp2;go_returns;exact⟨by rw[z.o]<;>rfl,t⟩
theorem Z5Q (h:At w A (d.map bv)) (n cap:Nat) (j:n=d) (l:n<=cap) (k:cap<=maxLen):
  Calls prog 288 #[(A,n,cap),.string ⟨#[48]⟩] w (bM w (.slice A (YE d) cap)):=by
 have g:=J (ZnR h n cap j l k);by_cases h0:n=0;.subst h0;have hd:d=[]:=ia j.symm;subst hd;have p:(YE ([]:ax)).length=0:=rfl;rw[p];clear h j g k p;go_in;go_wp2;go_returns;exact⟨rfl,bf _ _⟩
 have t:((n:Int)==0)=false:=rT;have q:((⟨#[48]⟩:aT)[0]'Nat.zero_lt_one)=48:=rfl;clear h j k h0 l;go_in;go_wp2_with (go_at_call 314;refine(g.o).mono ?_;rintro x w1 ⟨rfl,hb⟩);go_returns;exact⟨rfl,hb⟩
theorem AU {r:Nat} (j:Bk w r 301 #[false,.slice none 0 0,(0:Int)]) (hb:Below w0 w0 w) (h0:w0<=r) (k:At w A (L.map bv)) (b:Bool) (v:aI) (e:Int):
  ∃W,(((w.setCell (r,0) (.bool b)).setCell (r,1) v).setCell (r,2) e)=W/\W.cell? (r,0)=some (.bool b)/\W.cell? (r,1)=some v/\W.cell? (r,2)=some (.int .i64 e)/\At W A (L.map bv)/\Below w0 w0 W:=by have g:Fr (only r) w (((w.setCell (r,0) (.bool b)).setCell (r,1) v).setCell (r,2) e):=Xm (Xm (Xm (Fr.refl _ _) 0 _) 1 _) 2 _;have d:=((j.put 0 (.bool b)).put 1 v).put 2 e;exact⟨_,rfl,d.cell 0,d.cell 1,d.cell 2,Zlm k j (λx l=>by obtain⟨q,_,rfl⟩:=iX.1 l;simp[bv]) g,hb.trans (J' g hb.size h0)⟩
theorem Zfn {n:gL} (h:NV w v n) (h0:Sz n):
  Calls prog 253 #[v] w λx w'=>∃v',x=.returned v'/\NV w' v' (Xw n)/\Below w w w':=by
 obtain⟨A,cap,rfl,d4,g8,g9⟩:=h;obtain⟨b,d,e⟩:=n;obtain⟨s1,i4,i5⟩:=h0;simp only at*;have b2:=Bk.new (w.alloc (.cells #[b,(A,d.length,cap),e] 301)) 301 #[false,.slice none 0 0,(0:Int)];rw[World.size_alloc] at b2;have c6:Bk ((w.alloc (.cells #[b,(A,d.length,cap),e] 301)).alloc (.cells #[false,.slice none 0 0,(0:Int)] 301)) w 301 #[b,(A,d.length,cap),e]:=Bk.alloc (Bk.new _ _ _) _;have d5:=Ul w (.cells #[b,(A,d.length,cap),e] 301) (.cells #[false,.slice none 0 0,(0:Int)] 301);have f9:=(d4.alloc (.cells #[b,(A,d.length,cap),e] 301)).alloc (.cells #[false,.slice none 0 0,(0:Int)] 301);obtain⟨c8,c3,b6,a7⟩:=dc (Z7z f9 d cap rfl g8 g9) c6 b2 d5;clear d4 f9 c6 b2 d5;go_in;go_wp21;refine(c8.o).mono ?_;rintro x w1 ⟨i6,rfl,⟨A1,j,rfl,b0,d7,e2⟩,eA⟩;obtain⟨T,Q⟩:=ay (X2 d);have i0:T<=d.length:=(by rw[<-Q];exact Ka d);have b9:Xw ⟨b,d,e⟩=if YE T=[] then wq else⟨b,YE T,e+((T.length-(YE T).length:Nat):Int)⟩:=by unfold Xw;simp only[Q]
 rw[Q] at b0 d7;obtain⟨R,M⟩:=ay (YE T);have h8:R<=T.length:=(by rw[<-M];exact UT T);have c5:T.take R.length=R:=by obtain⟨k,e9⟩:=UU T;rw[M] at e9;have:T.take R.length=(R++List.replicate k 48).take R.length:=(by rw[<-e9]);rw[this,List.take_left]
 have a0:=Bk.below c3.o eA (Bk.lt c3.o);have d8:=Bk.below b6.o eA (Bk.lt b6.o);have f5:=a7.o.trans (eA.mono a7.o.size);have D:∀v∈T.map bv,v∉(#[b,(A,d.length,cap),e]:Array aI).toList:=λv b4=>by obtain⟨y,_,rfl⟩:=iX.1 b4;simp[bv]
 have a9:=LW b0 a0 D 1 (.slice A1 T j);have e4:=a0.put 1 (.slice A1 T j);have d6:=d8.off (p:=⟨w,1,none⟩) (by simp) (.slice A1 T j);have f8:=f5.setCell (p:=⟨w,1,none⟩) aU (.slice A1 T j);have c1:=a0.cell 1;have f1:=a0.frozen 1;simp at c1;have b3:=Z5Q a9 T j rfl d7 e2;rw[M] at b3;rw[Q];obtain⟨c9,c4,b1,b8,f4⟩:=ii b3 e4 d6 f8 a9;rw[M] at b9;have a1:=J b9;have c7:=J c5;clear a0 d8 f5 D a9 e4 d6 f8 eA b0 c8 c3 b6 a7 b9 c5 Q M b3;go_wp21;refine aP c9.o λg3 aa=>?_;have f7:=Bk.below c4.o aa (Bk.lt c4.o);have u:=Bk.below b1.o aa (Bk.lt b1.o);have e7:=f4.o.below aa;have e8:=b8.o.trans (aa.mono b8.o.size);clear c1 f1;have e5:((T.length-R.length:Nat):Int)=(T.length:Int)-R.length:=O;obtain⟨E,g6⟩:=ay (e+((T.length:Int)-R.length));have D:∀(L:ax) (x:Bool) (y:aI) (z:Int),y=.slice A1 T j\/y=.slice none 0 0->∀v∈L.map bv,v∉(#[x,y,z]:Array aI).toList:=λL x y z h1 v b4=>by obtain⟨q,_,rfl⟩:=iX.1 b4;rcases h1 with rfl|rfl<;>simp[bv]
 have B:Bk g3 w 301 #[b,(A1,T.length,j),e]:=(by simpa using f7);have d2:Bk (g3.setCell (w,2) E) w 301 #[b,(A1,T.length,j),E]:=(by simpa using B.put 2 E);have e6:=LW e7 B (D _ _ _ _ (.inl rfl)) 2 E;have e3:=LW e6 d2 (D _ _ _ _ (.inl rfl)) 1 (.slice A1 R R);have d9:=(u.off (p:=⟨w,2,none⟩) (by simp) E).off (p:=⟨w,1,none⟩) (by simp) (.slice A1 R R);have f6:=(e8.setCell (p:=⟨w,2,none⟩) aU E).setCell (p:=⟨w,1,none⟩) aU (.slice A1 R R);have c0:=B.cell 0;have c1:=B.cell 1;have c2:=B.cell 2;have f1:=B.frozen 1;have h9:=B.frozen 2;have r0:=u.cell 0;have h4:=u.cell 1;have h5:=u.cell 2;have i1:=u.frozen 0;have i2:=u.frozen 1;have i3:=u.frozen 2;simp at c0 c1 c2 r0 h4 h5;have h3:=J D;have a8:=Vq e3 R;rw[<-B',c7.o] at a8;obtain⟨a2,a4,a5⟩:=bD a8 d9 f6;have g7: -4000000<=E/\E<=4000000:=O;have d1:=J g6;have d3:=J e5;clear e5;have g5:R<=j:=O;clear f7 B d2 e7 e6 e3 a8 u d9 e8 f6 aa c4 b1 b8 f4 c9 D;by_cases G:R=[];.have f3:R.length=0:=(by rw[G];rfl);have F:=a1.o;rw[Vag G] at F;have a6:=J F;obtain⟨g4,S,g,l,t,a3,I⟩:=AU a4.o a5.o O a2.o false (.slice none 0 0) 0;have b7:=J S;have b5:=J I;have h7:((R.length:Int)==0)=true:=(by rw[beq_iff_eq];omega);clear F a1 S a3 I a4 a5 a2 G d1 d3 h3 c7 f3;go_wp2;rw[b7.o];refine bodyPost_ret P8 rfl ?_;rw[a6.o];exact⟨_,rfl,⟨none,0,rfl,At.nil _ _,aU,cf _⟩,b5.o⟩
 have f3:((R.length:Int)==0)=false:=by rw[lL];intro h;exact G (ia O)
 have F:=a1.o;rw[aD G] at F;have a6:=J F;obtain⟨g4,S,g,l,t,a3,I⟩:=AU a4.o a5.o O a2.o b (.slice A1 R R) E;obtain⟨b7,h6,b5⟩:=bD S a3 I;clear F G a1 S a3 I a4 a5 a2;go_wp2;rw[b7.o];refine bodyPost_ret P8 rfl ?_;rw[a6.o];exact⟨_,rfl,⟨A1,R.length,by rw[d3.o,d1.o],h6.o,aU,co g5 e2⟩,b5.o⟩
def hK (S L:ax) (k:Nat):Bool:=match L[k]? with
 |some c=>S.contains c
 |none=>false
def lY (S L:ax) (k:Nat):Nat:=if hK S L k then k+1 else k
theorem nf (s:aT) (k:Nat) (h:k<s.size):(aH s)[k]? =some (s[k]'h):=by have d:k<(aH s):=h;rw[fb d];simp only[aH,Array.getElem_toList];rfl
theorem ZlH (s:aT) (k:Nat) (h:¬k<s.size):(aH s)[k]? =none:=Ce Cu
theorem ZmX (b7:Bk w ba 3 #[k]) (hb:Bk w bb 9 #[s]) (c7:k<=s.size) (c8:s.size<=64) (a9:S.length<=2):
  Calls prog 251 #[bs S,(ba,0),(bb,0)] w λx w'=>x=.returned (hK S (aH s) k)/\Bk w' ba 3 #[lY S (aH s) k]/\Bk w' bb 9 #[s]/\Fr (only ba) w w':=by
 have Ha:=J b7;have a5:=J hb;have E:(bs S).size=S:=rfl;by_cases ab:k<s.size
 .have a6:=nf s k ab;obtain⟨c,b0⟩:=ay s[k];rw[b0] at a6;have t:hK S (aH s) k=S.contains c:=(by unfold hK;rw[a6]);have c4:((s[k]'ab).toNat:Int)=(c.toNat:Int):=(by rw[b0]);have b5:=J (show ∀(i:Nat) (h:i<(bs S).size) (b6:i<S.length),((bs S)[i]'h)=S[i] from λi h b6=>rfl);have I:=J t;have b4:=J (show S.contains c=false->lY S (aH s) k=k from λh=>by unfold lY;rw[t,h];rfl);have ff:=J (show S.contains c=true->lY S (aH s) k=k+1 from λh=>by unfold lY;rw[t,h];rfl);obtain⟨C,a8⟩:=ay c.toNat;rw[a8] at c4;have a3:=J a8;generalize bs S=B at*;obtain⟨L,F⟩:=ay S.length;have a4:=J F;rw[F] at E a9;have R:=J E;have a0:B.size<=2:=O;go_in;go_wp2;go_loopw [8] (λiv wr=>∃i:Nat,i<=B.size/\iv=.int .i64 i/\Bk wr ba 3 #[k]/\Bk wr bb 9 #[s]/\Hid (∀j,j<i->S[j]? ≠some c)/\Fr (only ba) w wr) (λiv _=>(B.size-intOf iv).toNat);exact⟨0,O,rfl,Ha.o,a5.o,J (λj h=>O),Fr.refl _ _⟩;obtain⟨i,hi,rfl,g,l,a7,q⟩:=hrel;have c0:=g.cell 0;have c1:=l.cell 0;have f0:=g.frozen 0;simp at c0 c1;by_cases Q:i<B.size
  .have b1:i<S.length:=(by rw[a4.o];have:=R.o;omega);obtain⟨d,hd⟩:=ay S[i];obtain⟨D,a1⟩:=ay d.toNat;have c5:((B[i]'Q).toNat:Int)=(D:Int):=(by rw[b5.o i Q b1,hd,a1]);by_cases G:c=d
   .have y:S.contains c=true:=by rw[List.contains_iff_mem,G,<-hd];exact dt _
    have b9:((C:Int)==D)=true:=(by rw[beq_iff_eq,<-a3.o,<-a1,G]);have u:=I.o;rw[y] at u;have M:=J u;have a2:=ff.o y;have z:=J a2;go_wp2;go_quiet (fail);go_wp2;go_returns;rw[M.o,z.o];refine⟨rfl,?_,(l.drewN nq).off (p:=⟨ba,0,none⟩) ?_ _,Xm (q.drewN nq) 0 _⟩;simpa using (g.drewN nq).put 0 (.int .i64 ((k+1:Nat):Int));exact λe=>(l.apart g aY) e
   have c6:((C:Int)==D)=false:=by rw[lL,<-a3.o,<-a1];intro e;exact G (UInt8.toNat_inj.1 O)
   have b2:Hid (∀j,j<i+1->S[j]? ≠some c):=J (λj h=>by rcases Nat.lt_or_ge j i with h1|h1;exact a7.o j h1;have:j=i:=O;subst this;rw[fb b1,hd];intro e;injection e with e;exact G e.symm);go_wp2;go_quiet (fail);go_wp2;refine⟨⟨i+1,O,ci,g.drewN nq,l.drewN nq,b2,q.drewN nq⟩,?_⟩;simp[intOf]<;>omega
  have y:S.contains c=false:=by rw[Bool.eq_false_iff];intro h;rw[List.contains_iff_mem] at h;obtain⟨j,c3,b8⟩:=List.getElem_of_mem h;exact a7.o j (by have:=a4.o;have:=R.o;omega) (by rw[fb c3,b8])
  have u:=I.o;rw[y] at u;have M:=J u;have a2:=b4.o y;have z:=J a2;go_wp2;go_returns;rw[M.o,z.o];exact⟨rfl,g,l,q⟩
 have t:hK S (aH s) k=false:=(by unfold hK;rw[ZlH s k ab]);have b3:k=s.size:=O;have I:=J t;have z:=J (show lY S (aH s) k=k by unfold lY;rw[t];rfl);generalize bs S=B at*;obtain⟨L,F⟩:=ay S.length;rw[F] at E a9;have R:=J E;have a0:B.size<=2:=O;go_in;go_wp2;go_loopw [8] (λiv wr=>∃i:Nat,i<=B.size/\iv=.int .i64 i/\Bk wr ba 3 #[k]/\Bk wr bb 9 #[s]/\Fr (only ba) w wr) (λiv _=>(B.size-intOf iv).toNat);exact⟨0,O,rfl,Ha.o,a5.o,Fr.refl _ _⟩;obtain⟨i,hi,rfl,g,l,q⟩:=hrel;have c0:=g.cell 0;have c1:=l.cell 0;simp at c0 c1;by_cases Q:i<B.size;.go_wp2;go_quiet (fail);go_wp2;refine⟨⟨i+1,O,ci,g.drewN nq,l.drewN nq,q.drewN nq⟩,?_⟩;simp[intOf]<;>omega
 go_wp2;go_returns;rw[I.o,z.o];exact⟨rfl,by first|exact g|(rw[b3] at g;exact g),l,q⟩
theorem WU (L:ax):eQ L=L.take (eQ L).length:=by have h:=(List.takeWhile_prefix mR (l:=L));exact(List.prefix_iff_eq_take.1 h)
theorem Zm0 (L:ax) (j:Nat) (h:j<(eQ L)):∃c,L[j]? =some c/\mR c=true:=by obtain⟨c,g⟩:=ay ((eQ L)[j]);have hd:mR c=true:=g▸GN L _ (dt _);have h1:(eQ L)[j]? =some c:=(by rw[fb h,g]);have d:(L.take (eQ L))[j]? =some c:=(by rw[<-WU L];exact h1);rw[List.getElem?_take,Vag h] at d;exact⟨c,d,hd⟩
theorem Zii (L:ax):∀c,L[(eQ L).length]? =some c->mR c=false:=by
 unfold eQ;induction L with
 |nil=>intro c h;simp at h
 |cons a t ih=>intro c h;rw[List.takeWhile_cons] at h;split at h;rw[gd,List.getElem?_cons_succ] at h;exact ih c h;rename_i ha;simp at h;subst h;simpa using ha
def ML (b n:Nat) (w:aq):Nat:=match w.cell? ⟨b,0,none⟩ with
 |some (.int _ k)=>(n-k).toNat
 |_=>0
theorem PR {b:Nat} (h:Bk w b 3 #[k]):ML b n w=((n:Int)-k).toNat:=by have:=h.cell 0;simp at this;unfold ML;rw[this]
theorem Zmf (s:aT) (a b:Nat):s.extract a b=bs (((aH s).drop a).take (b-a)):=by apply xc;apply pS.1;simp only[bs,aH,ByteArray.data_extract,Array.toList_extract,List.extract_eq_take_drop]
theorem Zm2 (R:Bk w ba 3 #[k]) (hb:Bk w bb 9 #[s]) (b8:k<=s.size) (b9:s.size<=64):
  Calls prog 252 #[(ba,0),(bb,0)] w λx w'=>x=.returned (bs (eQ ((aH s).drop k)))/\Bk w' ba 3 #[((k+(eQ ((aH s).drop k)).length:Nat):Int)]/\Bk w' bb 9 #[s]/\Fr (only ba) w w':=by
 have Ha:=J R;have a4:=J hb;have E:=WU ((aH s).drop k);have I:=J (Zm0 ((aH s).drop k));have M:=J (Zii ((aH s).drop k));obtain⟨D,L⟩:=ay (eQ ((aH s).drop k));rw[L] at E I M⊢;obtain⟨m,B⟩:=ay (k+D.length);have b1:D<=s.size-k:=by have:=GO ((aH s).drop k);rw[L,iW,Z2] at this;exact this
 have c3:m<=s.size:=O;have l:s.extract k m=bs D:=by rw[Zmf,show m-k=D by omega,<-E]
 have a1:=J l;have b6:=J B;rw[B];have b5:k<=m:=O;have a8:Hid (∀j,k<=j->j<m->∃(h:j<s.size),mR (s[j]'h)=true):=J (λj h1 b7=>by obtain⟨c,y,a9⟩:=I.o (j-k) O;have a0:j<s.size:=O;refine⟨a0,?_⟩;rw[List.getElem?_drop,show k+(j-k)=j by omega,nf s j a0] at y;injection y with y;rw[y];exact a9);have a7:Hid (∀(h:m<s.size),mR (s[m]'h)=false):=J (λh=>by refine M.o _ ?_;rw[List.getElem?_drop,show k+D.length=m from B];exact nf s m h);clear R hb E I M L b1 l B;have G:=Ha.o.cell 0;simp at G;go_in;go_wp2;go_loopw [] (λwr=>∃j:Nat,k<=j/\j<=m/\Bk wr ba 3 #[.int .i64 (j:Int)]/\Bk wr bb 9 #[s]/\Fr (only ba) w wr) (λwr=>ML ba m wr);exact⟨k,aU,b5,Ha.o,a4.o,Fr.refl _ _⟩;obtain⟨j,b4,c5,d,z,S⟩:=hrel;have c0:=d.cell 0;have c1:=z.cell 0;have f0:=d.frozen 0;simp at c0 c1;by_cases ab:j<m
 .obtain⟨q,g⟩:=a8.o j b4 ab;obtain⟨C,b2⟩:=ay ((s[j]'q).toNat);have F:48<=C/\C<=57:=by unfold mR at g;simp at g;omega
  obtain⟨q1,q2⟩:=F;have a5:=z.apart d aY;have a6:=d.put 0 (.int .i64 ((j+1:Nat):Int));obtain⟨Q,u,t,a3⟩:=dc (show Bk (wr.setCell (ba,0) (.int .i64 ((j+1:Nat):Int))) ba 3 #[((j+1:Nat):Int)] by simpa using a6) (z.off (p:=⟨ba,0,none⟩) a5 (.int .i64 ((j+1:Nat):Int))) (Xm S 0 (.int .i64 ((j+1:Nat):Int))) (PR (n:=m) d);go_wp2;have b0:(j:Int)+1=((j+1:Nat):Int):=O;rw[b0];refine⟨⟨j+1,O,O,Q.o,u.o,t.o⟩,?_⟩;rw[PR Q.o,a3.o];omega
 have GS:j=m:=O;subst GS;obtain⟨a2,u,t⟩:=bD d z S;have c4:(k:Int)<=j:=O;by_cases q:j<s.size
 .have g:=a7.o q;obtain⟨C,b2⟩:=ay ((s[j]'q).toNat);have F:C<48\/57<C:=by unfold mR at g;simp at g;omega
  rcases F with q1|q1
  all_goals
   go_wp2;go_returns;exact⟨KN a1.o,a2.o,u.o,t.o⟩
 have b3:¬(j:Int)<s.size:=O;go_wp2;go_returns;exact⟨KN a1.o,a2.o,u.o,t.o⟩
theorem Zl2 {t:aT} {a b:Int} (h:s=t) (d:a=b):Ending.returned (.tuple #[s,a])=.returned (.tuple #[t,b]):=by rw[h,d]
theorem Zfl {n:gL} (h:NV w v n) (d3:Sz n) (c3:gl w):
  Calls prog 225 #[v] w (bM w (.tuple #[bs (Xs n).1,((Xs n).2:Int)])):=by
 obtain⟨A,cap,rfl,b4,d2,e5⟩:=h;obtain⟨b,d,e⟩:=n;obtain⟨s1,d6,c5⟩:=d3;simp only at*
 have j:Xs ⟨b,d,e⟩=if d=[] then([48],0) else if 17<d.length\/e+d.length-1< -400\/400<e+d.length-1 then([],9)
  else((if b then[45] else[])++d.take 1++(if 1<d.length then 46::d.drop 1 else[])++101::kd (e+d.length-1),0):=rfl;have b5:=(bf w w).alloc aU (.cells #[b,(A,d.length,cap),e] 301);have b2:Bk (w.alloc (.cells #[b,(A,d.length,cap),e] 301)) w 301 #[b,(A,d.length,cap),e]:=Bk.new _ _ _;obtain⟨z,I,a7,c6,g⟩:=ii b5 b2 b4 c3 (λW=>ZbM b A d cap e s1 d6 c5 W);clear b5 b2 b4 c3;by_cases h0:d=[];.subst h0;have y:=J (j.trans (Vag rfl));clear j g;go_in;go_wp2;go_returns;exact⟨by rw[y.o]<;>rfl,z.o⟩
 rw[aD h0] at j;have c9:((d.length:Int)==0)=false:=by rw[lL];intro h;exact h0 (ia O)
 have b0:0<d.length:=List.length_pos_iff.2 h0;obtain⟨L,b7⟩:=ay d.length;obtain⟨F,hF⟩:=ay (e+(L:Int)-1);rw[b7] at j g I z d2 c9 b0 c5⊢;rw[hF] at j g;by_cases a1:17<L;.rw[Vag (.inl a1)] at j;have y:=J j;have c7:(17:Int)<L:=O;clear j g a1 hF;go_in;go_wp2;go_returns;exact⟨by rw[y.o]<;>rfl,z.o⟩
 have c7:¬(17:Int)<L:=O;by_cases d4:F< -400;.rw[Vag (.inr (.inl d4))] at j;have y:=J j;clear j a1 hF;go_in;go_wp21;refine aP (g.o _) λw1 D=>?_;have a6:=z.o.trans (D.mono z.o.size);go_wp2;go_returns;exact⟨by rw[y.o]<;>rfl,a6⟩
 by_cases d5:400<F;.rw[Vag (.inr (.inr d5))] at j;have y:=J j;clear j a1 hF;go_in;go_wp21;refine aP (g.o _) λw1 D=>?_;have B:=Bk.below I.o D (Bk.lt I.o);have a0:=z.o.trans (D.mono z.o.size);have c0:=B.cell 0;have c1:=B.cell 1;have c2:=B.cell 2;simp at c0 c1 c2;have G:=J a0;clear B a0 D;go_wp21;refine aP (g.o _) λQ aa=>?_;have a6:=G.o.trans (aa.mono G.o.size);go_wp2;go_returns;exact⟨by rw[y.o]<;>rfl,a6⟩
 rw[aD O] at j;have y:=J j;have a5:=J b7;clear j a1 hF;go_in;go_wp21;refine aP (g.o _) λw1 D=>?_;have B:=Bk.below I.o D (Bk.lt I.o);have a0:=z.o.trans (D.mono z.o.size);have c0:=B.cell 0;have c1:=B.cell 1;have c2:=B.cell 2;simp at c0 c1 c2;have a4:=J B;have G:=J a0;clear B a0 D;go_wp21;refine aP (g.o _) λQ aa=>?_;have R:=Bk.below a4.o aa (Bk.lt a4.o);have a2:=G.o.trans (aa.mono G.o.size);clear c0 c1 c2;have c0:=R.cell 0;have c1:=R.cell 1;have c2:=R.cell 2;simp at c0 c1 c2;have S:=a7.o.below a2;have a3:(d.take 1).length=1:=(by rw[ek,a5.o];omega);have d8:(convert 88 9 (.slice A 1 cap)).run prog Q=.ok (.string (bs (d.take 1))) Q:=by have:=WS (P:=prog) 88 9 5 underlying88 underlying5 underlying9 (w:=Q) (A:=A) (l:=d.take 1) (by rw[B'];exact Vq S 1) cap;rw[a3] at this;exact this
 have u:=J (λW (h:Below w w W)=>Zfc (c6.o.below h) F O O);have b1:(kd F).length<=4:=by unfold kd;split;have:=QY (n:=(-F).toNat) (k:=3) O O;rw[gd];omega;have:=QY (n:=F.toNat) (k:=3) O O;omega
 have e7:(bs (d.take 1)).size<=1:=(by rw[Z0,a3];exact aU);have e9:(bs (kd F)).size<=4:=(by rw[Z0];exact b1);have e6:=J R;have q:=J a2;by_cases b3:L=1
 .have E:=y.o;rw[aD (show ¬1<L by omega),fg] at E;have t:Hid ((if b then(⟨#[45]⟩:aT)++bs (d.take 1) else bs (d.take 1))++(⟨#[101]⟩:aT)++bs (kd F)=bs (Xs ⟨b,d,e⟩).1):=J (by rw[E];have a8:(⟨#[101]⟩:aT)=bs [101]:=rfl;have a9:(⟨#[45]⟩:aT)=bs [45]:=rfl;rw[a8,a9];cases b;simp[Z9];simp[Z9]);have p:Hid ((Xs ⟨b,d,e⟩).2=0):=J (by rw[E]);subst b3;generalize bs (d.take 1)=S1 at*;generalize bs (kd F)=S3 at*;clear E y R a2 S a3 b1 a4 G I z a7 aa;exact Oa
 have d7:1<L:=O;have b9:(1:Int)<L:=O;have E:=y.o;rw[Vag d7] at E;obtain⟨b6,c4,d1,_⟩:=S 0 (by rw[c',a5.o];omega);subst d1;have l2:(d.drop 1)=L-1:=(by rw[iW,a5.o]);have d9:(convert 88 9 (.slice (some (b6,c4+1)) (L-1) (cap-1))).run prog Q=.ok (.string (bs (d.drop 1))) Q:=by have:=WS (P:=prog) 88 9 5 underlying88 underlying5 underlying9 (w:=Q) (A:=some ⟨b6,c4+1,none⟩) (l:=d.drop 1) (by rw[List.map_drop];exact Vr S 1) (cap-1);rw[l2] at this;exact this
 have e4:¬cap=1:=O;have e8:(bs (d.drop 1)).size<=17:=(by rw[Z0,l2];omega);have t:Hid ((if b then(⟨#[45]⟩:aT)++(bs (d.take 1)++((⟨#[46]⟩:aT)++bs (d.drop 1))) else bs (d.take 1)++((⟨#[46]⟩:aT)++bs (d.drop 1)))++(⟨#[101]⟩:aT)++bs (kd F)=bs (Xs ⟨b,d,e⟩).1):=J (by rw[E];have a8:(⟨#[101]⟩:aT)=bs [101]:=rfl;have a9:(⟨#[45]⟩:aT)=bs [45]:=rfl;have c8:(⟨#[46]⟩:aT)=bs [46]:=rfl;rw[a8,a9,c8];cases b;simp[Z9];simp[Z9]);have p:Hid ((Xs ⟨b,d,e⟩).2=0):=J (by rw[E]);generalize bs (d.take 1)=S1 at*;generalize bs (d.drop 1)=S2 at*;generalize bs (kd F)=S3 at*;clear E y R a2 S a3 l2 b1 a4 G I z a7 aa b3;exact Oa
def ot (L:ax) (k:Nat):Nat:=if hK [45] L k then k+1 else lY [43] L k
theorem QJ (S L:ax) (k:Nat):(L<=k/\hK S L k=false/\L.drop k=[])\/(∃c,L[k]? =some c/\k<L/\hK S L k=S.contains c/\L.drop k=c::L.drop (k+1)):=by by_cases h:k<L;right;refine⟨L[k],fb h,h,?_,kw h⟩;unfold hK;rw[fb h];left;refine⟨O,?_,oc O⟩;unfold hK;rw[Ce O]
theorem UH (L:ax) (k:Nat):lD (L.drop k)=(hK [45] L k,L.drop (ot L k)):=by unfold ot lY;rcases QJ [45] L k with ⟨h1,p,d⟩|⟨c,h1,p,d,q⟩;have g:hK [43] L k=false:=(by unfold hK;rw[Ce h1]);rw[p,g,d];simp[lD,d];have g:hK [43] L k=[43].contains c:=(by unfold hK;rw[h1]);rw[d,g,q,KO];by_cases j:c=45;subst j;simp;by_cases l:c=43;subst l;simp;simp[j,l,q]
theorem UF (l:k<=L):k<=ot L k/\ot L k<=L:=by unfold ot lY;rcases QJ [45] L k with ⟨h1,d,g⟩|⟨c,h1,d,g,p⟩;have j:hK [43] L k=false:=(by unfold hK;rw[Ce h1]);rw[d,j];simp[l];split;exact O;split<;>omega
theorem Ou (h:hK S L k=true):k<L:=by rcases QJ S L k with ⟨h1,d,g⟩|⟨c,h1,d,g,j⟩;rw[d] at h;cases h;exact d
theorem Gt (h:hK S L k=true):lY S L k=k+1:=by unfold lY;rw[Vag h]
theorem G5 (h:hK S L k=false):lY S L k=k:=by unfold lY;rw[h];rfl
theorem Kz (L:ax) (k:Nat):qQ (L.drop k)=L.drop (k+(eQ (L.drop k)).length):=by
 have h:L.drop k=eQ (L.drop k)++qQ (L.drop k):=(List.takeWhile_append_dropWhile (p:=mR) (l:=L.drop k)).symm;have g:(L.drop k).drop (eQ (L.drop k)).length=qQ (L.drop k):=by have d:(eQ (L.drop k)++qQ (L.drop k)).drop (eQ (L.drop k)).length=qQ (L.drop k):=B7;rw[<-h] at d;exact d
 rw[<-g,vM]
theorem Le (L:ax) (d:k<=L):k+(eQ (L.drop k)).length<=L:=by have:=GO (L.drop k);rw[iW] at this;omega
theorem Zbk (L:ax) (k:Nat):xT (L.drop k)=if hK [46] L k then(if eQ (L.drop (k+1))=[] then none else some (eQ (L.drop (k+1)),L.drop (k+1+(eQ (L.drop (k+1))).length))) else some ([],L.drop k):=by rcases QJ [46] L k with ⟨h1,g,d⟩|⟨c,h1,g,d,j⟩;rw[g,d];rfl;rw[d,j,FW];by_cases e:c=46;subst e;simp[Kz];simp[e]
theorem Td (f:ax->Nat) (L:ax) (k:Nat):xO f (L.drop k)=if hK [101,69] L k then(if eQ (L.drop (ot L (k+1)))=[] then none else some (sg (hK [45] L (k+1))*(f (eQ (L.drop (ot L (k+1)))):Int),L.drop (ot L (k+1)+(eQ (L.drop (ot L (k+1)))).length))) else some (0,L.drop k):=by
 rcases QJ [101,69] L k with ⟨h1,g,d⟩|⟨c,h1,g,d,j⟩;rw[g,d];rfl;rw[d,j,Ub,UH];by_cases e:c=101\/c=69;have:[101,69].contains c=true:=(by rw[List.contains_iff_mem];simpa using e);rw[this,Vag e];simp[Kz];have:[101,69].contains c=false:=by rw[Bool.eq_false_iff];intro h;rw[List.contains_iff_mem] at h;exact e (by simpa using h)
 rw[this,aD e];simp
structure eY (w wx:World) (s:ByteArray) (k:Nat) (b:Bool) (v:Value) (D:List UInt8) (e:Int):Prop where
 bs_:Bk wx w.heap.size 9 #[s]
 br:Bk wx (w.heap.size+1) 301 #[false,.slice none 0 0,(0:Int)]
 bn:Bk wx (w.heap.size+1+1) 301 #[b,v,e]
 ba:Bk wx (w.heap.size+1+1+1) 3 #[k]
 own:wx.ownsRow w.heap.size 5 1 v D.length (D.map bv)
 bel:Below w.heap.size w wx
theorem eY.step {k':Nat} (h:eY w wx s k b v D e) (hb:Bk wy (w.heap.size+1+1+1) 3 #[k']) (d:Fr (only (w.heap.size+1+1+1)) wx wy):eY w wy s k' b v D e where
 bs_:=h.bs_.fr d Ap
 br:=h.br.fr d Ap
 bn:=h.bn.fr d Ap
 ba:=hb
 own:=Z6 h.own d (λg j l=>Z1 h.own h.ba aY (l▸j))
 bel:=h.bel.trans (J' d h.bel.size O)
theorem eY.num {j:Bool} {l:Int} (h:eY w wx s k b v D e) (hb:Bk wy (w.heap.size+1+1) 301 #[j,v,l]) (d:Fr (only (w.heap.size+1+1)) wx wy):eY w wy s k j v D l where
 bs_:=h.bs_.fr d Ap
 br:=h.br.fr d Ap
 bn:=hb
 ba:=h.ba.fr d Ap
 own:=Z6 h.own d (λg p q=>Z1 h.own h.bn aY (q▸p))
 bel:=h.bel.trans (J' d h.bel.size O)
theorem eY.neg (h:eY w wx s k b v D e) (d:Bool):eY w (wx.setCell (w.heap.size+1+1,0) (.bool d)) s k d v D e:=
 h.num (by simpa using h.bn.put 0 (.bool d)) (Xm (Fr.refl _ _) 0 _)
theorem eY.exp (h:eY w wx s k b v D e) (d:Int):eY w (wx.setCell (w.heap.size+1+1,2) d) s k b v D d:=
 h.num (by simpa using h.bn.put 2 d) (Xm (Fr.refl _ _) 2 _)
theorem eY.app {E:ax} (h:eY w wx s k b v D e) (l:wy.ownsRow w 5 1 v' (D++E) ((D++E).map bv)) (d:wx.grownBy wy v.ownBlock):
  Bk wy (w.heap.size+1+1) 301 #[b,v,e]/\eY w (wy.setCell (w.heap.size+1+1,1) v') s k b v' (D++E) e:=by have j:=h.bn.grown d (λx=>Z1 h.own h.bn aY x.symm);have g:=j.put 1 v';refine⟨j,?_⟩;refine⟨?_,?_,by simpa using g,?_,?_,?_⟩;exact(h.bs_.grown d (λx=>Z1 h.own h.bs_ aY x.symm)).off (p:=⟨w+1+1,1,none⟩) vP _;exact(h.br.grown d (λx=>Z1 h.own h.br aY x.symm)).off (p:=⟨w+1+1,1,none⟩) vP _;exact(h.ba.grown d (λx=>Z1 h.own h.ba aY x.symm)).off (p:=⟨w+1+1,1,none⟩) vP _;exact Zq l (p:=⟨w+1+1,1,none⟩) (Z1 l j aY) _;exact(h.bel.grown d h.bel.size (λk g=>(h.own.lt k g).1)).setCell (p:=⟨w+1+1,1,none⟩) (by show _<=_+1+1;omega) _
theorem eY.one (h:eY w wx s k b v D e) (S:ax) (l:k<=s.size) (p:s.size<=64) (j:S.length<=2):
  cK 251 #[bs S,(w.heap.size+1+1+1,0),(w,0)] wx λx w'=>x=.returned (hK S (aH s) k)/\eY w w' s (lY S (aH s) k) b v D e:=by refine(ZmX h.ba h.bs_ l p j).mono ?_;rintro x w' ⟨h1,d,q,g⟩;exact⟨h1,h.step d g⟩
theorem eY.dig (h:eY w wx s k b v D e) (j:k<=s.size) (l:s.size<=64):
  cK 252 #[(w.heap.size+1+1+1,0),(w,0)] wx λx w'=>x=.returned (bs (eQ ((aH s).drop k)))/\eY w w' s (k+(eQ ((aH s).drop k)).length) b v D e:=by refine(Zm2 h.ba h.bs_ j l).mono ?_;rintro x w' ⟨h1,d,p,g⟩;exact⟨h1,h.step d g⟩
theorem Z93 (L:ax):Lib.strCells (bs L)=L.map bv:=by unfold Lib.strCells bs bv;simp
def DL (w w':aq) (o:Option gL) (x:Ending):Prop:=∃v b,x=.returned (.tuple #[v,.bool b])/\Below w w w'/\(∃d A l c e,v=.agg #[.bool d,.slice A l c,.int .i64 e])/\(match o with
 |none=>b=false
 |some n=>b=true/\NV w' v n/\Sz n)
theorem ZjQ (w:aq) (s:aT):
  eY w ((((w.alloc (.cells #[s] 9)).alloc (.cells #[false,.slice none 0 0,(0:Int)] 301)).alloc (.cells #[false,.slice none 0 0,(0:Int)] 301)).alloc (.cells #[(0:Int)] 3)) s 0 false (.slice none 0 0) [] 0 where
 bs_:=((Bk.new w _ _).alloc _).alloc _|>.alloc _
 br:=by have:=Bk.new (w.alloc (.cells #[s] 9)) 301 #[false,.slice none 0 0,(0:Int)];rw[World.size_alloc] at this;exact(this.alloc _).alloc _
 bn:=by have:=Bk.new ((w.alloc (.cells #[s] 9)).alloc (.cells #[false,.slice none 0 0,(0:Int)] 301)) 301 #[false,.slice none 0 0,(0:Int)];rw[World.size_alloc,World.size_alloc] at this;exact this.alloc _
 ba:=by have:=Bk.new (((w.alloc (.cells #[s] 9)).alloc (.cells #[false,.slice none 0 0,(0:Int)] 301)).alloc (.cells #[false,.slice none 0 0,(0:Int)] 301)) 3 #[(0:Int)];rw[World.size_alloc,World.size_alloc,World.size_alloc] at this;exact this
 own:=Zl
 bel:=(((bf w w).alloc aU _).alloc (by simp) _|>.alloc vP _).alloc vP _
theorem ZpT (f:ax->Nat) (h:L.length<=64):qq f L=if eQ (L.drop (ot L 0))=[] then none else
  match xT (L.drop (ot L 0+(eQ (L.drop (ot L 0))).length)) with
  |none=>none
  |some x=>match xO f x.2 with
   |none=>none
   |some y=>if y.2=[] then some ⟨hK [45] L 0,eQ (L.drop (ot L 0))++x.1,y.1-x.1.length⟩ else none:=by have h0:=UH L 0;rw[Ch] at h0;unfold qq;rw[aD O,h0];simp only[Kz];rfl
theorem Ml (h:eY w w1 s k b v D e):
  ∃W,(((w1.setCell (w.heap.size+1,0) (.bool b)).setCell (w.heap.size+1,1) v).setCell (w.heap.size+1,2) e)=W/\W.cell? (w.heap.size+1,0)=some (.bool b)/\W.cell? (w.heap.size+1,1)=some v/\W.cell? (w.heap.size+1,2)=some (.int .i64 e)/\Below w w W:=by obtain⟨W,h1,d,g,j,_,l⟩:=AU h.br h.bel O (L:=[]) (At.nil w1 none) b v e;exact⟨W,h1,d,g,j,l⟩
theorem Ui (h:eY w w1 s k b v D e) (E:ax) (u:D.length+E.length<=1000):
  ∃v' w',(Builtin.append_ #[88,9] 88 #[v,bs E]).run prog w1=.ok v' w'/\Bk w' (w.heap.size+1+1) 301 #[b,v,e]/\eY w (w'.setCell (w.heap.size+1+1,1) v') s k b v' (D++E) e:=by obtain⟨i,hi,t,q,g⟩:=info_parts Zqe;obtain⟨v',w',p,d,l,_⟩:=Lib.run_append_own_string (P:=prog) (w:=w1) w 88 9 88 5 i underlying88 underlying9 hi t q g v D (D.map bv) h.own (bs E) (by rw[Z0];unfold maxLen;omega) Ar h.bel.size;rw[Z93,<-jy,Z0,<-bV] at d;obtain⟨h1,j⟩:=h.app d l;exact⟨v',w',p,h1,j⟩
theorem RR {P:Program} {d:Array Oper} {rest:List Oper} {o:Oper} {a:Act} {w':aq} {Q:Exit->Act->aq->Prop} (q:w=w0) (g:o.guard=none) (s x:Operand) (t j:TypeId)
  (p:o.op=.call { callee:=.builtin .append,args:= #[s,x],argTypes:= #[t,j] }) (v u:aI) (F:a.eval s=v) (D:a.eval x=u)
  (B:(Builtin.append_ #[t,j] o.type #[v,u]).run P w0=.ok v' w') (h:wpList P d Q rest (a.put o.dst v') w'):wpList P d Q (o::rest) a w:=NC
theorem ZhX (p:ax) (i:Nat) (h:i<p):kP (p.take (i+1))=min 1048576 (10*kP (p.take i)+dv p[i]):=by unfold kP;rw[dK h,rk];rfl
theorem W_ (p:ax):kP p<=1048576:=by rw[V_];exact Nat.min_le_left _ _
theorem ZoT {c:cj} (h:mR c=true):48<=c.toNat/\c.toNat<=57/\dv c=c.toNat-48:=by unfold mR at h;simp at h;exact⟨h.1,h.2,rfl⟩
theorem ZnL {n:gL} (h1: -1500000<=n.ex) (d:n.ex<=1500000) (g:n.dg.length<=1000):Sz n/\Sz (Xw n):=by refine⟨⟨O,O,O⟩,?_⟩;have a1:=Ka n.dg;have a2:=UT (X2 n.dg);unfold Xw;split;exact⟨by simp[wq],by simp[wq],by simp[wq]⟩;exact⟨dz,dz,dz⟩
theorem Zmc {E:Int} {r:ax} (h:xO kP (L.drop k)=some (E,r)): -1048576<=E/\E<=1048576:=by rw[Td] at h;have:=W_ (eQ (L.drop (ot L (k+1))));generalize kP (eQ (L.drop (ot L (k+1))))=c at*;split at h;split at h;exact po;injection h with h;injection h with h _;rw[<-h];unfold sg;split<;>omega;injection h with h;injection h with h _;rw[<-h];omega
theorem eY.keep (h:eY w wx s k b v D e) (hb:Below wx wx wy):eY w wy s k b v D e where
 bs_:=h.bs_.below hb h.bs_.lt
 br:=h.br.below hb h.br.lt
 bn:=h.bn.below hb h.bn.lt
 ba:=h.ba.below hb h.ba.lt
 own:=Z6 h.own (Fr.of_below (S:=nob) hb) (λ_ _ f=>f)
 bel:=h.bel.trans (hb.mono h.bel.size)
theorem Z4W (D:ax) (w:aq):∃cap W,(convert 9 88 (.string (bs D))).run prog w=.ok (.slice (some (w,0)) (bs D).size cap) W/\At W (some ⟨w,0,none⟩) (D.map bv)/\Below w w W:=by have h:=run_bytes_of_string (P:=prog) w 9 88 5 (bs D) underlying9 underlying88 underlying5;refine⟨_,_,h,?_,((bf w w).drew).alloc aU _⟩;intro i hi;rw[c'] at hi;refine⟨w,0,rfl,by rw[World.size_alloc];exact uH _,?_⟩;rw[jK];show(w.drew.alloc _).cell? (w.drew,i)=_;rw[World.cell?_alloc_mark,bytesRow_at _ _ i hi];simp[bv,bs]
theorem Zja {base e:Nat} {xs:List aI} (h:w.ownsRow base e 1 v n xs):∃A cap,v=.slice A n cap/\At w A xs/\n<=cap/\cap<=maxLen:=by have t:=h;obtain⟨A,cap,k,p⟩:=Zh h;refine⟨A,cap,k,p,?_⟩;rcases t.2 with ⟨d,u⟩|⟨g,z,q,d,_,_,l,j,_⟩;rw[k] at d;injection d with d l j;subst j;subst u;exact⟨aU,cf _⟩;rw[k] at d;injection d with d B y;subst y;exact⟨l,j⟩
def sT (w:aq) (s:aT) (k:Nat) (b:Bool) (v:aI) (F:Int) (W:aq):Prop:=
 W.cell? ⟨w+1+1,0,none⟩=some (.bool b)/\W.cell? ⟨w+1+1,1,none⟩=some v/\W.cell? ⟨w+1+1,2,none⟩=F/\W.cell? ⟨w+1+1+1,0,none⟩=k/\W.cell? ⟨w,0,none⟩=some (.string s)
theorem YL (h:W.cell? p=some v) (hb:Below W W W'):W'.cell? p=some v:=(hb.cell (World.block_lt_of_cell? W p h)).trans h
theorem sT.below (h:sT w s k b v F W) (hb:Below W W W'):sT w s k b v F W':=
 ⟨YL h.1 hb,YL h.2.1 hb,YL h.2.2.1 hb,YL h.2.2.2.1 hb,YL h.2.2.2.2 hb⟩
theorem Db {g i:Nat} {u:aI} (h:W.cell? p=some v) (j:g≠p.block):(W.setCell (g,i) u).cell? p=some v:=by have d:=((Fr.refl (only g) W).setCell (p:=⟨g,i,none⟩) (.inl rfl) u).cell (p:=p) (World.block_lt_of_cell? W p h) (λe=>j e.symm);exact d.trans h
theorem sT.put3 (h:sT w s k b v F W) (x y z:aI):sT w s k b v F (((W.setCell (w.heap.size+1,0) x).setCell (w.heap.size+1,1) y).setCell (w.heap.size+1,2) z):=by
 have go:∀ {W:aq} (i:Nat) (u:aI),sT w s k b v F W->sT w s k b v F (W.setCell (w.heap.size+1,i) u):=λi u h=>
  ⟨Db h.1 (by simp),Db h.2.1 (by simp),Db h.2.2.1 (by simp),Db h.2.2.2.1 vP,Db h.2.2.2.2 (by simp)⟩;exact go 2 z (go 1 y (go 0 x h))
theorem Zfj (s : aT) (w : aq) :
    Calls prog 224 #[s] w λx w'=>DL w w' ((qq kP (aH s)).map Xw) x:=by
  by_cases b1:s.size<=64
  . obtain⟨R,d⟩:=ay ((qq kP (aH s)).map Xw);rw[d];have n9:(aH s).length<=64:=(by rw[Z2];exact b1);have o0:(aH s)=s.size:=Z2 s;rw[ZpT kP n9] at d;have l8:=UF (L:=aH s) (k:=0) (cf _);obtain⟨b,hb⟩:=ay (hK [45] (aH s) 0);obtain⟨k1,l0⟩:=ay (ot (aH s) 0);have d6:ot (aH s) 0=if hK [45] (aH s) 0 then 0+1 else lY [43] (aH s) 0:=rfl;rw[hb,l0] at d d6;rw[l0,o0] at l8;have m8:k1<=s.size:=l8.2;obtain⟨j1,d7,c8,d1⟩:=dc hb d6 d (ZjQ w s);have n3:0<=s.size:=cf _;clear hb l0 d6 d l8 n9 o0;go_in;go_upto_if 22 with (go_at_call 251;refine((eY.one d1.o [45] n3 b1 (by simp)).mono ?_);rintro x w1 ⟨rfl,h1⟩);rw[j1.o];go_cut [] (λwx=>eY w wx s k1 b (.slice none 0 0) [] 0)
    case first=>
      cases b;. have e0:lY [45] (aH s) 0=0:=G5 j1.o;rw[e0] at h1;have d2:k1=lY [43] (aH s) 0:=d7.o;have b3:=J h1;clear h1;go_wp2_with (go_at_call 251;refine((eY.one b3.o [43] n3 b1 (by simp)).mono ?_);rintro x t2 ⟨rfl,z⟩);rw[<-d2] at z;have p5:=J z;clear z;go_meet;case rel=>exact p5.o
      have e0:lY [45] (aH s) 0=0+1:=Gt j1.o;have d2:k1=0+1:=d7.o;rw[e0,<-d2] at h1;have a7:=h1.bn.cell 0;have n1:=h1.bn.frozen 0;have d3:=h1.neg true;simp at a7;have f3:=J d3;clear h1 d3;go_wp2;go_meet;case rel=>exact f3.o
    have b3:=J hcut;clear hcut h1 d7;obtain⟨D,g6⟩:=ay (eQ ((aH s).drop k1));obtain⟨k2,f8⟩:=ay (k1+D.length);have a9:=Le (aH s) (k:=k1) (by rw[Z2];exact m8);rw[g6,Z2,f8] at a9;have GW:k2<=s.size:=a9;have u4:D.length<=64:=O;have d:=c8.o;rw[g6,f8] at d;have a2:Hid (∀(wx:aq) (a1:Bool) (v:aI) (E:ax) (e:Int),eY w wx s k1 a1 v E e->Calls prog 252 #[(w.heap.size+1+1+1,0),(w,0)] wx λx w'=>x=.returned (bs D)/\eY w w' s k2 a1 v E e):=J (λwx a1 v E e h=>by have:=h.dig m8 b1;rw[g6,f8] at this;exact this);clear g6 f8 a9 c8;go_upto_if 29 with (go_at_call 252;refine((a2.o _ _ _ _ _ b3.o).mono ?_);rintro x t2 ⟨rfl,z⟩);clear a2 b3 d1;by_cases S:D=[];rw[Vag S] at d;have u:Hid ((none:Option gL)=R):=J d;have b2:(bs D).toList.isEmpty=true:=MF (by rw[Z0,S];rfl);obtain⟨f7,a6,g,l,t,a4⟩:=Ml z;have a7:=z.bn.cell 0;have n1:=z.bn.cell 1;have n2:=z.bn.cell 2;have r0:=z.br.cell 0;have c4:=z.br.cell 1;have c7:=z.br.cell 2;have g3:=z.br.frozen 0;have g4:=z.br.frozen 1;have g5:=z.br.frozen 2;simp at a7 n1 n2 r0 c4 c7;have q:=J a6;have p:=J a4;rw[b2];clear d S a6 a4 b2 z;exact IW;rw[aD S] at d;have c8:=J d;have b2:(bs D).toList.isEmpty=false:=ME (by rw[Z0];exact List.length_pos_iff.2 S);obtain⟨u5,u9,o6,b5,d3⟩:=Ui z D fj;obtain⟨A3,t6,t8,rfl⟩:=Z7 d3.own;rw[pU] at d3;have n1:=z.bn.cell 1;have i1:=b5.cell 1;have f1:=b5.frozen 1;simp at n1 i1;have f3:=J d3;have o3:=J o6;rw[b2];clear d S z d3 o6 b5 b2;generalize bs D=SD at*
    go_upto_if 37 with (first
      |(at_builtin;refine RR iG rfl _ _ _ _ rfl _ _ (by rfl) (by rfl) o3.o ?_)
      |(go_at_call 251;refine((eY.one f3.o [46] GW b1 (by simp)).mono ?_);rintro x v0 ⟨rfl,d4⟩));clear n1 i1 f1 o3 f3;go_cut [] (λwx=>∃v P k3,k3<=s.size/\P.length<=64/\Hid (xT ((aH s).drop k2)=some (P,(aH s).drop k3))/\eY w wx s k3 b v (D++P) (-(P.length:Int)))
    case first=>
      have a8:=Zbk (aH s) k2;by_cases b8:hK [46] (aH s) k2=true
      . rw[Vag b8] at a8;rw[Gt b8] at d4;have AT:k2+1<=s.size:=(by have:=Ou b8;rw[Z2] at this;exact this);obtain⟨P,g7⟩:=ay (eQ ((aH s).drop (k2+1)));obtain⟨k3,b5⟩:=ay (k2+1+P.length);have a9:=Le (aH s) (k:=k2+1) (by rw[Z2];exact AT);rw[g7,Z2,b5] at a9;have k6:P.length<=64:=O;rw[g7,b5] at a8;have a2:Hid (∀(wx:aq) (a1:Bool) (v:aI) (E:ax) (e:Int),eY w wx s (k2+1) a1 v E e->Calls prog 252 #[(w.heap.size+1+1+1,0),(w,0)] wx λx w'=>x=.returned (bs P)/\eY w w' s k3 a1 v E e):=J (λwx a1 v E e h=>by have:=h.dig AT b1;rw[g7,b5] at this;exact this);have d9:=J d4;rw[b8];clear g7 b5 d4 b8;by_cases e3:P=[];. rw[Vag e3] at a8;have d:=c8.o;rw[a8] at d;have u:Hid ((none:Option gL)=R):=J d;have b2:(bs P).toList.isEmpty=true:=MF (by rw[Z0,e3];rfl);clear d a8 e3 c8;go_upto_region 17 with (go_at_call 252;refine((a2.o _ _ _ _ _ d9.o).mono ?_);rintro x t3 ⟨rfl,G⟩);obtain⟨f7,a6,g,l,t,a4⟩:=Ml G;have a7:=G.bn.cell 0;have n1:=G.bn.cell 1;have n2:=G.bn.cell 2;have r0:=G.br.cell 0;have c4:=G.br.cell 1;have c7:=G.br.cell 2;have g3:=G.br.frozen 0;have g4:=G.br.frozen 1;have g5:=G.br.frozen 2;simp at a7 n1 n2 r0 c4 c7;have q:=J a6;have p:=J a4;clear a6 a4 G a2 d9;exact IW
        rw[aD e3] at a8;have j7:=J a8;have b2:(bs P).toList.isEmpty=false:=ME (by rw[Z0];exact List.length_pos_iff.2 e3);clear a8 e3;go_upto_region 18 with (go_at_call 252;refine((a2.o _ _ _ _ _ d9.o).mono ?_);rintro x t3 ⟨rfl,G⟩);obtain⟨u7,t4,n5,i8,Q⟩:=Ui G P O;obtain⟨t5,t7,t9,rfl⟩:=Z7 Q.own;have n1:=G.bn.cell 1;have i1:=i8.cell 1;have f1:=i8.frozen 1;have s8:=Q.bn.cell 2;have q2:=Q.bn.frozen 2;simp at n1 i1 s8;have b0:=Q.exp (-((bs P).size:Int));have e5:=J b0;have p4:=J n5;have s1:(bs P).size<=64:=k6;clear G n5 i8 Q b0 a2 d9;go_wp2_with (at_builtin;refine RR iG rfl _ _ _ _ rfl _ _ (by rfl) (by rfl) p4.o ?_);go_meet;case rel=>exact⟨_,P,k3,a9,k6,j7,e5.o⟩
      rw[aD b8] at a8;have i7:hK [46] (aH s) k2=false:=(by simpa using b8);rw[G5 i7] at d4;have j7:=J a8;have d9:=J d4;rw[i7];clear a8 b8 i7 d4;go_wp2;go_meet;case rel=>exact⟨_,[],k2,GW,by simp,j7,by simpa using d9.o⟩
    obtain⟨u6,P,k3,m9,k6,o5,B⟩:=hcut;obtain⟨A5,j5,b4,rfl⟩:=Z7 B.own;have d:=c8.o;rw[o5.o] at d;simp only at d;have e7:=J d;have f4:=J B;clear d c8 B o5 d4;go_upto_if 53 with (go_at_call 251;refine((eY.one f4.o [101,69] m9 b1 (by simp)).mono ?_);rintro x t4 ⟨rfl,Q⟩);go_cut [] (λwx=>∃E a3,a3<=s.size/\Hid (xO kP ((aH s).drop k3)=some (E,(aH s).drop a3))/\eY w wx s a3 b (.slice A5 j5 b4) (D++P) (E-(P.length:Int)))
    case first=>
      have j:=Td kP (aH s) k3;by_cases b6:hK [101,69] (aH s) k3=true
      . rw[Vag b6] at j;rw[Gt b6] at Q;have i6:k3+1<=s.size:=(by have:=Ou b6;rw[Z2] at this;exact this);have i5:=(UF (L:=aH s) (k:=k3+1) (by rw[Z2];exact i6)).2;have d6:ot (aH s) (k3+1)=if hK [45] (aH s) (k3+1) then k3+1+1 else lY [43] (aH s) (k3+1):=rfl;obtain⟨bn,l2⟩:=ay (hK [45] (aH s) (k3+1));obtain⟨d5,m3⟩:=ay (ot (aH s) (k3+1));rw[l2,m3] at j d6;rw[m3,Z2] at i5;obtain⟨y,e4⟩:=ay (eQ ((aH s).drop d5));obtain⟨h0,f6⟩:=ay (d5+y.length);have a9:=Le (aH s) (k:=d5) (by rw[Z2];exact i5);rw[e4,Z2,f6] at a9;have o7:y.length<=64:=O;rw[e4,f6] at j;have l3:Hid (sM y):=J (e4▸GN _);have a2:Hid (∀(wx:aq) (a1:Bool) (v:aI) (E:ax) (e:Int),eY w wx s d5 a1 v E e->Calls prog 252 #[(w.heap.size+1+1+1,0),(w,0)] wx λx w'=>x=.returned (bs y)/\eY w w' s h0 a1 v E e):=J (λwx a1 v E e h=>by have:=h.dig i5 b1;rw[e4,f6] at this;exact this);obtain⟨i2,d7,f5,d8⟩:=dc l2 d6 Q j;rw[b6];clear j b6 Q l2 m3 d6 e4 f6;go_upto_if 57 with (go_at_call 251;refine((eY.one f5.o [45] i6 b1 (by simp)).mono ?_);rintro x v1 ⟨rfl,b0⟩);rw[i2.o];go_cut [10] (λs5 wx=>s5=.bool bn/\eY w wx s d5 b (.slice A5 j5 b4) (D++P) (-(P.length:Int)))
        case first=>
          cases bn;. have e0:lY [45] (aH s) (k3+1)=k3+1:=G5 i2.o;rw[e0] at b0;have d2:d5=lY [43] (aH s) (k3+1):=d7.o;have e5:=J b0;clear b0 e0;go_wp2_with (go_at_call 251;refine((eY.one e5.o [43] i6 b1 (by simp)).mono ?_);rintro x v2 ⟨rfl,l6⟩);rw[<-d2] at l6;have e2:=J l6;clear l6;go_meet;case rel=>exact⟨rfl,e2.o⟩
          have e0:lY [45] (aH s) (k3+1)=k3+1+1:=Gt i2.o;have d2:d5=k3+1+1:=d7.o;rw[e0,<-d2] at b0;have e5:=J b0;clear b0 e0;go_wp2;go_meet;case rel=>exact⟨rfl,e5.o⟩
        obtain⟨rfl,B⟩:=hcut;have e2:=J B;clear B b0 f5 f4 d7 i2;by_cases S:y=[];. have d:=e7.o;have j:=d8.o;rw[Vag S] at j;rw[j] at d;have u:Hid ((none:Option gL)=R):=J d;have b2:(bs y).toList.isEmpty=true:=MF (by rw[Z0,S];rfl);clear d j e7 d8 S l3;go_upto_region 26 with (go_at_call 252;refine((a2.o _ _ _ _ _ e2.o).mono ?_);rintro x i3 ⟨rfl,I⟩);obtain⟨f7,a6,g,l,t,a4⟩:=Ml I;have a7:=I.bn.cell 0;have n1:=I.bn.cell 1;have n2:=I.bn.cell 2;have r0:=I.br.cell 0;have c4:=I.br.cell 1;have c7:=I.br.cell 2;have g3:=I.br.frozen 0;have g4:=I.br.frozen 1;have g5:=I.br.frozen 2;simp at a7 n1 n2 r0 c4 c7;have q:=J a6;have p:=J a4;clear a6 a4 I a2 e2;exact IW
        have j:=d8.o;rw[aD S] at j;have m4:=J j;have b2:(bs y).toList.isEmpty=false:=ME (by rw[Z0];exact List.length_pos_iff.2 S);clear j d8 e7 S;go_upto_region 28 with (go_at_call 252;refine((a2.o _ _ _ _ _ e2.o).mono ?_);rintro x i3 ⟨rfl,I⟩);obtain⟨u0,n8,r5,e6,o4⟩:=Z4W y i3;have i0:=I.keep o4;obtain⟨c9,k0⟩:=ay y.length;have m6:(bs y).size=c9:=k0;have o2:∀i (h:i<c9),∃X:Nat,n8.cell? (i3,i)=some (.int .u8 (X:Int))/\48<=X/\X<=57/\kP (y.take (i+1))=min 1048576 (10*kP (y.take i)+(X-48)):=by intro i hi;obtain⟨a1,u3,l7,g9,a5⟩:=e6 i (by rw[c'];omega);injection l7 with l7;injection l7 with s6 r7;subst s6;subst r7;rw[jK,uF] at a5;obtain⟨q1,q2,q3⟩:=ZoT (l3.o y[i] (dt _));exact⟨_,a5,q1,q2,by rw[ZhX y i O,q3]⟩
        have n2:=i0.bn.cell 2;have r8:=i0.bn.frozen 2;simp at n2;obtain⟨l9,i9,j0⟩:=bD o2 i0 k0;rw[m6] at r5;clear e6 o4 I i0 o2 a2 e2 k0 m6 l3;have o9:c9<=64:=(by have:=j0.o;omega);go_upto_region 29 with fail;go_loopw [12,68] (λs4 k8 wr=>∃i:Nat,i<=c9/\s4=.int .i64 ((kP (y.take i):Nat):Int)/\k8=(i:Int)/\wr=n8) (λ_ k8 _=>(c9-intOf k8).toNat);exact⟨0,cf _,rfl,rfl,rfl⟩;obtain⟨i,hi,rfl,rfl,rfl⟩:=hrel;obtain⟨c,a5⟩:=ay (kP (y.take i));have r6:=W_ (y.take i);rw[a5] at r6;by_cases ab:i<c9
        . obtain⟨X,u2,q1,q2,q3⟩:=l9.o i ab;rw[a5] at q3;have q0:=J q3;rw[a5];clear q3 a5 n2 r8 l9;go_wp2;refine⟨⟨i+1,ab,?_,ci,Fv⟩,?_⟩
          . rw[q0.o]
            first
              |(congr 1;omega)
              |rfl
          simp[intOf]<;>omega
        have s7:i=c9:=O;have l1:y.take i=y:=d' (by have:=j0.o;omega);rw[l1] at a5;have j:=m4.o;rw[a5] at j;have m5:=J j;have e8:Hid (∀f9,eY w (wr.setCell (w.heap.size+1+1,2) (.int .i64 f9)) s h0 b (.slice A5 j5 b4) (D++P) f9):=J (λf9=>i9.o.exp f9);rw[l1,a5];subst s7;clear l1 a5 j m4 l9 j0;cases bn;. go_wp2;go_meet;exact⟨_,h0,a9,m5,by have:=e8.o (-(P.length:Int)+(c:Int));rw[show sg false*(c:Int)-P.length= -(P.length:Int)+(c:Int) by unfold sg;simp;omega];exact this⟩
        go_wp2;go_meet
        exact⟨_,h0,a9,m5,by
 have:=e8.o (-(P.length:Int)+ -(c:Int));rw[show sg true*(c:Int)-P.length= -(P.length:Int)+ -(c:Int) by unfold sg;simp;omega];exact this⟩
      rw[aD b6] at j;have j8:hK [101,69] (aH s) k3=false:=(by simpa using b6);rw[G5 j8] at Q;have d8:=J j;have f5:=J Q;rw[j8];clear j b6 j8 Q f4;go_wp2;go_meet;case rel=>exact⟨0,k3,m9,d8,by simpa using f5.o⟩
    obtain⟨E,a3,AT,j,B⟩:=hcut;obtain⟨p9,t1⟩:=Zmc j.o;have d:=e7.o;rw[j.o] at d;simp only at d;obtain⟨N,b7⟩:∃N:gL,N=⟨b,D++P,E-(P.length:Int)⟩:=⟨_,rfl⟩;obtain⟨o1,n4⟩:Sz N/\Sz (Xw N):=ZnL (by rw[b7];exact dz) (by rw[b7];exact dz) (by rw[b7];simp only[bV];omega);obtain⟨A,cap,s3,e6,q9,r4⟩:=Zja B.own;injection s3 with q7 q8 r9;subst q7;subst q8;subst r9;have p3:NV wc (.agg #[b,.slice A5 (D++P) b4,(E-(P.length:Int):Int)]) N:=⟨A5,b4,by rw[b7],by rw[b7];exact e6,by rw[b7];exact q9,r4⟩;have NO:Hid (∀W,Below wc wc W->Calls prog 253 #[.agg #[b,.slice A5 (D++P) b4,(E-(P.length:Int):Int)]] W λx w'=>∃v',x=.returned v'/\NV w' v' (Xw N)/\Below W.heap.size W w'):=J (λW h=>Zfn (p3.below h) o1);have l5:(aH s).drop a3=[]↔a3=s.size:=by rw[List.drop_eq_nil_iff,Z2];omega
    have r3:Hid (∀(v':aI) (W:aq),Below w w W->NV W v' (Xw N)->DL w W R (.returned (.tuple #[v',decide (a3=s.size)]))):=J (λv' W s2 e9=>by refine⟨v',_,rfl,s2,?_,?_⟩;obtain⟨i4,j9,rfl,_⟩:=e9;exact⟨_,_,_,_,_,rfl⟩;rw[<-d];by_cases g8:a3=s.size;rw[Vag (l5.2 g8),<-b7];exact⟨by simpa using g8,e9,n4⟩;rw[aD (λh=>g8 (l5.1 h))];simpa using g8);have d1:=J B;have a7:=B.bn.cell 0;have n1:=B.bn.cell 1;have n2:=B.bn.cell 2;have k9:=B.ba.cell 0;have m2:=B.bs_.cell 0;obtain⟨F,hF⟩:=ay (E-(P.length:Int));obtain⟨M,o8⟩:=ay ((D++P).length);rw[hF] at n2 NO;rw[o8] at n1 NO;simp at a7 n1 n2 k9 m2;clear d B e6 p3 n4 o1 b7 j e7 hF o8 p9 t1 Q f4 l5;have b3:sT w s a3 b (.slice A5 M b4) F wc.drew:=⟨a7,n1,n2,k9,m2⟩;unfold sT at b3;go_wp2
    go_region_held3 (λW=>W.cell? (w.heap.size+1+1,0)=some (.bool b)/\W.cell? (w.heap.size+1+1,1)=some (.slice A5 M b4)/\W.cell? (w.heap.size+1+1,2)=some (.int .i64 F)/\W.cell? (w.heap.size+1+1+1,0)=some (.int .i64 (a3:Int))/\W.cell? (w,0)=some (.string s)) (first|exact b3|assumption|exact sT.below mi mi|exact sT.put3 mi _ _ _)
      (first
        | (go_at_call 253; refine (NO.o _ ((bf _ _).drew)).mono ?_; rintro x i3 ⟨v', rfl, ⟨i4, j9, rfl, m7, n6, n7⟩, g9⟩;have b9:=d1.o.br.below (((bf wc wc).drew).trans g9) d1.o.br.lt;have r0:=b9.cell 0;have c4:=b9.cell 1;have c7:=b9.cell 2;have g3:=b9.frozen 0;have g4:=b9.frozen 1;have g5:=b9.frozen 2;simp at r0 c4 c7;have j4:=J b9;have p8:=J m7;clear b9 m7));obtain⟨f7,a6,g,l,t,p1,a4⟩:=AU j4.o (d1.o.bel.trans (((bf wc wc).drew.trans g9).mono d1.o.bel.size)) O p8.o (Xw N).neg (.slice i4 (Xw N).dg j9) (Xw N).ex;obtain⟨q,s9,p⟩:=bD a6 p1 a4;have p0:((a3:Int)==s.size)=decide (a3=s.size):=by rw[lN,beq_iff_eq,fq];omega
    obtain⟨p7,j2,j3⟩:=bD p0 n6 n7;clear a6 p1 a4 p0 n6 n7 b3 a7 n1 n2 k9 m2 r0 c4 c7 g3 g4 g5 g9;go_wp2;rw[q.o];refine bodyPost_ret (by simp[results,results224,go_sem,g,l,t];try rfl) rfl ?_;rw[p7.o];exact r3.o _ f7 p.o ⟨i4,j9,rfl,s9.o,j2.o,j3.o⟩
  have e9 : qq kP (aH s) = none := by unfold qq;rw[Vag Cu]
  have p6:=J e9;have u1:(64:Int)<s.size:=O;have q6:=J ((Ul w (.cells #[s] 9) (.cells #[false,.slice none 0 0,(0:Int)] 301)).alloc vP (.cells #[false,.slice none 0 0,(0:Int)] 301));clear e9;go_in;go_wp2;go_returns;rw[p6.o];exact⟨_,_,rfl,q6.o,⟨_,_,_,_,_,rfl⟩,rfl⟩
