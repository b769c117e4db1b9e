import Derived.Test.YtchokmkfobandaaGreatDoorJ09
import Derived.Test.YtchokmkfobandaaGreatDoorLShelf
import Derived.Test.YtchokmkfobandaaGreatDoorJ10
import Derived.Laws.CopyOwn
set_option linter.unusedVariables false
set_option linter.unusedSimpArgs false
set_option maxRecDepth 100000
set_option maxHeartbeats 8000000
namespace Go.Proofs.YtchokmkfobandaaGreatDoor
open Go.RowKit Go.Proofs Wv Wv.Vi Wv.Rc Wv.Mo
theorem Zbn (n:Nat) (h:0<n):blen n=blen (n/2)+1:=by
 unfold blen;rw[Vad (by omega)];by_cases h1:n/2=0
 ·rw[Vaf h1,Nat.log2_def,Vad (by omega)]
 ·rw[Vad h1,Nat.log2_def,Vaf (by omega)]
theorem bitLen_eq (x:Nat) (h:x<2 ^ 64):Go.Lib.bitLen x=blen x:=by
  have key:∀f y,y<2 ^ f->Go.Lib.bitLenAux f y=blen y:=by
    intro f;induction f with
    | zero => intro y hy; have : y = 0 := by simpa using hy
              subst this;rfl
    |succ f ih=>
      intro y hy;unfold Go.Lib.bitLenAux;split
      · rename_i h0;subst h0;rfl
      · rename_i h0
        rw[ih (y/2) (by rw[Vbr] at hy;omega),Zbn y (by omega)];omega
  exact key _ x h
theorem Z3E (v:Nat) (h:v<=9223372036854775807) (w:World):
  Calls Tryz.prog 178 #[.int .u64 (v:Int)] w λx w'=>x=.returned (.int .i64 (blen v:Nat))/\w=w':=by
 refine(Tryz.bits_Len (v:Int) w (by omega) (by omega)).mono ?_;rintro x w' ⟨rfl,hw⟩;exact⟨Zw (by rw[Vav,bitLen_eq _ (by omega)]),hw.symm⟩
theorem Z3F {w:World} {b g eb:Nat} {dv:Value} {t:List Nat} {e:En} (h:NAt w b g t) (ht:TNum t) (he:EnAt w eb dv e) (hv:Val 0 e) (v:Nat) (jT:v<4611686018427387904) (hl:e.out.length<=800000):
  Calls Tryz.prog 134 #[.pointer (some ⟨b,0,none⟩),.pointer (some ⟨eb,0,none⟩),.int .i64 (v:Int)] w λx w'=>x=.returned (.tuple #[])/\NAt w' b g (nenc v (t,e)).1/\∃cK,EnAt w' eb cK (nenc v (t,e)).2/\Fr (Z13 g eb dv) w w'/\Zo w dv cK:=by
 have hb:=Z0u jT;have Hl:=h_ (Z3E v (by omega));obtain⟨n,hn⟩:∃n,blen v=n:=⟨_,rfl⟩;have az:nenc v (t,e)=((tenc 6 n 1 t e).1,if 2<=n then edir (n-1) v (tenc 6 n 1 t e).2 else(tenc 6 n 1 t e).2):=(by unfold nenc;rw[hn]);rw[hn] at Hl hb;obtain⟨k1,k2,k3⟩:=Ql 6 n 1 ht.1 (by rw[ht.2];decide) hv;have Ht:=h_ (Zeo h ht he hv n (by omega) hl)
 have hlen:(tenc 6 n 1 t e).2.out.length<=e.out.length+12:=by
  have key:∀(j m:Nat) (t:List Nat) (e:En),(tenc j n m t e).2.out.length<=e.out.length+2*j:=by
   intro j;induction j with
   |zero=>intro m t e;exact UZz
   |succ j ih=>
    intro m t e;rw[tenc];have h1:=ih (2*m+n/2 ^ j % 2) (t.set m (Y3 (t.getD m 0) (n/2 ^ j % 2))) (ebit (t.getD m 0) (n/2 ^ j % 2) e);have h2:=Z01 (t.getD m 0) (n/2 ^ j % 2) e;omega
  have:=key 6 1 t e;omega
 have va:=h.foot he;generalize tenc 6 n 1 t e=D at*;obtain⟨t2,e2⟩:=D;simp only at az Ht k3 hlen;have vb:=h_ az;have KR:¬(4611686018427387903:Int)<(v:Int):=(by omega);have bO:¬(v:Int)<0:=(by omega);clear az hn k1 k2 h he ht hv va;by_cases h2:2<=n
 ·rw[Vaf h2] at vb;have jz:(2:Int)<=(n:Int):=(by omega);have i1:(n:Int)-1=((n-1:Nat):Int):=(by omega);obtain⟨q,hq⟩:∃q,n-1=q:=⟨_,rfl⟩;rw[hq] at i1 vb;have FK:q<=62:=(by omega);clear hq;go_enter Tryz.func134,Tryz.ntmps134;go_wp2_with fail;refine(Hl.o _).mono ?_;rintro x w1 ⟨rfl,rfl⟩;go_wp2_with fail;refine(Ht.o).mono ?_;rintro x w1 ⟨rfl,fR,mg,dU,aC,gy⟩;have Hd:=h_ (Z5T dU k3 q v FK (by omega) (by omega));have hs:=aC.size;have cw:=fR.foot dU;go_wp2_with fail;refine(Hd.o).mono ?_;rintro x w2 ⟨rfl,Ds,cO,ai,dD⟩;go_wp2;go_end0;rw[vb.o];exact⟨rfl,fR.fr ai cw.1 cw.2,Ds,cO,Z3o aC ai gy,gy.trans dD hs⟩
 ·rw[Vad h2] at vb;have jz:¬(2:Int)<=(n:Int):=(by omega);clear h2;go_enter Tryz.func134,Tryz.ntmps134;go_wp2_with fail;refine(Hl.o _).mono ?_;rintro x w1 ⟨rfl,rfl⟩;go_wp2_with fail;refine(Ht.o).mono ?_;rintro x w1 ⟨rfl,fR,mg,dU,aC,gy⟩;go_wp2;go_end0;rw[vb.o];exact⟨rfl,fR,mg,dU,aC,gy⟩
theorem Zkd (n x:Nat) (hn:n<=61) (hx:x<2 ^ n):bits .or .i64 (IntKind.i64.wrap (2 ^ n)) (x:Int)=((2 ^ n+x:Nat):Int):=by
 have h1:(2:Nat) ^ n<=2 ^ 61:=Vby (by omega) hn;have e:((2:Int) ^ n)=((2 ^ n:Nat):Int):=(by rw[Int.natCast_pow];rfl);rw[e,IntWalk.i64_in _ (by omega),Zaq _ _ (by omega) (by omega),nat_join n _ _ (by rw[Nat.mod_self]) hx]
theorem Z8J {n:Nat} (d:De) (h:n<2):nval n d=n:=by unfold nval;rw[Vaf h]
theorem Zbo (d:De):nval 63 d= -1:=rfl
theorem ZeU {n:Nat} (d:De) (h:¬n<2) (h2:n≠63):nval n d=((2 ^ (n-1)+(ddir (n-1) 0 d).1:Nat):Int):=by unfold nval;rw[Vad h,Vad h2]
theorem ZhY (t:List Nat) (d:De) (n:Nat) (t2:List Nat) (d2:De) (h:tdec 6 1 t d=(n+64,t2,d2)):
  ndec t d=(nval n d2,t2,if n<2 then d2 else if n=63 then d2 else(ddir (n-1) 0 d2).2):=by
 unfold ndec;rw[h];simp only[Vb7]
theorem Z3G {w:World} {b g eb:Nat} {t:List Nat} {d:De} (h:NAt w b g t) (ht:TNum t) (he:DAt w eb d) (hv:DV 0 d):
  Calls Tryz.prog 224 #[.pointer (some ⟨b,0,none⟩),.pointer (some ⟨eb,0,none⟩)] w λx w'=>x=.returned (.int .i64 (ndec t d).1)/\NAt w' b g (ndec t d).2.1/\DAt w' eb (ndec t d).2.2/\Fr (Z2m g eb) w w':=by
 have Ht:=Zep h ht he hv;obtain⟨k1,k2,k3,k4,k5⟩:=Z4x 6 1 t d ht.1 (by rw[ht.2];decide) hv;have heq:=ZhY t d;generalize tdec 6 1 t d=D at*;obtain⟨m,t2,d2⟩:=D;simp only at Ht k3 k4 k5;obtain⟨n,rfl⟩:∃n,m=n+64:=⟨m-64,by omega⟩;have heq:=heq n t2 d2 rfl;rw[Vb7] at Ht;have Ht:=h_ Ht;have FL:=h_ heq;have R6:n<64:=(by omega);clear k1 k2 k4 k5 heq h ht he hv;by_cases h2:n<2
 ·have e1:=FL.o;rw[Vaf h2,Z8J d2 h2] at e1;have E:=h_ e1;have hz:n=0\/n=1:=(by omega);clear e1 h2;rcases hz with rfl|rfl
  all_goals
   go_enter Tryz.func224,Tryz.ntmps224;go_wp2_with fail;refine(Ht.o).mono ?_;rintro x w1 ⟨rfl,fR,iX,aC⟩;go_wp2;go_ret;rw[E.out];exact⟨rfl,fR,iX,aC⟩
 ·have aB:((n:Int)==0)=false:=(by rw[Vam];omega);have a7:((n:Int)==1)=false:=(by rw[Vam];omega);by_cases e9:n=63
  ·have e1:=FL.o;rw[Vad h2,Vaf e9] at e1;subst e9;rw[Zbo] at e1;have E:=h_ e1;clear e1 h2;go_enter Tryz.func224,Tryz.ntmps224;go_wp2_with fail;refine(Ht.o).mono ?_;rintro x w1 ⟨rfl,fR,iX,aC⟩;go_wp2;go_ret;rw[E.out];exact⟨rfl,fR,iX,aC⟩
  ·have R7:((n:Int)==63)=false:=(by rw[Vam];omega);have e1:=FL.o;rw[Vad h2,Vad e9,ZeU d2 h2 e9] at e1;have E:=h_ e1;obtain⟨q,hq⟩:∃q,n-1=q:=⟨_,rfl⟩;rw[hq] at E;have FM:q<=61:=(by omega);have i1:(n:Int)-1=(q:Int):=(by omega);have i2:IntKind.i64.wrap (q:Int)=(q:Int):=(by rw[IntWalk.i64_in _ (by omega)]);have zo:0<=(q:Int):=(by omega);have hx:=(Zas q 0 d2 k3).2;rw[Vbo,Nat.one_mul] at hx;have rN:=Zkd q (ddir q 0 d2).1 FM hx;have Fh:=h_ rN;clear e1 h2 e9 hq hx rN;go_enter Tryz.func224,Tryz.ntmps224;go_wp2_with fail;refine(Ht.o).mono ?_;rintro x w1 ⟨rfl,fR,iX,aC⟩;have Hd:=h_ (λW (hW:DAt W eb d2)=>Z5U hW k3 q (by omega));have cw:=fR.onl iX;go_wp2;go_region_with ((go_at_call 253;refine(Hd.o _ iX.drew).mono ?_;rintro x w2 ⟨rfl,oc,ai⟩))
   all_goals
    go_wp2;go_ret;rw[E.out];exact⟨Zw Fh.o,fR.drew.fr ai cw.1 cw.2,oc,aC.drew.trans' ai (λi hi e=>.inr e)⟩
theorem Z8K (l:List Nat) (v:Nat):∀x:List Nat×En,Xs (l++[v]) x=nenc v (Xs l x):=by
 induction l with
 |nil=>intro x;rfl
 |cons a l ih=>intro x;exact ih _
theorem Z8L (l:List Nat) (k:Nat) (h:k<l.length) (x:List Nat×En):Xs (l.take (k+1)) x=nenc (l.getD k 0) (Xs (l.take k) x):=by
 rw[Vac h,Z8K];congr 1;simp[List.getD,h]
theorem Z3H (n:Nat) (j:Nat):∀(m:Nat) (t:List Nat) (e:En),(tenc j n m t e).2.out.length<=e.out.length+2*j:=by
 induction j with
 |zero=>intro m t e;exact UZz
 |succ j ih=>
  intro m t e;rw[tenc];have h1:=ih (2*m+n/2 ^ j % 2) (t.set m (Y3 (t.getD m 0) (n/2 ^ j % 2))) (ebit (t.getD m 0) (n/2 ^ j % 2) e);have h2:=Z01 (t.getD m 0) (n/2 ^ j % 2) e;omega
theorem Z3I (v:Nat) (hv:v<4611686018427387904) (x:List Nat×En):(nenc v x).2.out.length<=x.2.out.length+134:=by
 have hb:=Z0u hv;have h1:=Z3H (blen v) 6 1 x.1 x.2;unfold nenc;simp only;split
 ·have:=Z7c (blen v-1) v (tenc 6 (blen v) 1 x.1 x.2).2;omega
 ·omega
theorem Z4J (l:List Nat):∀(x:List Nat×En),(∀v∈l,v<4611686018427387904)->(Xs l x).2.out.length<=x.2.out.length+134*l.length:=by
 induction l with
 |nil=>intro x _;exact UZz
 |cons v l ih=>
  intro x h;have h1:=ih (nenc v x) (λu hu=>h u (Var _ hu));have h2:=Z3I v (h v Vap) x;rw[Xs,Vaz];omega
def ivs (l:List Int):List Value:=l.map iv
theorem Xq (l:List Int) (i:Nat) (h:i<l.length):(ivs l)[i]? =some (.int .i64 (l.getD i 0)):=by
 have:l.getD i 0=l[i]:=(by simp[List.getD,h]);rw[this];simp[ivs,iv,Van h]
theorem ZeV {w:World} {b g:Nat} {A:Option Addr} {l:List Nat} (h:NAt w b g t0) (ha:At w A (ivs (l.map Int.ofNat))) (Dt:l≠[]->∀b' o,A=some ⟨b',o,none⟩->b'≠g) (n cap:Nat) (hn:n=l.length) (hl:l.length<=4096) (hv:∀v∈l,v<4611686018427387904):
  Calls Tryz.prog 68 #[.iface 112 (.pointer (some ⟨b,0,none⟩)),.slice A n cap] w λx w'=>x=.returned (.string (bs (encn l)))/\Fr (only g) w w':=by
 have Hn:=Zh (n:Int) (by omega) (by omega) w;rw[Vav,hn] at Hn;have rV:=kof9 l.length;rw[<-Z0] at rV;have gK:encn l=num l.length++if l=[] then[] else efin (Xs l (t0,e0)).2:=rfl
 generalize aM:bs (num l.length)=s1 at*;have Hn:=h_ Hn;have Ld:=h_ aM;have Hh:=h_ h;have Ha:=h_ ha;have av:=h_ hn;have od:n<=4096:=(by omega);rw[<-hn] at Hn;clear aM h ha hn;by_cases h0:l=[]
 ·rw[Vaf h0,Va3] at gK;have o8:n=0:=(by rw[av.o,h0];rfl);subst o8;have gL:=h_ gK;clear gK h0;go_enter Tryz.func68,Tryz.ntmps68;go_wp2_with fail;refine(Hn.o).mono ?_;rintro x w1 ⟨rfl,a7⟩;go_wp2;go_ret;exact⟨Z0w (by rw[gL.o,Ld.o]),Fr.of_below a7⟩
 ·rw[Vad h0] at gK;have Dt:=Dt h0
  have o8:0<n:=by
   rw[av.o];exact List.length_pos_iff.2 h0
  have vc:((n:Int)==0)=false:=(by rw[Vam];omega);have gL:=h_ gK;have R8:=h_ Dt;have Hv:=h_ hv;clear gK h0 Dt hv;go_enter Tryz.func68,Tryz.ntmps68;go_wp2_with fail;refine(Hn.o).mono ?_;rintro x w1 ⟨rfl,a7⟩;have He:=h_ (Z7b w1);go_wp2_with fail;refine(He.o).mono ?_;rintro x w2 ⟨rfl,cO,a8⟩;have aM:=a7.size;have ai:=a7.trans (a8.mono aM);have jz:=Hh.o.below ai;have mM:=Ha.o.below ai;have ve:b<w.heap.size:=Hh.o.1.lt;have FN:g<w.heap.size:=Hh.o.2.lt;have pf:Fr (only g) w w2:=Fr.of_below ai;clear a7 a8 ai He;go_wp2;go_loopw [8,19] (λ_ i wr=>∃(k:Nat) (dr:Value),k<=n/\i=.int .i64 k/\NAt wr b g (Xs (l.take k) (t0,e0)).1/\EnAt wr w1.heap.size dr (Xs (l.take k) (t0,e0)).2/\At wr A (ivs (l.map Int.ofNat))/\Fr (only g) w wr/\(∀j,dr.ownBlock=some j->w.heap.size<=j)) (λ_ i _=>(n-intOf i).toNat);case atStart=>exact⟨0,_,by omega,rfl,jz,cO,mM,pf,by simp[Value.ownBlock]⟩
  case round=>
   clear jz cO mM pf;obtain⟨k,dr,hk,rfl,nr,vh,vi,mL,rW⟩:=hrel;obtain⟨kt,kv⟩:=Z4h (l.take k) (x:=(t0,e0)) Z1q Z4f;have iy:=Z4J (l.take k) (t0,e0) (λv hv=>Hv.o v (Vcd hv));rw[show(e0.out.length)=0 from rfl,Vau] at iy;by_cases ab:k<n
   ·have bK:k<l.length:=(by rw[<-av.o];exact ab);have al:=Z8L l k bK (t0,e0);obtain⟨v,fe⟩:∃v,l.getD k 0=v:=⟨_,rfl⟩
    have jT:v<4611686018427387904:=by
     have h1:l.getD k 0=l[k]:=(by simp[List.getD,bK]);rw[<-fe,h1];exact Hv.o _ (Vak _)
    obtain⟨bA,oA,hA,ez,kR⟩:=vi.get k (.int .i64 (v:Int)) (by
     rw[Xq _ _ (by rw[Vag];exact bK)];have h1:(l.map Int.ofNat).getD k 0=((l.getD k 0:Nat):Int):=(by simp[List.getD,bK]);rw[h1,fe])
    subst hA;rw[fe] at al;generalize Xs (l.take k) (t0,e0)=X at*;obtain⟨tk,ek⟩:=X;simp only at kt kv iy nr vh;have Hc:=h_ (Z3F nr kt vh kv v jT (by omega));have aT:=h_ al;have R9:=h_ vi;have Le:=h_ rW;clear al fe nr vh kt kv iy vi rW;go_wp2_with fail;refine(Hc.o).mono ?_;rintro x w3 ⟨rfl,FO,Lf,uM,aO,mO⟩
    have aF:Fr (only g) w w3:=mL.trans' aO (λi hi hs=>by
     rcases hs with hs|hs|hs
     ·exact hs
     ·omega
     ·have:=Le.o i hs;omega)
    have zj:=mL.size;have zp:=Ha.o.keep aF (λb' o e hh=>R8.o b' o e hh)
    have vj:∀j,Lf.ownBlock=some j->w.heap.size<=j:=by
     intro j hj;rcases mO with h9|h9
     ·exact Le.o j (h9▸hj)
     ·have:=h9 j hj;omega
    clear aO mO mL R9;go_wp2;go_roundw;case rel=>exact⟨k+1,Lf,by omega,by go_num,by rw[aT.o];exact FO,by rw[aT.o];exact uM,zp,aF,vj⟩
    case measure=>simp[intOf]<;>omega
   ·have eH:k=n:=(by omega);subst eH;have ay:l.take k=l:=Vah (by rw[av.o];exact UZz);rw[ay] at vh kv iy;obtain⟨E,hE⟩:∃E,Xs l (t0,e0)=E:=⟨_,rfl⟩;rw[hE] at vh kv iy gL;have Hf:=h_ (Z1A vh kv.low (by omega))
    have fD:(efin E.2).length<=600000:=by
     unfold efin;rw[Vab,Y6];omega
    rw[<-Z0] at fD;obtain⟨s2,cV⟩:∃s2,bs (efin E.2)=s2:=⟨_,rfl⟩;rw[cV] at Hf fD;have FP:=h_ cV;clear cV hE ay vh kv iy kt nr vi;go_wp2_with fail;refine(Hf.o).mono ?_;rintro x w3 ⟨rfl,af⟩;go_wp2;go_ret;exact⟨Z0w (by rw[gL.o,<-Zg,Ld.o,FP.o]),mL.below af⟩
theorem Yw {w:World} {A:Option Addr} {l:List Nat} (ha:At w A (ivs (l.map Int.ofNat))) (n cap:Nat) (hn:n=l.length) (hl:l.length<=4096) (hv:∀v∈l,v<4611686018427387904):
  Calls Tryz.prog 47 #[.slice A n cap] w λx w'=>x=.returned (.tuple #[.string (bs (encn l)),.int .i64 0])/\Below w.heap.size w w':=by
 have Hm:=h_ (Z3r w);have av:=h_ hn;have od:n<=4096:=(by omega);have Ha:=h_ ha;have Hv:=h_ hv;have H2:=h_ hl;clear hn ha hv hl;go_enter Tryz.func47,Tryz.ntmps47;go_wp2;go_loop [5,11] (λ_ i=>∃k:Nat,k<=n/\i=.int .i64 k) (λ_ i=>(n-intOf i).toNat);case atStart=>exact⟨0,by omega,rfl⟩
 case round=>
  obtain⟨k,hk,rfl⟩:=hrel;by_cases ab:k<n
  ·have bK:k<l.length:=(by rw[<-av.o];exact ab);obtain⟨v,fe⟩:∃v,l.getD k 0=v:=⟨_,rfl⟩
   have jT:v<4611686018427387904:=by
    have h1:l.getD k 0=l[k]:=(by simp[List.getD,bK]);rw[<-fe,h1];exact Hv.o _ (Vak _)
   obtain⟨bA,oA,hA,ez,kR⟩:=Ha.o.get k (.int .i64 (v:Int)) (by
    rw[Xq _ _ (by rw[Vag];exact bK)];have h1:(l.map Int.ofNat).getD k 0=((l.getD k 0:Nat):Int):=(by simp[List.getD,bK]);rw[h1,fe])
   subst hA;have KR:¬(4611686018427387903:Int)<(v:Int):=(by omega);have bO:¬(v:Int)<0:=(by omega);clear jT fe;go_wp2;go_round;case rel=>exact⟨k+1,by omega,by go_num⟩
   case measure=>simp[intOf]<;>omega
  ·have eH:k=n:=(by omega);subst eH;go_wp2_with fail;refine(Hm.o).mono ?_;rintro x w1 ⟨b,rfl,Ra,fR,a7⟩
   have He:=h_ (ZeV fR (Ha.o.below a7) (λaz b' o hA hg=>by
    obtain⟨b2,o2,h1,h2,_⟩:=Ha.o 0 (by simp only[ivs,Vag];exact List.length_pos_iff.2 az);rw[hA] at h1;injection h1 with h1;injection h1 with h1;omega) k cap av.o H2.o Hv.o)
   go_wp2_with fail;refine(He.o).mono ?_;rintro x w2 ⟨rfl,ai⟩;go_wp2;go_returns;exact⟨rfl,a7.trans (ai.toBelow' a7.size (λj hj e=>by have:j=w.heap.size:=e;omega))⟩
theorem Zbp {t:List Nat} {d:De} (ht:TNum t) (hv:DV 0 d):TNum (ndec t d).2.1/\DV 0 (ndec t d).2.2:=by
 obtain⟨k1,k2,k3,_,_⟩:=Z4x 6 1 t d ht.1 (by rw[ht.2];decide) hv;refine⟨⟨k1,k2.trans ht.2⟩,?_⟩;unfold ndec;simp only;split
 ·exact k3
 ·split
  ·exact k3
  ·exact(Zas _ 0 _ k3).1
def nds:Nat->List Nat->De->List Int×List Nat×De
 |0,t,d=>([],t,d)
 |k+1,t,d=>((nds k t d).1++[(ndec (nds k t d).2.1 (nds k t d).2.2).1],(ndec (nds k t d).2.1 (nds k t d).2.2).2)
theorem Zbq (k:Nat):∀t d,nds (k+1) t d=((ndec t d).1::(nds k (ndec t d).2.1 (ndec t d).2.2).1,(nds k (ndec t d).2.1 (ndec t d).2.2).2):=by
 induction k with
 |zero=>intro t d;rfl
 |succ k ih=>
  intro t d;rw[nds,ih,nds];rfl
theorem Z4K (k:Nat):∀t d,(Z1p k t d).1=(nds k t d).1/\(Z1p k t d).2=(nds k t d).2.2:=by
 induction k with
 |zero=>intro t d;exact⟨rfl,rfl⟩
 |succ k ih=>
  intro t d;rw[Zbq,Z1p];have:=ih (ndec t d).2.1 (ndec t d).2.2;exact⟨by rw[this.1],this.2⟩
theorem Zlc (k:Nat) {t:List Nat} {d:De} (ht:TNum t) (hv:DV 0 d):TNum (nds k t d).2.1/\DV 0 (nds k t d).2.2:=by
 induction k with
 |zero=>exact⟨ht,hv⟩
 |succ k ih=>exact Zbp ih.1 ih.2
theorem Z0B (k:Nat) (t:List Nat) (d:De):(nds k t d).1.length=k:=by
 induction k with
 |zero=>rfl
 |succ k ih=>simp[nds,ih]
theorem d0_v (s:List UInt8):DV 0 (d0 s):=by
 have h1:(dpre s).size=4294967295:=by
  unfold dpre;rw[QM.1,QM.1,QM.1,QM.1]
 exact⟨by show Szk 0 (dpre s).size;rw[h1];exact⟨by decide,by decide⟩,(QM (d:=X9 (X9 (X9 ⟨s,0,4294967295,false,false⟩)))).2⟩
def ics (l:List Int):Array Value:=(ivs l).toArray
theorem ZhZ (l:List Int) (i:Nat) (z:Int):(ics l).setIfInBounds i (.int .i64 z)=ics (l.set i z):=by
 apply Vbj.1;simp[ics,ivs,iv,List.map_set]
theorem ZeW (n:Nat):Array.replicate n (.int .i64 0:Value)=ics (List.replicate n 0):=by
 apply Vbj.1;simp[ics,ivs,iv]
theorem Zi0 (l:List Int) (i:Nat) (h:i<l.length):(ics l)[i]? =some (.int .i64 (l.getD i 0)):=by
 have:=Xq l i h;simpa [ics] using this
def IRes (w:World) (v:Value) (l:List Int):Prop:=∃A cap,v=.slice A l.length cap/\At w A (ivs l)
theorem IRes.nil (w:World):IRes w (.slice none 0 0) []:=⟨none,0,rfl,At.nil _ _⟩
def dl (s:List UInt8) (most:Int):List Int×Nat:=
 match rd s with
 |none=>([],12)
 |some (n,z)=>if 4096<n then([],12) else if most<(n:Int) then([],2) else if n=0 then([],if z<s.length then 12 else 0)
  else if dend (nds n t0 (d0 (s.drop z))).2.2=true then((nds n t0 (d0 (s.drop z))).1,0) else([],12)
def LRes (w:World) (x:Ending) (w':World) (r:List Int×Nat):Prop:=∃v,x=.returned (.tuple #[v,.int .i64 (r.2:Int)])/\IRes w' v r.1/\Below w.heap.size w w'
theorem XL {w w':World} (e:Nat) (hb:Below w.heap.size w w'):LRes w (.returned (.tuple #[.slice none 0 0,.int .i64 (e:Int)])) w' ([],e):=⟨_,rfl,IRes.nil _,hb⟩
theorem Z3J {s:List UInt8} {n z:Nat} {most:Int} (h:rd s=some (n,z)) (hm:¬most<(n:Int)):numR (bs s) 0 most=(n,bs (s.drop z),0):=by
 unfold numR;rw[Vaf rfl,Ze,h];simp only;rw[Vad hm]
theorem Z7x {s:List UInt8} {n z:Nat} {most:Int} (h:rd s=some (n,z)) (hm:most<(n:Int)):numR (bs s) 0 most=(0,bs s,2):=by
 unfold numR;rw[Vaf rfl,Ze,h];simp only;rw[Vaf hm]
theorem Z4L {s:List UInt8} {most:Int} (h:rd s=none):numR (bs s) 0 most=(0,bs s,12):=by
 unfold numR;rw[Vaf rfl,Ze,h]
theorem Zb {w w1 w2:World} {b:Nat} (h:Below w.heap.size w w1) (hb:w.heap.size<=b) (k:Fr (only b) w1 w2):Below w.heap.size w w2:=
 h.trans (k.toBelow' h.size (λj hj e=>by have:j=b:=e;omega))
theorem Z7y {w:World} (b:Nat) (s:List UInt8) (hs:s.length<=1099511627776) (most:Int) (hd:rd s=none\/∃n z,rd s=some (n,z)/\4096<n):
  Calls Tryz.prog 142 #[.iface 112 (.pointer (some ⟨b,0,none⟩)),.string (bs s),.int .i64 4096,.int .i64 most] w λx w'=>LRes w x w' ([],12):=by
 have hN:∃e,numR (bs s) 0 4096=(0,bs s,e)/\e≠0:=by
  rcases hd with h|⟨n,z,h,h2⟩
  ·exact⟨12,Z4L h,by omega⟩
  ·exact⟨2,Z7x h (by omega),by omega⟩
 obtain⟨e,hN,he⟩:=hN;have ad:(bs s).size<=1099511627776:=(by rw[Z0];exact hs);have H1:=h_ (ZN (bs s) w)
 have H2:=h_ (λW (h:RV W w.heap.size (bs s) 0)=>by
  have:=Zi h ad 4096;rw[hN] at this;exact this)
 have az:((e:Int) !=0)=true:=(by rw[Va0];omega);clear hd hN he;generalize bs s=S at*;go_enter Tryz.func142,Tryz.ntmps142;go_wp2_with fail;refine(H1.o).mono ?_;rintro x w1 ⟨rfl,cF,a7⟩;go_wp2_with fail;refine(H2.o _ cF).mono ?_;rintro x w2 ⟨rfl,bP,ai⟩;have H3:=h_ (Za bP);have a8:=Zb a7 UZz ai;clear cF bP a7 ai;go_wp2_with fail;refine(H3.o).mono ?_;rintro x w3 ⟨rfl,rfl⟩;go_wp2;go_returns;exact XL 12 a8
theorem ZeX {w:World} (b:Nat) (s:List UInt8) (hs:s.length<=1099511627776) (most:Int) {n z:Nat} (hd:rd s=some (n,z)) (hn:n<=4096) (hm:most<(n:Int)):
  Calls Tryz.prog 142 #[.iface 112 (.pointer (some ⟨b,0,none⟩)),.string (bs s),.int .i64 4096,.int .i64 most] w λx w'=>LRes w x w' ([],2):=by
 have hN:=Z3J (most:=4096) hd (by omega);have ad:(bs s).size<=1099511627776:=(by rw[Z0];exact hs);have H1:=h_ (ZN (bs s) w)
 have H2:=h_ (λW (h:RV W w.heap.size (bs s) 0)=>by
  have:=Zi h ad 4096;rw[hN] at this;exact this)
 clear hd hN;generalize bs s=S at*;generalize bs (s.drop z)=S2 at*;go_enter Tryz.func142,Tryz.ntmps142;go_wp2_with fail;refine(H1.o).mono ?_;rintro x w1 ⟨rfl,cF,a7⟩;go_wp2_with fail;refine(H2.o _ cF).mono ?_;rintro x w2 ⟨rfl,bP,ai⟩;have H3:=h_ (Za bP);have a8:=Zb a7 UZz ai;clear cF bP a7 ai;go_wp2_with fail;refine(H3.o).mono ?_;rintro x w3 ⟨rfl,rfl⟩;go_wp2;go_returns;exact XL 2 a8
theorem Zbr {w:World} (b:Nat) (s:List UInt8) (hs:s.length<=1099511627776) (most:Int) {z:Nat} (hd:rd s=some (0,z)) (hm:¬most<0) (er:Nat) (Lg:er=if z<s.length then 12 else 0):
  Calls Tryz.prog 142 #[.iface 112 (.pointer (some ⟨b,0,none⟩)),.string (bs s),.int .i64 4096,.int .i64 most] w λx w'=>LRes w x w' ([],er):=by
 have hN:=Z3J (most:=4096) hd (by omega);have ad:(bs s).size<=1099511627776:=(by rw[Z0];exact hs);have H1:=h_ (ZN (bs s) w)
 have H2:=h_ (λW (h:RV W w.heap.size (bs s) 0)=>by
  have:=Zi h ad 4096;rw[hN] at this;exact this)
 have hE:Hid (endR (bs (s.drop z)) 0=er):=h_ (by
  rw[Lg];unfold endR;rw[Z0,Va2];by_cases h:z<s.length
  ·rw[Vaf h,Vaf ⟨rfl,by omega⟩]
  ·rw[Vad h,Vad (by omega)])
 clear hd hN Lg;generalize bs s=S at*;generalize bs (s.drop z)=S2 at*;go_enter Tryz.func142,Tryz.ntmps142;go_wp2_with fail;refine(H1.o).mono ?_;rintro x w1 ⟨rfl,cF,a7⟩;go_wp2_with fail;refine(H2.o _ cF).mono ?_;rintro x w2 ⟨rfl,bP,ai⟩;have H3:=h_ (Za bP);have H4:=h_ (Z3s bP);have a8:=Zb a7 UZz ai;clear cF bP a7 ai;go_wp2_with fail;refine(H3.o).mono ?_;rintro x w3 ⟨rfl,rfl⟩;go_wp2_with fail;refine(H4.o).mono ?_;rintro x w4 ⟨rfl,aF⟩;go_wp2;go_returns;rw[hE.o];exact XL _ (Zb a8 UZz aF)
theorem ZeY (k:Nat) (t:List Nat) (d:De):nds (k+1) t d=((nds k t d).1++[(ndec (nds k t d).2.1 (nds k t d).2.2).1],(ndec (nds k t d).2.1 (nds k t d).2.2).2):=rfl
theorem Zi1 (L:List Int) (n:Nat) (v:Int) (h:L.length<n):(L++List.replicate (n-L.length) 0).set L.length v=(L++[v])++List.replicate (n-(L.length+1)) 0:=by
 rw[Va8 _ _ UZz,Va7,show n-L.length=(n-(L.length+1))+1 from by omega,Vbg,List.set_cons_zero];simp
def Zld (w:World) (g:Nat) (D:List Int×List Nat×De) (x:Ending) (w':World):Prop:=
 ∃v,x=.returned (.tuple #[v,.int .i64 (endV D.2.2)])/\(dend D.2.2=true->IRes w' v D.1)/\(dend D.2.2=false->v=.slice none 0 0)/\Fr (only g) w w'
theorem Z0a (T:List UInt8):ZC (bs T) 0 ((bs T).size:Int)=(bs T,bs [],0):=by
 unfold ZC;rw[Vaf rfl,Vad (by omega),Vad (by omega),Vav,Ze,Z0,Vbx,Vcm]
theorem Zbs {w:World} {b g:Nat} (Du:NAt w b g t0) (s:List UInt8) (hs:s.length<=1099511627776) (most:Int) {n z:Nat} (hd:rd s=some (n,z)) (hn:n<=4096) (o8:0<n) (hm:¬most<(n:Int)):
  Calls Tryz.prog 142 #[.iface 112 (.pointer (some ⟨b,0,none⟩)),.string (bs s),.int .i64 4096,.int .i64 most] w λx w'=>Zld w g (nds n t0 (d0 (s.drop z))) x w':=by
 have hN:=Z3J (most:=4096) hd (by omega);have ad:(bs s).size<=1099511627776:=(by rw[Z0];exact hs);have H1:=h_ (ZN (bs s) w)
 have H2:=h_ (λW (h:RV W w.heap.size (bs s) 0)=>by
  have:=Zi h ad 4096;rw[hN] at this;exact this)
 obtain⟨T,hT⟩:∃T,s.drop z=T:=⟨_,rfl⟩;rw[hT] at H2⊢;have rX:(bs T).size<=1099511627776:=(by rw[Z0,<-hT,Va2];omega);have ay:=Z0a T
 have H5:=h_ (λW (h:RV W w.heap.size (bs T) 0)=>by
  have:=Zu h rX ((bs T).size:Int);rw[ay] at this;exact this)
 have H6:=h_ (Z7f T);have vc:((n:Int)==0)=false:=(by rw[Vam];omega);have lZ:=d0_v T;clear hd hN hT ay;generalize bs s=S at*;obtain⟨S2,kH⟩:∃S2,bs T=S2:=⟨_,rfl⟩;rw[kH] at H2 H5 H6 rX;have FQ:=h_ Du;have xT:=h_ lZ;clear kH Du lZ;go_enter Tryz.func142,Tryz.ntmps142;go_wp2_with fail;refine(H1.o).mono ?_;rintro x w1 ⟨rfl,cF,a7⟩;go_wp2_with fail;refine(H2.o _ cF).mono ?_;rintro x w2 ⟨rfl,bP,ai⟩;have H3:=h_ (Za bP);have H4:=h_ (Zt bP (by omega));have a8:=Zb a7 UZz ai;have fG:=h_ bP;clear cF bP a7 ai;go_wp2_with fail;refine(H3.o).mono ?_;rintro x w3 ⟨rfl,rfl⟩;go_wp2_with fail;refine(H4.o).mono ?_;rintro x w3 ⟨rfl,rfl⟩;go_wp2_with fail;refine(H5.o _ fG.o).mono ?_;rintro x w3 ⟨rfl,eU,aO⟩;have af:=Zb a8 UZz aO;clear aO eU H3 H4 fG a8;go_wp2_with fail;refine(H6.o _).mono ?_;rintro x w4 ⟨rfl,vj,ax⟩;have zj:=af.size;have FE:=vj.lt;have aH:=af.trans (ax.mono zj);have Dv:=FQ.o.below aH;have bG:=Yg (P:=Tryz.prog) 31 3 _ _ Tryz.underlying31 ZQ rfl (n:Int) n rfl (by omega) (by omega) w4;rw[ZeW] at bG;have zq:=h_ Dv;have Rb:=h_ vj;clear af ax Dv vj;go_wp2;have ve:b<w.heap.size:=FQ.o.1.lt;have FN:g<w.heap.size:=FQ.o.2.lt;go_loopw [14,40] (λ_ i wr=>∃k:Nat,k<=n/\i=.int .i64 k/\NAt wr b g (nds k t0 (d0 T)).2.1/\DAt wr w3.heap.size (nds k t0 (d0 T)).2.2/\Bk wr w4.heap.size 3 (ics ((nds k t0 (d0 T)).1++List.replicate (n-k) 0))/\Fr (only g) w wr) (λ_ i _=>(n-intOf i).toNat);case atStart=>exact⟨0,by omega,rfl,⟨zq.o.1.alloc _,zq.o.2.alloc _⟩,Bk.alloc Rb.o _,Bk.new _ _ _,(Fr.of_below aH).alloc _⟩
 case round=>
  obtain⟨k,hk,rfl,nr,rW,aD,mL⟩:=hrel;obtain⟨kt,kv⟩:=Zlc k Z1q xT.o;have iy:=Z0B k t0 (d0 T);by_cases ab:k<n
  ·have al:=ZeY k t0 (d0 T);generalize nds k t0 (d0 T)=X at*;obtain⟨L,tk,dk⟩:=X;simp only at kt kv iy nr rW aD al;have dx:=Zi1 L n (ndec tk dk).1 (by omega);rw[iy] at dx;have Hc:=h_ (Z3G nr kt rW kv);have cw:=nr.onl rW;have zr:w4.heap.size≠g:=(by omega);have zt:w4.heap.size≠w3.heap.size:=(by omega);obtain⟨y,hy⟩:∃y,(ndec tk dk).1=y:=⟨_,rfl⟩;rw[hy] at dx Hc al;have aT:=h_ al;have aW:=h_ dx;have kE:=h_ aD;have Lh:=h_ (And.intro zr zt);clear al dx hy nr rW kt kv aD bG cw zr zt;go_wp2_with fail;refine(Hc.o).mono ?_;rintro x w6 ⟨rfl,Dw,Li,qZ⟩
   have rY:=kE.o.fr qZ (λhs=>by
    rcases hs with hs|hs
    ·exact Lh.o.1 hs
    ·exact Lh.o.2 hs)
   have fJ:(L++List.replicate (n-k) 0).length=n:=(by rw[Vab,Vaw];omega);obtain⟨y0,tw⟩:∃y0:Int,w6.cell? ⟨w4.heap.size,k,none⟩=some (.int .i64 y0):=⟨_,by rw[rY.cell,Zi0 _ _ (by omega)]⟩;have zu:=rY.frozen k;have aj:=rY.put k (.int .i64 y);rw[ZhZ,aW.o] at aj;have Lj:NAt (w6.setCell ⟨w4.heap.size,k,none⟩ (.int .i64 y)) b g (ndec tk dk).2.1:=Dw.fr (S:=only w4.heap.size) ((Fr.refl (only w4.heap.size) w6).setCell (p:=⟨w4.heap.size,k,none⟩) (.inl rfl) _) (λe=>by have:b=w4.heap.size:=e;omega) (λe=>by have:g=w4.heap.size:=e;omega);have Ll:DAt (w6.setCell ⟨w4.heap.size,k,none⟩ (.int .i64 y)) w3.heap.size (ndec tk dk).2.2:=Li.fr (S:=only w4.heap.size) ((Fr.refl (only w4.heap.size) w6).setCell (p:=⟨w4.heap.size,k,none⟩) (.inl rfl) _) (λe=>by have:w3.heap.size=w4.heap.size:=e;omega)
   have xU:Fr (only g) w (w6.setCell ⟨w4.heap.size,k,none⟩ (.int .i64 y)):=(mL.trans' qZ (λi hi hs=>by
    rcases hs with hs|hs
    ·exact hs
    ·omega)).setCell (p:=⟨w4.heap.size,k,none⟩) (.inr (by show w.heap.size<=w4.heap.size;omega)) _
   have aA:=h_ aj;have Re:=h_ Lj;have Rf:=h_ Ll;have FR:=h_ xU;clear aj Lj Ll xU Dw Li qZ rY mL kE fJ;go_wp2;go_roundw;case rel=>exact⟨k+1,by omega,by go_num,by rw[aT.o];exact Re.o,by rw[aT.o];exact Rf.o,by rw[aT.o];exact aA.o,FR.o⟩
   case measure=>simp[intOf]<;>omega
  ·have eH:k=n:=(by omega);subst eH;rw[Va7,List.replicate_zero,Va3] at aD;have dT:=h_ (Zen rW);have ak:=aD.at_;have av:=h_ iy;obtain⟨D,hD⟩:∃D,nds k t0 (d0 T)=D:=⟨_,rfl⟩;rw[hD] at dT ak av;have HD:=h_ hD;have bD:=h_ ak;clear hD aD nr rW kt kv bG ak iy;have bz:dend D.2.2=true\/dend D.2.2=false:=(by cases dend D.2.2<;>simp);rcases bz with hc|hc
   ·have hz:=Zap hc;rw[hz] at dT;have Hc:=h_ hc;have Hz:=h_ hz;clear hc hz;go_wp2_with fail;refine(dT.o).mono ?_;rintro x w6 ⟨rfl,rfl⟩;go_wp2;go_returns;rw[HD.o];refine⟨.slice (some ⟨w4.heap.size,0,none⟩) k k,by rw[Hz.o];rfl,λ_=>⟨_,k,by rw[av.o],bD.o⟩,(λh=>by rw[Hc.o] at h;cases h),mL⟩
   ·have hz:=Z2A hc;rw[hz] at dT;have Hc:=h_ hc;have Hz:=h_ hz;clear hc hz;go_wp2_with fail;refine(dT.o).mono ?_;rintro x w6 ⟨rfl,rfl⟩;go_wp2;go_returns;rw[HD.o];exact⟨.slice none 0 0,by rw[Hz.o];rfl,(λh=>by rw[Hc.o] at h;cases h),λ_=>rfl,mL⟩
theorem Zi2 (s:List UInt8) (most:Int):decn s most=if ∀v∈(dl s most).1,0<=v then dl s most else([],12):=by
 unfold decn dl;match rd s with
 |none=>simp
 |some (n,z)=>
  simp only;by_cases h1:4096<n
  ·rw[Vaf h1,Vaf h1];simp
  ·rw[Vad h1,Vad h1];by_cases h2:most<(n:Int)
   ·rw[Vaf h2,Vaf h2];simp
   ·rw[Vad h2,Vad h2];by_cases h3:n=0
    ·rw[Vaf h3,Vaf h3];simp
    ·rw[Vad h3,Vad h3];obtain⟨e1,e2⟩:=Z4K n t0 (d0 (s.drop z));rw[e1,e2];by_cases h4:dend (nds n t0 (d0 (s.drop z))).2.2=true
     ·rw[Vaf h4];by_cases h5:∀v∈(nds n t0 (d0 (s.drop z))).1,0<=v
      ·rw[Vaf ⟨h4,h5⟩,Vaf h5]
      ·rw[Vad (λh=>h5 h.2),Vad h5]
     ·rw[Vad (λh=>h4 h.1),Vad h4];simp
def Zke (w:World) (g:Nat) (r:List Int×Nat) (x:Ending) (w':World):Prop:=∃v,x=.returned (.tuple #[v,.int .i64 (r.2:Int)])/\IRes w' v r.1/\Fr (only g) w w'
theorem ZeZ {w:World} {b g:Nat} (Du:NAt w b g t0) (s:List UInt8) (hs:s.length<=1099511627776) (most:Int):
  Calls Tryz.prog 142 #[.iface 112 (.pointer (some ⟨b,0,none⟩)),.string (bs s),.int .i64 4096,.int .i64 most] w λx w'=>Zke w g (dl s most) x w':=by
 have conv:∀ {x w' e},LRes w x w' ([],e)->dl s most=([],e)->Zke w g (dl s most) x w':=by
  rintro x w' e ⟨v,h1,h2,h3⟩ h;rw[h];exact⟨v,h1,h2,Fr.of_below h3⟩
 match hd:rd s with
 |none=>
  refine(Z7y b s hs most (.inl hd)).mono ?_;intro x w' h;exact conv h (by unfold dl;rw[hd])
 |some (n,z)=>
  by_cases h1:4096<n
  ·refine(Z7y b s hs most (.inr ⟨n,z,hd,h1⟩)).mono ?_;intro x w' h;exact conv h (by unfold dl;rw[hd];simp only;rw[Vaf h1])
  ·by_cases h2:most<(n:Int)
   ·refine(ZeX b s hs most hd (by omega) h2).mono ?_;intro x w' h;exact conv h (by unfold dl;rw[hd];simp only;rw[Vad h1,Vaf h2])
   ·by_cases h3:n=0
    ·subst h3;refine(Zbr b s hs most hd (by omega) _ rfl).mono ?_;intro x w' h;exact conv h (by unfold dl;rw[hd];simp only;rw[Vad h1,Vad h2];simp only[if_true])
    ·refine(Zbs Du s hs most hd (by omega) (by omega) h2).mono ?_;rintro x w' ⟨v,hx,ht,hf,fa⟩
     have e:dl s most=if dend (nds n t0 (d0 (s.drop z))).2.2=true then((nds n t0 (d0 (s.drop z))).1,0) else([],12):=by
      unfold dl;rw[hd];simp only;rw[Vad h1,Vad h2,Vad h3]
     rw[e];by_cases hc:dend (nds n t0 (d0 (s.drop z))).2.2=true
     ·rw[Vaf hc];rw[Zap hc] at hx;exact⟨v,hx,ht hc,fa⟩
     ·have dI:dend (nds n t0 (d0 (s.drop z))).2.2=false:=(by simpa using hc);rw[Vad hc];rw[Z2A dI] at hx;have:=hf dI;subst this;exact⟨_,hx,IRes.nil _,fa⟩
theorem LRes.of {w w':World} {x:Ending} {r:List Int×Nat} {v:Value} (h1:x=.returned (.tuple #[v,.int .i64 (r.2:Int)])) (h2:IRes w' v r.1) (h3:Below w.heap.size w w'):LRes w x w' r:=⟨v,h1,h2,h3⟩
theorem ZP {w:World} (s:List UInt8) (hs:s.length<=1099511627776) (most:Int):
  Calls Tryz.prog 88 #[.string (bs s),.int .i64 most] w λx w'=>LRes w x w' (decn s most):=by
 have H1:=h_ (Z3r w);have H2:=h_ (λW b g (h:NAt W b g t0)=>ZeZ h s hs most);have FT:=h_ (Zi2 s most)
 have fI:(dl s most).1.length<=9223372036854775807:=by
  unfold dl;split
  ·simp
  ·split
   ·simp
   ·split
    ·simp
    ·split
     ·split<;>simp
     ·split
      ·rw[Z0B];omega
      ·simp
 generalize dl s most=r at*;obtain⟨l,er⟩:=r;simp only at FT fI;generalize bs s=S at*;go_enter Tryz.func88,Tryz.ntmps88;go_wp2_with fail;refine(H1.o).mono ?_;rintro x w1 ⟨b,rfl,Ra,fR,a7⟩;go_wp2_with fail;refine(H2.o _ _ _ fR).mono ?_;rintro x w2 ⟨v,rfl,⟨A,cap,rfl,ak⟩,ai⟩;have a8:Below w.heap.size w w2:=a7.trans (ai.toBelow' a7.size (λj hj e=>by have:j=w.heap.size:=e;omega));simp only at ak;have bD:=h_ ak;clear ak ai a7 fR;go_wp2;go_loop [9,20] (λ_ i=>∃k:Nat,k<=l.length/\i=.int .i64 k/\Hid (∀v∈l.take k,0<=v)) (λ_ i=>(l.length-intOf i).toNat);case atStart=>exact⟨0,by omega,rfl,h_ (by simp)⟩
 case round=>
  obtain⟨k,hk,rfl,ar⟩:=hrel;by_cases ab:k<l.length
  ·obtain⟨v,hv⟩:∃v,l.getD k 0=v:=⟨_,rfl⟩;have cY:l[k]=v:=(by rw[<-hv];simp[List.getD,ab]);obtain⟨bA,oA,hA,ez,kR⟩:=bD.o.get k (.int .i64 v) (by rw[Xq _ _ ab,hv]);subst hA;by_cases zv:v<0
   ·have dw:¬∀u∈l,0<=u:=λh=>(by have:=h v (cY▸Vak _);omega);have Hr:Hid (decn s most=([],12)):=h_ (by rw[FT.o,Vad dw]);clear dw hv cY;go_wp2;go_returns;rw[Hr.o];exact XL 12 a8
   ·have df:Hid (∀u∈l.take (k+1),0<=u):=h_ (by
     intro u hu;rw[Vac ab,cY] at hu;rcases Va9.1 hu with h|h
     ·exact ar.o u h
     ·rw[Vax] at h;omega)
    clear hv cY;go_wp2;go_round;case rel=>exact⟨k+1,by omega,by go_num,df⟩
    case measure=>simp[intOf]<;>omega
  ·have df:∀u∈l,0<=u:=by
    have:=ar.o
    rwa [Vah (by omega)] at this
   have Hr:Hid (decn s most=(l,er)):=h_ (by rw[FT.o,Vaf df]);clear df;go_wp2;go_returns;rw[Hr.o];exact LRes.of rfl ⟨A,cap,rfl,bD.o⟩ a8
open Wv.Ru
def rowp (j:Nat):List Nat:=List.range j++List.replicate (4096-j) 0
theorem Zf0 (j:Nat) (h:j<4096):(rowp j).set j j=rowp (j+1):=by
 unfold rowp;rw[Va8 _ _ (by simp),Vbu,Va7,show 4096-j=(4096-(j+1))+1 from by omega,Vbg,List.set_cons_zero,Vcr,Vay];rfl
theorem Z64 (j:Nat) (h:j<=4096):(rowp j).length=4096:=by simp[rowp];omega
theorem Zf1:rowp 4096=r0:=by unfold rowp r0;rw[Va7,List.replicate_zero,Va3]
theorem Z1K (n:Nat):nc (List.replicate n 0)=Array.replicate n (.int .i64 0):=by
 apply Vbj.1;simp[nc]
theorem Zbt (w:World):
  Calls Tryz.prog 171 #[] w λx w'=>x=.returned (.slice (some ⟨w.heap.size,0,none⟩) 4096 4096)/\Bk w' w.heap.size 3 (nc r0)/\Below w.heap.size w w':=by
 have bG:=Yg (P:=Tryz.prog) 31 3 _ _ Tryz.underlying31 ZQ rfl 4096 4096 rfl (by omega) (by omega) w;rw[<-Z1K] at bG;have h0:List.replicate 4096 0=rowp 0:=(by unfold rowp;rw[List.range_zero,Vbz]);rw[h0] at bG;clear h0;go_enter Tryz.func171,Tryz.ntmps171;go_wp2;go_loopw [2,6] (λ_ i wr=>∃j:Nat,j<=4096/\i=.int .i64 j/\Bk wr w.heap.size 3 (nc (rowp j))/\Below w.heap.size w wr) (λ_ i _=>(4096-intOf i).toNat);case atStart=>exact⟨0,by omega,rfl,Bk.new _ _ _,(Vae _ _).alloc UZz _⟩
 case round=>
  obtain⟨j,hj,rfl,aD,hf⟩:=hrel;by_cases ab:j<4096
  ·have hc:=aD.cell j;rw[X0 _ _ (by rw[Z64 j hj];exact ab)] at hc;have fc:=aD.frozen j;have hp:=aD.put j (.int .i64 (j:Int));rw[QD,Zf0 j ab] at hp;have Hp:=h_ hp;have bQ:(j:Int)<4096:=(by omega);clear hp aD bG ab;go_wp2;go_roundw;case rel=>exact⟨j+1,by omega,by go_num,Hp.o,hf.setCell (p:=⟨w.heap.size,j,none⟩) UZz _⟩
   case measure=>simp[intOf]<;>omega
  ·have ma:j=4096:=(by omega);subst ma;rw[Zf1] at aD;clear bG;go_wp2;go_ret;exact⟨rfl,aD,hf⟩
theorem Z8M {w:World} {g:Nat} {r:List Nat} (h:Bk w g 3 (nc r)) (hr:r.length=4096) (n:Nat) (hn:n∈r):
  Calls Tryz.prog 128 #[.slice (some ⟨g,0,none⟩) 4096 4096,.int .i64 (n:Int)] w λx w'=>x=.returned (.int .i64 (ix r n:Nat))/\w=w':=by
 have H:=h_ h;have Hn:=h_ hn;have Hr:=h_ hr;have hle:ix r n<4096:=(by rw[<-hr];exact Z5O.2 hn);clear h hn hr;go_enter Tryz.func128,Tryz.ntmps128;go_wp2;go_loop [5,8] (λ_ i=>∃j:Nat,j<=ix r n/\i=.int .i64 j) (λ_ i=>(4096-intOf i).toNat);case atStart=>exact⟨0,by omega,rfl⟩
 case round=>
  obtain⟨j,hj,rfl⟩:=hrel;have hc:=H.o.cell j;rw[X0 _ _ (by rw[Hr.o];omega)] at hc;have tM:(j:Int)<4096:=(by omega);obtain⟨y,hy⟩:∃y,r.getD j 0=y:=⟨_,rfl⟩
  have Dx:r[j]? =some y:=by
   have cN:j<r.length:=(by rw[Hr.o];omega);rw[Van cN,<-hy];simp[List.getD,cN]
  rw[hy] at hc;by_cases ab:j<ix r n
  ·have az:((n:Int)==(y:Int))=false:=by
    rw[Vam];intro e;have:n=y:=(by omega);exact Z9W j ab (this▸Dx)
   clear hy Dx;go_wp2;go_round;case rel=>exact⟨j+1,by omega,by go_num⟩
   case measure=>simp[intOf]<;>omega
  ·have FU:j=ix r n:=by omega
   have az:((n:Int)==(y:Int))=true:=by
    rw[beq_iff_eq];have:=ix_get? Hn.o;rw[<-FU,Dx] at this;injection this with this;omega
   have Rg:=h_ FU;clear hy Dx FU;go_wp2;go_ret;exact⟨Zw (by rw[Rg.o]),rfl⟩
theorem Z8N {w:World} {g:Nat} {r:List Nat} (h:Bk w g 3 (nc r)) (hr:r.length=4096) (n:Nat) (hn:n∈r):
  Calls Tryz.prog 127 #[.slice (some ⟨g,0,none⟩) 4096 4096,.int .i64 (n:Int)] w λx w'=>x=.returned (.tuple #[.int .i64 (ix r n:Nat),.int .i64 (ix r n:Nat)])/\w=w':=by
 have H:=h_ (Z8M h hr n hn);go_enter Tryz.func127,Tryz.ntmps127;go_wp2_with fail;refine(H.o).mono ?_;rintro x w1 ⟨rfl,rfl⟩;go_wp2;go_ret2;exact⟨rfl,rfl⟩
theorem Z4M {w:World} {g:Nat} {r:List Nat} (h:Bk w g 3 (nc r)) (hr:r.length=4096) (n:Nat) (hn:n<4096):
  Calls Tryz.prog 201 #[.slice (some ⟨g,0,none⟩) 4096 4096,.int .i64 (n:Int)] w λx w'=>x=.returned (.tuple #[.int .i64 (r.getD n 0:Nat),.int .i64 (n:Int)])/\w=w':=by
 have hc:=h.cell n;rw[X0 _ _ (by rw[hr];exact hn)] at hc;have jz:(n:Int)<4096:=(by omega);obtain⟨y,hy⟩:∃y,r.getD n 0=y:=⟨_,rfl⟩;rw[hy] at hc⊢;clear h hr hn hy;go_enter Tryz.func201,Tryz.ntmps201;go_wp2;go_ret2;exact⟨rfl,rfl⟩
end Go.Proofs.YtchokmkfobandaaGreatDoor
namespace Wv
open Go Go.RowKit
theorem Zbu {S:Nat->Prop} {a w:World} {g:Nat} (h:Fr S a w) (hg:S g) (cs:Array Value):Fr S a (w.setRow g cs):=
 h.trans ⟨rfl,rfl,rfl,by simp[World.setRow],λk hk hn=>setRow_other w g k cs (λe=>hn (e▸hg))⟩
end Wv
namespace Go.Proofs.YtchokmkfobandaaGreatDoor
open Go.RowKit Go.Proofs Wv Wv.Vi Wv.Rc Wv.Mo Wv.Ru
theorem Z8O (r:List Nat) (h:0<r.length):Xa r 0=r:=by
 unfold Xa;match r with
 |a::t=>rfl
theorem Zbv (r:List Nat) (p:Nat) (h:p<r.length):(r.take 1++r.take p++r.drop (1+p)).set 0 (r.getD p 0)=Xa r p:=by
 unfold Xa;match r,h with
 |a::t,h=>
  rw[List.eraseIdx_eq_take_drop_succ,Vdf 1 p];rfl
theorem Z65 (t:List Nat):(nc t).toList=t.map (λn:Nat=>(Value.int .i64 (n:Int))):=by simp[nc]
theorem Zkf:(Tryz.prog.info? 3).map (·.size)=some 1:=by kernel_rfl
theorem Zbw {w:World} {g:Nat} {r:List Nat} (h:Bk w g 3 (nc r)) (hr:r.length=4096):
  Calls Tryz.prog 172 #[.slice (some ⟨g,0,none⟩) 4096 4096,.int .i64 0] w λx w'=>x=.returned (.slice (some ⟨g,0,none⟩) 4096 4096)/\Bk w' g 3 (nc (Xa r 0))/\Fr (only g) w w':=by
 have hc:=h.cell 0;rw[X0 _ _ (by rw[hr];omega)] at hc;have zu:=h.frozen 0;have aj:=h.put 0 (.int .i64 ((r.getD 0 0:Nat):Int))
 have dx:r.set 0 (r.getD 0 0)=Xa r 0:=by
  rw[Z8O r (by omega)];match r,hr with
  |a::t,_=>rfl
 rw[QD,dx] at aj;obtain⟨y,hy⟩:∃y,r.getD 0 0=y:=⟨_,rfl⟩;have eS:IntKind.i64.wrap 1=1:=(by rw[IntWalk.i64_in _ (by omega)]);rw[hy] at hc aj;have ag:=run_copy_none (P:=Tryz.prog) w.drew 31 31 3 3 (some ⟨g,0,none⟩) (some ⟨g,0,none⟩) 0 0 0 0 Tryz.underlying31 Zkf rfl;have aA:=h_ aj;clear h aj dx hy;go_enter Tryz.func172,Tryz.ntmps172;go_wp2;go_region;go_wp2;go_ret;exact⟨rfl,by have:=aA.o.drew;exact this,((Fr.refl (only g) w).setCell (p:=⟨g,0,none⟩) (.inl rfl) _).drew⟩
theorem Zf2 {w : World} {g : Nat} {r : List Nat} (h : Bk w g 3 (nc r)) (hr : r.length = 4096) (p : Nat) (hp : p < 4096) (Dy : 0 < p) :
    Calls Tryz.prog 172 #[.slice (some ⟨g,0,none⟩) 4096 4096,.int .i64 (p:Int)] w λx w'=>x=.returned (.slice (some ⟨g,0,none⟩) 4096 4096)/\Bk w' g 3 (nc (Xa r p))/\Fr (only g) w w':=by
  have hc:=h.cell p;rw[X0 _ _ (by rw[hr];omega)] at hc;have dB:(p:Int)<4096:=(by omega);have eA:IntKind.i64.wrap ((p:Int)+1)=(p:Int)+1:=(by rw[IntWalk.i64_in _ (by omega)]);have r7:(1:Int)<=(p:Int):=(by omega);have VB:(p:Int)+1<=4096:=(by omega);have VC:(0:Int)<=(p:Int)+1:=(by omega);have VD:max ((p:Int)+1) 0=(p:Int)+1:=(by omega);have VE:(1:Int)<=(p:Int)+1:=(by omega);have VF:((p:Int)+1).toNat=p+1:=(by omega);have VG:¬p=0:=(by omega);have Rh:(0:Int)<=(p:Int):=(by omega);have Ri:(p:Int)<=4096:=(by omega)
  have ag := run_copy_row (P := Tryz.prog) w.drew 31 31 3 3 g 1 p p ⟨g, 0, none⟩ p p (nc r) 3 ((r.take p).map (λn : Nat => (Value.int .i64 (n : Int)))) Tryz.underlying31 Zkf h (by simp; omega) (λj v hv => by
      rw[Go.WideShapes.add_plain,Vbo];have h1:=h.cell j;show w.cell? _=_;rw[h1,<-Array.getElem?_toList,Z65];rw[Vc8,List.getElem?_take] at hv;split at hv
      · exact hv
      · cases hv) (by simp[nc];omega) (λv hv=>by
      obtain⟨n,_,rfl⟩:=Va6.1 hv;rfl)
  obtain⟨C,hC⟩:∃C,((nc r).toList.take 1++(r.take p).map (λn:Nat=>(Value.int .i64 (n:Int)))++(nc r).toList.drop (1+((r.take p).map (λn:Nat=>(Value.int .i64 (n:Int)))).length)).toArray=C:=⟨_,rfl⟩;rw[hC] at ag
  have Lm:C=nc (r.take 1++r.take p++r.drop (1+p)):=by
    rw[<-hC];apply Vbj.1;rw[Z65,Z65,Vag,Vau,show min p r.length=p from by omega];simp[Vc8,List.map_drop]
  have aD:Bk (w.drew.setRow g C) g 3 C:=setRow_heap w.drew g _ C _ (0,0) h;have fa:Fr (only g) w (w.drew.setRow g C):=Zbu ((Fr.refl (only g) w).drew) rfl C;generalize w.drew.setRow g C=W at*;obtain⟨y,hy⟩:∃y,r.getD p 0=y:=⟨_,rfl⟩;rw[Lm] at aD;have aj:=aD.put 0 (.int .i64 (y:Int));have rZ:=Zbv r p (by omega);rw[hy] at rZ hc;rw[QD,rZ] at aj
  obtain⟨y0,bO⟩:∃y0:Int,W.cell? ⟨g,0,none⟩=some (.int .i64 y0):=⟨_,by
    rw[aD.cell,X0 _ _ (by rw[Vab,Vab,Vau];omega)]⟩
  have zu:=aD.frozen 0
  have hlen:(goInt ((r.take p).map (λn:Nat=>(Value.int .i64 (n:Int)))).length)=.int .i64 (p:Int):=by
    rw[Vag,Vau,show min p r.length=p from by omega];rfl
  rw[hlen] at ag;have aA:=h_ aj;have xV:=h_ fa;clear h hy hC Lm aD fa aj rZ hlen hr;go_enter Tryz.func172,Tryz.ntmps172;go_wp2;go_region;go_wp2;go_ret;exact⟨rfl,aA.o,xV.o.setCell (p:=⟨g,0,none⟩) (.inl rfl) _⟩
theorem Z7z {w:World} {g:Nat} {r:List Nat} (h:Bk w g 3 (nc r)) (hr:r.length=4096) (p:Nat) (hp:p<4096):
  Calls Tryz.prog 172 #[.slice (some ⟨g,0,none⟩) 4096 4096,.int .i64 (p:Int)] w λx w'=>x=.returned (.slice (some ⟨g,0,none⟩) 4096 4096)/\Bk w' g 3 (nc (Xa r p))/\Fr (only g) w w':=by
 rcases Vbm p with rfl|h0
 ·exact Zbw h hr
 ·exact Zf2 h hr p hp h0
def rowF:List Nat->List Nat->List Nat
 |r,[]=>r
 |r,n::t=>rowF (Xa r (ix r n)) t
def rowU:List Nat->List Nat->List Nat
 |r,[]=>r
 |r,n::t=>rowU (Xa r n) t
theorem Z66 (l:List Nat) (n:Nat):∀r,Y7 r (l++[n])=Y7 r l++[ix (rowF r l) n]/\rowF r (l++[n])=Xa (rowF r l) (ix (rowF r l) n):=by
 induction l with
 |nil=>intro r;exact⟨rfl,rfl⟩
 |cons a l ih=>
  intro r;obtain⟨h1,h2⟩:=ih (Xa r (ix r a));exact⟨by rw[Vbs,Y7,h1];rfl,by rw[Vbs,rowF,h2];rfl⟩
theorem Z3K (l:List Nat) (n:Nat):∀r,ZY r (l++[n])=ZY r l++[(rowU r l).getD n 0]/\rowU r (l++[n])=Xa (rowU r l) n:=by
 induction l with
 |nil=>intro r;exact⟨rfl,rfl⟩
 |cons a l ih=>
  intro r;obtain⟨h1,h2⟩:=ih (Xa r a);exact⟨by rw[Vbs,ZY,h1];rfl,by rw[Vbs,rowU,h2];rfl⟩
theorem Zi3 (l:List Nat):∀r,(∀n∈l,n∈r)->(rowF r l).length=r.length/\∀m,m∈r->m∈rowF r l:=by
 induction l with
 |nil=>intro r _;exact⟨rfl,λm h=>h⟩
 |cons a l ih=>
  intro r h;have h1:=Z5O.2 (h a Vap);obtain⟨a1,a2⟩:=ih (Xa r (ix r a)) (λn hn=>QY h1 (h n (Var _ hn)));exact⟨a1.trans (Xf h1),λm hm=>a2 m (QY h1 hm)⟩
theorem Zi4 (l:List Nat):∀r,(∀n∈l,n<r.length)->(rowU r l).length=r.length:=by
 induction l with
 |nil=>intro r _;rfl
 |cons a l ih=>
  intro r h;have h1:=h a Vap;exact(ih (Xa r a) (λn hn=>by rw[Xf h1];exact h n (Var _ hn))).trans (Xf h1)
theorem Z7A (L:List Nat) (n v:Nat) (h:L.length<n):(L++List.replicate (n-L.length) 0).set L.length v=(L++[v])++List.replicate (n-(L.length+1)) 0:=by
 rw[Va8 _ _ UZz,Va7,show n-L.length=(n-(L.length+1))+1 from by omega,Vbg,List.set_cons_zero];simp
theorem ZgQ (l:List Nat):(nc l).toList=ivs (l.map Int.ofNat):=by simp[nc,ivs,iv]
theorem Z2G (l:List Nat) (k:Nat) (h:k<l.length):l.take (k+1)=l.take k++[l.getD k 0]:=by
 rw[Vac h];simp[List.getD,h]
def NRes (w:World) (x:Ending) (w':World) (r:List Nat×Nat):Prop:=∃v,x=.returned (.tuple #[v,.int .i64 (r.2:Int)])/\IRes w' v (r.1.map Int.ofNat)/\Below w.heap.size w w'
theorem Qs {w w':World} (e:Nat) (hb:Below w.heap.size w w'):NRes w (.returned (.tuple #[.slice none 0 0,.int .i64 (e:Int)])) w' ([],e):=⟨_,rfl,IRes.nil _,hb⟩
theorem Z2q {w:World} {A:Option Addr} {l:List Int} (ha:At w A (ivs l)) (n cap:Nat) (hn:n=l.length) (hm:n<=9223372036854775807) (hb:chkn l≠0):
  Calls Tryz.prog 126 #[.slice A n cap,.func (.func 127) #[] #[]] w λx w'=>NRes w x w' ([],chkn l):=by
 have Ha:=h_ ha;have av:=h_ hn;have dq:Below w.heap.size w w:=Vae _ _;by_cases h9:4096<n
 ·have hc:Hid (chkn l=9):=h_ (by unfold chkn;rw[Vaf (by omega)]);have zw:(4096:Int)<(n:Int):=(by omega);clear ha hn hb h9;go_enter Tryz.func126,Tryz.ntmps126;go_wp2;go_returns;rw[hc.o];exact Qs 9 dq
 ·have hc:Hid (chkn l=2):=h_ (by
   unfold chkn at hb⊢;rw[Vad (by omega)] at hb⊢;by_cases h:∀n∈l,0<=n/\n<4096
   ·rw[Vaf h] at hb;exact absurd rfl hb
   ·rw[Vad h])
  have au:Hid (¬∀n∈l,0<=n/\n<4096):=h_ (by
   intro h;apply hb;exact Z1u (by omega) h)
  have zw:¬(4096:Int)<(n:Int):=(by omega);clear ha hn hb h9;go_enter Tryz.func126,Tryz.ntmps126;go_wp2;go_loop [7,19] (λ_ i=>∃k:Nat,k<=n/\i=.int .i64 k/\Hid (∀v∈l.take k,0<=v/\v<4096)) (λ_ i=>(n-intOf i).toNat);case atStart=>exact⟨0,by omega,rfl,h_ (by simp)⟩
  case round=>
   obtain⟨k,hk,rfl,ar⟩:=hrel;by_cases ab:k<n
   ·have bK:k<l.length:=(by rw[<-av.o];exact ab);obtain⟨v,hv⟩:∃v,l.getD k 0=v:=⟨_,rfl⟩;have cY:l[k]=v:=(by rw[<-hv];simp[List.getD,bK]);obtain⟨bA,oA,hA,ez,kR⟩:=Ha.o.get k (.int .i64 v) (by rw[Xq _ _ bK,hv]);subst hA;by_cases bH:0<=v/\v<4096
    ·obtain⟨o1,o2⟩:=bH;have o3:¬v<0:=(by omega);have o4:¬4096<=v:=(by omega)
     have df:Hid (∀u∈l.take (k+1),0<=u/\u<4096):=h_ (by
      intro u hu;rw[Vac bK,cY] at hu;rcases Va9.1 hu with h|h
      ·exact ar.o u h
      ·rw[Vax] at h;omega)
     clear hv cY;go_wp2;go_round;case rel=>exact⟨k+1,by omega,by go_num,df⟩
     case measure=>simp[intOf]<;>omega
    ·clear hv cY;by_cases o1:v<0
     ·clear bH;go_wp2;go_returns;rw[hc.o];exact Qs 2 dq
     ·have o2:4096<=v:=(by omega);clear bH;go_wp2;go_returns;rw[hc.o];exact Qs 2 dq
   ·exfalso;apply au.o;have:=ar.o
    rwa [Vah (by rw[<-av.o];omega)] at this
theorem Z3L {w:World} {A:Option Addr} {l:List Nat} (ha:At w A (ivs (l.map Int.ofNat))) (n cap:Nat) (hn:n=l.length) (hl:l.length<=4096) (hv:∀v∈l,v<4096):
  Calls Tryz.prog 126 #[.slice A n cap,.func (.func 127) #[] #[]] w λx w'=>NRes w x w' (Y7 r0 l,0):=by
 have Ha:=h_ ha;have av:=h_ hn;have Hv:=h_ hv;have bo:n<=4096:=(by omega);have zw:¬(4096:Int)<(n:Int):=(by omega);have gg:=h_ (Zbt w);have nk:=h_ (λ(v:Nat) (h:v<4096)=>show v∈r0 from List.mem_range.2 h);have Dz:=h_ (show r0.length=4096 from Vbu);clear ha hn hv hl;go_enter Tryz.func126,Tryz.ntmps126;go_wp2;go_loop [7,19] (λ_ i=>∃k:Nat,k<=n/\i=.int .i64 k) (λ_ i=>(n-intOf i).toNat);case atStart=>exact⟨0,by omega,rfl⟩
 case round=>
  obtain⟨k,hk,rfl⟩:=hrel;by_cases ab:k<n
  ·have bK:k<l.length:=(by rw[<-av.o];exact ab);obtain⟨v,fe⟩:∃v,l.getD k 0=v:=⟨_,rfl⟩
   have kS:v<4096:=by
    have h1:l.getD k 0=l[k]:=(by simp[List.getD,bK]);rw[<-fe,h1];exact Hv.o _ (Vak _)
   obtain⟨bA,oA,hA,ez,kR⟩:=Ha.o.get k (.int .i64 (v:Int)) (by
    rw[Xq _ _ (by rw[Vag];exact bK)];have h1:(l.map Int.ofNat).getD k 0=((l.getD k 0:Nat):Int):=(by simp[List.getD,bK]);rw[h1,fe])
   subst hA;have o3:¬(v:Int)<0:=(by omega);have o4:¬(4096:Int)<=(v:Int):=(by omega);clear fe kS;go_wp2;go_round;case rel=>exact⟨k+1,by omega,by go_num⟩
   case measure=>simp[intOf]<;>omega
  ·have eH:k=n:=(by omega);subst eH;go_wp2_with fail;refine(gg.o).mono ?_;rintro x w1 ⟨rfl,cF,a7⟩;have aM:=a7.size;have bG:=Yg (P:=Tryz.prog) 31 3 _ _ Tryz.underlying31 ZQ rfl (k:Int) k rfl (by omega) (by omega) w1;rw[<-Z1K] at bG;have fj:=Ha.o.below a7;have dc:=cF.lt;have bP:=cF.alloc (.cells (nc (List.replicate k 0)) 3);have a8:=a7.alloc aM (.cells (nc (List.replicate k 0)) 3);have mM:=fj.alloc (.cells (nc (List.replicate k 0)) 3);have dD:=Bk.new w1 3 (nc (List.replicate k 0));have Hs:=h_ (show w.heap.size<w1.heap.size/\w.heap.size≠w1.heap.size from⟨by omega,by omega⟩);clear cF a7 fj;go_wp2;go_loopw [8,10,11,12,13,36] (λs8 _ _ _ _ i wr=>∃j:Nat,j<=k/\i=.int .i64 j/\s8=.slice (some ⟨w.heap.size,0,none⟩) 4096 4096/\Bk wr w.heap.size 3 (nc (rowF r0 (l.take j)))/\Bk wr w1.heap.size 3 (nc (Y7 r0 (l.take j)++List.replicate (k-j) 0))/\At wr A (ivs (l.map Int.ofNat))/\Below w.heap.size w wr) (λ_ _ _ _ _ i _=>(k-intOf i).toNat);case atStart=>exact⟨0,by omega,rfl,rfl,bP,dD,mM,a8⟩
   case round=>
    clear bP dD mM a8 bG;obtain⟨j,hj,rfl,rfl,aX,bw,ak,hf⟩:=hrel;have gM:∀m∈l.take j,m<4096:=λm hm=>Hv.o m (Vcd hm);by_cases bQ:j<k
    ·have bK:j<l.length:=(by rw[<-av.o];exact bQ);obtain⟨v,fe⟩:∃v,l.getD j 0=v:=⟨_,rfl⟩
     have kS:v<4096:=by
      have h1:l.getD j 0=l[j]:=(by simp[List.getD,bK]);rw[<-fe,h1];exact Hv.o _ (Vak _)
     obtain⟨bA,oA,hA,ez,kR⟩:=ak.get j (.int .i64 (v:Int)) (by
      rw[Xq _ _ (by rw[Vag];exact bK)];have h1:(l.map Int.ofNat).getD j 0=((l.getD j 0:Nat):Int):=(by simp[List.getD,bK]);rw[h1,fe])
     subst hA;obtain⟨ns,r8⟩:=Z66 (l.take j) v r0;rw[<-fe,<-Z2G l j bK,fe] at ns r8;have fD:=YN (l.take j) r0;rw[Vau,Nat.min_eq_left (by omega)] at fD;obtain⟨FW,xM⟩:=Zi3 (l.take j) r0 (λm hm=>nk.o m (gM m hm));have fq:=FW.trans Dz.o;have kT:=xM v (nk.o v kS);obtain⟨R,hR⟩:∃R,rowF r0 (l.take j)=R:=⟨_,rfl⟩;obtain⟨O,hO⟩:∃O,Y7 r0 (l.take j)=O:=⟨_,rfl⟩;rw[hR] at ns r8 aX fq kT;rw[hO] at ns bw fD;have aT:=h_ (Z8N aX fq v kT);have fh:ix R v<4096:=(by rw[<-fq];exact Z5O.2 kT);obtain⟨pl,pg⟩:∃pl,ix R v=pl:=⟨_,rfl⟩;rw[pg] at ns r8 aT fh;clear pg;have vk:=h_ ns;have vn:=h_ r8;have ph:=h_ aX;have dx:=Z7A O k pl (by omega);rw[fD] at dx;have aW:=h_ dx;have aj:=bw.put j (.int .i64 ((pl:Nat):Int));rw[QD,aW.o] at aj;have fS:(O++List.replicate (k-j) 0).length=k:=(by rw[Vab,Vaw];omega);obtain⟨y0,bO⟩:∃y0:Int,wr.cell? ⟨w1.heap.size,j,none⟩=some (.int .i64 y0):=⟨_,by rw[bw.cell,X0 _ _ (by omega)]⟩;have zu:=bw.frozen j;have eI:=aX.off (p:=⟨w1.heap.size,j,none⟩) (Hs.o.2) (.int .i64 ((pl:Nat):Int));have aO:=hf.setCell (p:=⟨w1.heap.size,j,none⟩) (Nat.le_of_lt Hs.o.1) (.int .i64 ((pl:Nat):Int));have FX:=h_ (Z7z eI fq pl (by exact fh));have aA:=h_ aj;have gN:=h_ aO;clear ns r8 dx aj fS aX bw hR hO fe fD gM eI aO ak hf fq kT;go_wp2_with fail;refine(aT.o).mono ?_;rintro x w3 ⟨rfl,rfl⟩;go_wp2_with fail;refine(FX.o).mono ?_;rintro x w4 ⟨rfl,gO,aF⟩;have pj:=aA.o.fr aF (λe=>Hs.o.2 e.symm);have ax:Below w.heap.size w w4:=gN.o.trans (aF.toBelow' gN.o.size (λi hi e=>by have:i=w.heap.size:=e;omega));have zp:=Ha.o.below ax;go_wp2;go_roundw;case rel=>exact⟨j+1,by omega,by go_num,rfl,by rw[vn.o];exact gO,by rw[vk.o];exact pj,zp,ax⟩
     case measure=>simp[intOf]<;>omega
    ·have qT:j=k:=(by omega);subst qT;have ay:l.take j=l:=Vah (by rw[<-av.o];exact UZz);rw[ay,Va7,List.replicate_zero,Va3] at bw;have bL:=h_ bw.at_;have fD:=h_ (YN l r0);clear aX bw ak ay gM;go_wp2;go_returns;have h9:=bL.o;rw[ZgQ] at h9;exact⟨.slice (some ⟨w1.heap.size,0,none⟩) j j,rfl,⟨some ⟨w1.heap.size,0,none⟩,j,by rw[Vag,fD.o,<-av.o],h9⟩,hf⟩
end Go.Proofs.YtchokmkfobandaaGreatDoor
