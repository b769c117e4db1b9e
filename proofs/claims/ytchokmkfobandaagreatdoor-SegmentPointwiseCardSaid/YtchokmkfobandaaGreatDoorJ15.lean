import Derived.Test.YtchokmkfobandaaGreatDoorJ09
import Derived.Test.YtchokmkfobandaaGreatDoorJ10
import Derived.Test.YtchokmkfobandaaGreatDoorLShelf
import Derived.Test.YtchokmkfobandaaGreatDoorJ11
import Derived.Laws.CopyOwn
set_option linter.unusedVariables false
set_option linter.unusedSimpArgs false
set_option maxRecDepth 100000
set_option maxHeartbeats 8000000
namespace Go.Proofs.YtchokmkfobandaaGreatDoor
open Go.RowKit Go.Proofs Wv Wv.Vi Wv.Rc Wv.Mo
theorem Zfh (n:Nat) (h:0<n):blen n=blen (n/2)+1:=by
 unfold blen;rw[if_neg (by omega)];by_cases h1:n/2=0
 ·rw[if_pos h1,Nat.log2_def,if_neg (by omega)]
 ·rw[if_neg h1,Nat.log2_def,if_pos (by omega)]
theorem bitLen_eq (x:Nat) (h:x<2 ^ 64):Go.Lib.bitLen x=blen x:=by
  have key:∀f y,y<2 ^ f->Go.Lib.bitLenAux f y=blen y:=by
    intro f;induction f with
    | zero => intro y hy; have : y = 0 := by simpa using hy
              subst this;rfl
    |succ f ih=>
      intro y hy;unfold Go.Lib.bitLenAux;split
      · rename_i h0;subst h0;rfl
      · rename_i h0
        rw[ih (y/2) (by rw[Nat.pow_succ] at hy;omega),Zfh y (by omega)];omega
  exact key _ x h
theorem Z7C (v:Nat) (h:v<=9223372036854775807) (w:World):
  Calls Tryz.prog 178 #[.int .u64 (v:Int)] w λx w'=>x=.returned (.int .i64 (blen v:Nat))/\w=w':=by
 refine(Tryz.bits_Len (v:Int) w (by omega) (by omega)).mono ?_;rintro x w' ⟨rfl,hw⟩;exact⟨Z0w (by rw[Int.toNat_natCast,bitLen_eq _ (by omega)]),hw.symm⟩
theorem Z7D {w:World} {b g eb:Nat} {dv:Value} {t:List Nat} {e:En} (h:NAt w b g t) (ht:TNum t) (he:EnAt w eb dv e) (hv:Val 0 e) (v:Nat) (jF:v<4611686018427387904) (hl:e.out.length<=800000):
  Calls Tryz.prog 134 #[.pointer (some ⟨b,0,none⟩),.pointer (some ⟨eb,0,none⟩),.int .i64 (v:Int)] w λx w'=>x=.returned (.tuple #[])/\NAt w' b g (nenc v (t,e)).1/\∃cD,EnAt w' eb cD (nenc v (t,e)).2/\Fr (Z50 g eb dv) w w'/\Z0k w dv cD:=by
 have hb:=Z4u jF;have Hl:=h_ (Z7C v (by omega));obtain⟨n,hn⟩:∃n,blen v=n:=⟨_,rfl⟩;have ay:nenc v (t,e)=((tenc 6 n 1 t e).1,if 2<=n then edir (n-1) v (tenc 6 n 1 t e).2 else(tenc 6 n 1 t e).2):=(by unfold nenc;rw[hn]);rw[hn] at Hl hb;obtain⟨k1,k2,k3⟩:=Z3k 6 n 1 ht.1 (by rw[ht.2];decide) hv;have Ht:=h_ (Zi7 h ht he hv n (by omega) hl)
 have hlen:(tenc 6 n 1 t e).2.out.length<=e.out.length+12:=by
  have key:∀(j m:Nat) (t:List Nat) (e:En),(tenc j n m t e).2.out.length<=e.out.length+2*j:=by
   intro j;induction j with
   |zero=>intro m t e;exact Nat.le_refl _
   |succ j ih=>
    intro m t e;rw[tenc];have h1:=ih (2*m+n/2 ^ j % 2) (t.set m (Z13 (t.getD m 0) (n/2 ^ j % 2))) (ebit (t.getD m 0) (n/2 ^ j % 2) e);have h2:=Z40 (t.getD m 0) (n/2 ^ j % 2) e;omega
  have:=key 6 1 t e;omega
 have ur:=h.foot he;generalize tenc 6 n 1 t e=D at*;obtain⟨t2,e2⟩:=D;simp only at ay Ht k3 hlen;have uu:=h_ ay;have Kw:¬(4611686018427387903:Int)<(v:Int):=(by omega);have bN:¬(v:Int)<0:=(by omega);clear ay hn k1 k2 h he ht hv ur;by_cases h2:2<=n
 ·rw[if_pos h2] at uu;have jj:(2:Int)<=(n:Int):=(by omega);have i1:(n:Int)-1=((n-1:Nat):Int):=(by omega);obtain⟨q,hq⟩:∃q,n-1=q:=⟨_,rfl⟩;rw[hq] at i1 uu;have ET:q<=62:=(by omega);clear hq;go_enter Tryz.func134,Tryz.ntmps134;go_wp2_with fail;refine(Hl.o _).mono ?_;rintro x w1 ⟨rfl,rfl⟩;go_wp2_with fail;refine(Ht.o).mono ?_;rintro x w1 ⟨rfl,fF,lK,eB,aB,gd⟩;have Hd:=h_ (Z9P eB k3 q v ET (by omega) (by omega));have hs:=aB.size;have bZ:=fF.foot eB;go_wp2_with fail;refine(Hd.o).mono ?_;rintro x w2 ⟨rfl,CG,cF,ah,dz⟩;go_wp2;go_end0;rw[uu.o];exact⟨rfl,fF.fr ah bZ.1 bZ.2,CG,cF,Z7m aB ah gd,gd.trans dz hs⟩
 ·rw[if_neg h2] at uu;have jj:¬(2:Int)<=(n:Int):=(by omega);clear h2;go_enter Tryz.func134,Tryz.ntmps134;go_wp2_with fail;refine(Hl.o _).mono ?_;rintro x w1 ⟨rfl,rfl⟩;go_wp2_with fail;refine(Ht.o).mono ?_;rintro x w1 ⟨rfl,fF,lK,eB,aB,gd⟩;go_wp2;go_end0;rw[uu.o];exact⟨rfl,fF,lK,eB,aB,gd⟩
theorem ZnJ (n x:Nat) (hn:n<=61) (hx:x<2 ^ n):bits .or .i64 (IntKind.i64.wrap (2 ^ n)) (x:Int)=((2 ^ n+x:Nat):Int):=by
 have h1:(2:Nat) ^ n<=2 ^ 61:=Nat.pow_le_pow_right (by omega) hn;have e:((2:Int) ^ n)=((2 ^ n:Nat):Int):=(by rw[Int.natCast_pow];rfl);rw[e,IntWalk.i64_in _ (by omega),Zek _ _ (by omega) (by omega),nat_join n _ _ (by rw[Nat.mod_self]) hx]
theorem ZcC {n:Nat} (d:De) (h:n<2):nval n d=n:=by unfold nval;rw[if_pos h]
theorem Zfi (d:De):nval 63 d= -1:=rfl
theorem ZiD {n:Nat} (d:De) (h:¬n<2) (h2:n≠63):nval n d=((2 ^ (n-1)+(ddir (n-1) 0 d).1:Nat):Int):=by unfold nval;rw[if_neg h,if_neg h2]
theorem Zly (t:List Nat) (d:De) (n:Nat) (t2:List Nat) (d2:De) (h:tdec 6 1 t d=(n+64,t2,d2)):
  ndec t d=(nval n d2,t2,if n<2 then d2 else if n=63 then d2 else(ddir (n-1) 0 d2).2):=by
 unfold ndec;rw[h];simp only[Nat.add_sub_cancel]
theorem Z7E {w:World} {b g eb:Nat} {t:List Nat} {d:De} (h:NAt w b g t) (ht:TNum t) (he:DAt w eb d) (hv:DV 0 d):
  Calls Tryz.prog 224 #[.pointer (some ⟨b,0,none⟩),.pointer (some ⟨eb,0,none⟩)] w λx w'=>x=.returned (.int .i64 (ndec t d).1)/\NAt w' b g (ndec t d).2.1/\DAt w' eb (ndec t d).2.2/\Fr (Z6h g eb) w w':=by
 have Ht:=Zi8 h ht he hv;obtain⟨k1,k2,k3,k4,k5⟩:=Z8x 6 1 t d ht.1 (by rw[ht.2];decide) hv;have heq:=Zly t d;generalize tdec 6 1 t d=D at*;obtain⟨m,t2,d2⟩:=D;simp only at Ht k3 k4 k5;obtain⟨n,rfl⟩:∃n,m=n+64:=⟨m-64,by omega⟩;have heq:=heq n t2 d2 rfl;rw[Nat.add_sub_cancel] at Ht;have Ht:=h_ Ht;have EU:=h_ heq;have PA:n<64:=(by omega);clear k1 k2 k4 k5 heq h ht he hv;by_cases h2:n<2
 ·have e1:=EU.o;rw[if_pos h2,ZcC d2 h2] at e1;have E:=h_ e1;have hz:n=0\/n=1:=(by omega);clear e1 h2;rcases hz with rfl|rfl
  all_goals
   go_enter Tryz.func224,Tryz.ntmps224;go_wp2_with fail;refine(Ht.o).mono ?_;rintro x w1 ⟨rfl,fF,jX,aB⟩;go_wp2;go_ret;rw[E.out];exact⟨rfl,fF,jX,aB⟩
 ·have aA:((n:Int)==0)=false:=(by rw[beq_eq_false_iff_ne];omega);have a7:((n:Int)==1)=false:=(by rw[beq_eq_false_iff_ne];omega);by_cases dT:n=63
  ·have e1:=EU.o;rw[if_neg h2,if_pos dT] at e1;subst dT;rw[Zfi] at e1;have E:=h_ e1;clear e1 h2;go_enter Tryz.func224,Tryz.ntmps224;go_wp2_with fail;refine(Ht.o).mono ?_;rintro x w1 ⟨rfl,fF,jX,aB⟩;go_wp2;go_ret;rw[E.out];exact⟨rfl,fF,jX,aB⟩
  ·have PB:((n:Int)==63)=false:=(by rw[beq_eq_false_iff_ne];omega);have e1:=EU.o;rw[if_neg h2,if_neg dT,ZiD d2 h2 dT] at e1;have E:=h_ e1;obtain⟨q,hq⟩:∃q,n-1=q:=⟨_,rfl⟩;rw[hq] at E;have EV:q<=61:=(by omega);have i1:(n:Int)-1=(q:Int):=(by omega);have i2:IntKind.i64.wrap (q:Int)=(q:Int):=(by rw[IntWalk.i64_in _ (by omega)]);have xg:0<=(q:Int):=(by omega);have hx:=(Zem q 0 d2 k3).2;rw[Nat.zero_add,Nat.one_mul] at hx;have rj:=ZnJ q (ddir q 0 d2).1 EV hx;have Es:=h_ rj;clear e1 h2 dT hq hx rj;go_enter Tryz.func224,Tryz.ntmps224;go_wp2_with fail;refine(Ht.o).mono ?_;rintro x w1 ⟨rfl,fF,jX,aB⟩;have Hd:=h_ (λW (hW:DAt W eb d2)=>Z9Q hW k3 q (by omega));have bZ:=fF.onl jX;go_wp2;go_region_with ((go_at_call 253;refine(Hd.o _ jX.drew).mono ?_;rintro x w2 ⟨rfl,mq,ah⟩))
   all_goals
    go_wp2;go_ret;rw[E.out];exact⟨Z0w Es.o,fF.drew.fr ah bZ.1 bZ.2,mq,aB.drew.trans' ah (λi hi e=>.inr e)⟩
theorem ZcD (l:List Nat) (v:Nat):∀x:List Nat×En,Z2s (l++[v]) x=nenc v (Z2s l x):=by
 induction l with
 |nil=>intro x;rfl
 |cons a l ih=>intro x;exact ih _
theorem ZcE (l:List Nat) (k:Nat) (h:k<l.length) (x:List Nat×En):Z2s (l.take (k+1)) x=nenc (l.getD k 0) (Z2s (l.take k) x):=by
 rw[List.take_succ_eq_append_getElem h,ZcD];congr 1;simp[List.getD,h]
theorem Z7F (n:Nat) (j:Nat):∀(m:Nat) (t:List Nat) (e:En),(tenc j n m t e).2.out.length<=e.out.length+2*j:=by
 induction j with
 |zero=>intro m t e;exact Nat.le_refl _
 |succ j ih=>
  intro m t e;rw[tenc];have h1:=ih (2*m+n/2 ^ j % 2) (t.set m (Z13 (t.getD m 0) (n/2 ^ j % 2))) (ebit (t.getD m 0) (n/2 ^ j % 2) e);have h2:=Z40 (t.getD m 0) (n/2 ^ j % 2) e;omega
theorem Z7G (v:Nat) (hv:v<4611686018427387904) (x:List Nat×En):(nenc v x).2.out.length<=x.2.out.length+134:=by
 have hb:=Z4u hv;have h1:=Z7F (blen v) 6 1 x.1 x.2;unfold nenc;simp only;split
 ·have:=Zb8 (blen v-1) v (tenc 6 (blen v) 1 x.1 x.2).2;omega
 ·omega
theorem Z8J (l:List Nat):∀(x:List Nat×En),(∀v∈l,v<4611686018427387904)->(Z2s l x).2.out.length<=x.2.out.length+134*l.length:=by
 induction l with
 |nil=>intro x _;exact Nat.le_refl _
 |cons v l ih=>
  intro x h;have h1:=ih (nenc v x) (λu hu=>h u (List.mem_cons_of_mem _ hu));have h2:=Z7G v (h v List.mem_cons_self) x;rw[Z2s,List.length_cons];omega
def ivs (l:List Int):List Value:=l.map iv
theorem Z2p (l:List Int) (i:Nat) (h:i<l.length):(ivs l)[i]? =some (.int .i64 (l.getD i 0)):=by
 have:l.getD i 0=l[i]:=(by simp[List.getD,h]);rw[this];simp[ivs,iv,List.getElem?_eq_getElem h]
theorem ZiE {w:World} {b g:Nat} {A:Option Addr} {l:List Nat} (h:NAt w b g t0) (ha:At w A (ivs (l.map Int.ofNat))) (CH:l≠[]->∀b' o,A=some ⟨b',o,none⟩->b'≠g) (n cap:Nat) (hn:n=l.length) (hl:l.length<=4096) (hv:∀v∈l,v<4611686018427387904):
  Calls Tryz.prog 68 #[.iface 112 (.pointer (some ⟨b,0,none⟩)),.slice A n cap] w λx w'=>x=.returned (.string (bs (encn l)))/\Fr (only g) w w':=by
 have Hn:=Z0g (n:Int) (by omega) (by omega) w;rw[Int.toNat_natCast,hn] at Hn;have rv:=kof9 l.length;rw[<-Z00] at rv;have gw:encn l=num l.length++if l=[] then[] else efin (Z2s l (t0,e0)).2:=rfl
 generalize aJ:bs (num l.length)=s1 at*;have Hn:=h_ Hn;have KN:=h_ aJ;have Hh:=h_ h;have Ha:=h_ ha;have aq:=h_ hn;have nP:n<=4096:=(by omega);rw[<-hn] at Hn;clear aJ h ha hn;by_cases h0:l=[]
 ·rw[if_pos h0,List.append_nil] at gw;have mo:n=0:=(by rw[aq.o,h0];rfl);subst mo;have gx:=h_ gw;clear gw h0;go_enter Tryz.func68,Tryz.ntmps68;go_wp2_with fail;refine(Hn.o).mono ?_;rintro x w1 ⟨rfl,a7⟩;go_wp2;go_ret;exact⟨Z4w (by rw[gx.o,KN.o]),Fr.of_below a7⟩
 ·rw[if_neg h0] at gw;have CH:=CH h0
  have mo:0<n:=by
   rw[aq.o];exact List.length_pos_iff.2 h0
  have yF:((n:Int)==0)=false:=(by rw[beq_eq_false_iff_ne];omega);have gx:=h_ gw;have PC:=h_ CH;have Hv:=h_ hv;clear gw h0 CH hv;go_enter Tryz.func68,Tryz.ntmps68;go_wp2_with fail;refine(Hn.o).mono ?_;rintro x w1 ⟨rfl,a7⟩;have He:=h_ (Zb7 w1);go_wp2_with fail;refine(He.o).mono ?_;rintro x w2 ⟨rfl,cF,a8⟩;have aJ:=a7.size;have ah:=a7.trans (a8.mono aJ);have jj:=Hh.o.below ah;have mj:=Ha.o.below ah;have uv:b<w.heap.size:=Hh.o.1.lt;have EW:g<w.heap.size:=Hh.o.2.lt;have oN:Fr (only g) w w2:=Fr.of_below ah;clear a7 a8 ah He;go_wp2;go_loopw [8,19] (λ_ i wr=>∃(k:Nat) (dr:Value),k<=n/\i=.int .i64 k/\NAt wr b g (Z2s (l.take k) (t0,e0)).1/\EnAt wr w1.heap.size dr (Z2s (l.take k) (t0,e0)).2/\At wr A (ivs (l.map Int.ofNat))/\Fr (only g) w wr/\(∀j,dr.ownBlock=some j->w.heap.size<=j)) (λ_ i _=>(n-intOf i).toNat);case atStart=>exact⟨0,_,by omega,rfl,jj,cF,mj,oN,by simp[Value.ownBlock]⟩
  case round=>
   clear jj cF mj oN;obtain⟨k,dr,hk,rfl,mU,uw,ux,mi,ry⟩:=hrel;obtain⟨kt,kv⟩:=Z8h (l.take k) (x:=(t0,e0)) Z5n Z8f;have ie:=Z8J (l.take k) (t0,e0) (λv hv=>Hv.o v (List.mem_of_mem_take hv));rw[show(e0.out.length)=0 from rfl,List.length_take] at ie;by_cases ab:k<n
   ·have bD:k<l.length:=(by rw[<-aq.o];exact ab);have au:=ZcE l k bD (t0,e0);obtain⟨v,eP⟩:∃v,l.getD k 0=v:=⟨_,rfl⟩
    have jF:v<4611686018427387904:=by
     have h1:l.getD k 0=l[k]:=(by simp[List.getD,bD]);rw[<-eP,h1];exact Hv.o _ (List.getElem_mem _)
    obtain⟨bA,oA,hA,ec,ko⟩:=ux.get k (.int .i64 (v:Int)) (by
     rw[Z2p _ _ (by rw[List.length_map];exact bD)];have h1:(l.map Int.ofNat).getD k 0=((l.getD k 0:Nat):Int):=(by simp[List.getD,bD]);rw[h1,eP])
    subst hA;rw[eP] at au;generalize Z2s (l.take k) (t0,e0)=X at*;obtain⟨tk,ek⟩:=X;simp only at kt kv ie mU uw;have Hc:=h_ (Z7D mU kt uw kv v jF (by omega));have aR:=h_ au;have PD:=h_ ux;have KO:=h_ ry;clear au eP mU uw kt kv ie ux ry;go_wp2_with fail;refine(Hc.o).mono ?_;rintro x w3 ⟨rfl,EX,KP,u9,aL,mr⟩
    have aG:Fr (only g) w w3:=mi.trans' aL (λi hi hs=>by
     rcases hs with hs|hs|hs
     ·exact hs
     ·omega
     ·have:=KO.o i hs;omega)
    have yA:=mi.size;have yG:=Ha.o.keep aG (λb' o e hh=>PC.o b' o e hh)
    have uy:∀j,KP.ownBlock=some j->w.heap.size<=j:=by
     intro j hj;rcases mr with h9|h9
     ·exact KO.o j (h9▸hj)
     ·have:=h9 j hj;omega
    clear aL mr mi PD;go_wp2;go_roundw;case rel=>exact⟨k+1,KP,by omega,by go_num,by rw[aR.o];exact EX,by rw[aR.o];exact u9,yG,aG,uy⟩
    case measure=>simp[intOf]<;>omega
   ·have ef:k=n:=(by omega);subst ef;have ax:l.take k=l:=List.take_of_length_le (by rw[aq.o];exact Nat.le_refl _);rw[ax] at uw kv ie;obtain⟨E,hE⟩:∃E,Z2s l (t0,e0)=E:=⟨_,rfl⟩;rw[hE] at uw kv ie gx;have Hf:=h_ (Z5x uw kv.low (by omega))
    have fk:(efin E.2).length<=600000:=by
     unfold efin;rw[List.length_append,Z16];omega
    rw[<-Z00] at fk;obtain⟨s2,cO⟩:∃s2,bs (efin E.2)=s2:=⟨_,rfl⟩;rw[cO] at Hf fk;have EY:=h_ cO;clear cO hE ax uw kv ie kt mU ux;go_wp2_with fail;refine(Hf.o).mono ?_;rintro x w3 ⟨rfl,ae⟩;go_wp2;go_ret;exact⟨Z4w (by rw[gx.o,<-Z0f,KN.o,EY.o]),mi.below ae⟩
theorem Z1s {w:World} {A:Option Addr} {l:List Nat} (ha:At w A (ivs (l.map Int.ofNat))) (n cap:Nat) (hn:n=l.length) (hl:l.length<=4096) (hv:∀v∈l,v<4611686018427387904):
  Calls Tryz.prog 47 #[.slice A n cap] w λx w'=>x=.returned (.tuple #[.string (bs (encn l)),.int .i64 0])/\Below w.heap.size w w':=by
 have Hm:=h_ (Z7p w);have aq:=h_ hn;have nP:n<=4096:=(by omega);have Ha:=h_ ha;have Hv:=h_ hv;have H2:=h_ hl;clear hn ha hv hl;go_enter Tryz.func47,Tryz.ntmps47;go_wp2;go_loop [5,11] (λ_ i=>∃k:Nat,k<=n/\i=.int .i64 k) (λ_ i=>(n-intOf i).toNat);case atStart=>exact⟨0,by omega,rfl⟩
 case round=>
  obtain⟨k,hk,rfl⟩:=hrel;by_cases ab:k<n
  ·have bD:k<l.length:=(by rw[<-aq.o];exact ab);obtain⟨v,eP⟩:∃v,l.getD k 0=v:=⟨_,rfl⟩
   have jF:v<4611686018427387904:=by
    have h1:l.getD k 0=l[k]:=(by simp[List.getD,bD]);rw[<-eP,h1];exact Hv.o _ (List.getElem_mem _)
   obtain⟨bA,oA,hA,ec,ko⟩:=Ha.o.get k (.int .i64 (v:Int)) (by
    rw[Z2p _ _ (by rw[List.length_map];exact bD)];have h1:(l.map Int.ofNat).getD k 0=((l.getD k 0:Nat):Int):=(by simp[List.getD,bD]);rw[h1,eP])
   subst hA;have Kw:¬(4611686018427387903:Int)<(v:Int):=(by omega);have bN:¬(v:Int)<0:=(by omega);clear jF eP;go_wp2;go_round;case rel=>exact⟨k+1,by omega,by go_num⟩
   case measure=>simp[intOf]<;>omega
  ·have ef:k=n:=(by omega);subst ef;go_wp2_with fail;refine(Hm.o).mono ?_;rintro x w1 ⟨b,rfl,PE,fF,a7⟩
   have He:=h_ (ZiE fF (Ha.o.below a7) (λay b' o hA hg=>by
    obtain⟨b2,o2,h1,h2,_⟩:=Ha.o 0 (by simp only[ivs,List.length_map];exact List.length_pos_iff.2 ay);rw[hA] at h1;injection h1 with h1;injection h1 with h1;omega) k cap aq.o H2.o Hv.o)
   go_wp2_with fail;refine(He.o).mono ?_;rintro x w2 ⟨rfl,ah⟩;go_wp2;go_returns;exact⟨rfl,a7.trans (ah.toBelow' a7.size (λj hj e=>by have:j=w.heap.size:=e;omega))⟩
theorem Zfj {t:List Nat} {d:De} (ht:TNum t) (hv:DV 0 d):TNum (ndec t d).2.1/\DV 0 (ndec t d).2.2:=by
 obtain⟨k1,k2,k3,_,_⟩:=Z8x 6 1 t d ht.1 (by rw[ht.2];decide) hv;refine⟨⟨k1,k2.trans ht.2⟩,?_⟩;unfold ndec;simp only;split
 ·exact k3
 ·split
  ·exact k3
  ·exact(Zem _ 0 _ k3).1
def nds:Nat->List Nat->De->List Int×List Nat×De
 |0,t,d=>([],t,d)
 |k+1,t,d=>((nds k t d).1++[(ndec (nds k t d).2.1 (nds k t d).2.2).1],(ndec (nds k t d).2.1 (nds k t d).2.2).2)
theorem Zfk (k:Nat):∀t d,nds (k+1) t d=((ndec t d).1::(nds k (ndec t d).2.1 (ndec t d).2.2).1,(nds k (ndec t d).2.1 (ndec t d).2.2).2):=by
 induction k with
 |zero=>intro t d;rfl
 |succ k ih=>
  intro t d;rw[nds,ih,nds];rfl
theorem Z8K (k:Nat):∀t d,(Z5m k t d).1=(nds k t d).1/\(Z5m k t d).2=(nds k t d).2.2:=by
 induction k with
 |zero=>intro t d;exact⟨rfl,rfl⟩
 |succ k ih=>
  intro t d;rw[Zfk,Z5m];have:=ih (ndec t d).2.1 (ndec t d).2.2;exact⟨by rw[this.1],this.2⟩
theorem ZoM (k:Nat) {t:List Nat} {d:De} (ht:TNum t) (hv:DV 0 d):TNum (nds k t d).2.1/\DV 0 (nds k t d).2.2:=by
 induction k with
 |zero=>exact⟨ht,hv⟩
 |succ k ih=>exact Zfj ih.1 ih.2
theorem Z4B (k:Nat) (t:List Nat) (d:De):(nds k t d).1.length=k:=by
 induction k with
 |zero=>rfl
 |succ k ih=>simp[nds,ih]
theorem d0_v (s:List UInt8):DV 0 (d0 s):=by
 have h1:(dpre s).size=4294967295:=by
  unfold dpre;rw[Z3L.1,Z3L.1,Z3L.1,Z3L.1]
 exact⟨by show Szk 0 (dpre s).size;rw[h1];exact⟨by decide,by decide⟩,(Z3L (d:=Z26 (Z26 (Z26 ⟨s,0,4294967295,false,false⟩)))).2⟩
def ics (l:List Int):Array Value:=(ivs l).toArray
theorem Zlz (l:List Int) (i:Nat) (z:Int):(ics l).setIfInBounds i (.int .i64 z)=ics (l.set i z):=by
 apply Array.toList_inj.1;simp[ics,ivs,iv,List.map_set]
theorem ZiF (n:Nat):Array.replicate n (.int .i64 0:Value)=ics (List.replicate n 0):=by
 apply Array.toList_inj.1;simp[ics,ivs,iv]
theorem ZlA (l:List Int) (i:Nat) (h:i<l.length):(ics l)[i]? =some (.int .i64 (l.getD i 0)):=by
 have:=Z2p l i h;simpa [ics] using this
def IRes (w:World) (v:Value) (l:List Int):Prop:=∃A cap,v=.slice A l.length cap/\At w A (ivs l)
theorem IRes.nil (w:World):IRes w (.slice none 0 0) []:=⟨none,0,rfl,At.nil _ _⟩
def dl (s:List UInt8) (most:Int):List Int×Nat:=
 match rd s with
 |none=>([],12)
 |some (n,z)=>if 4096<n then([],12) else if most<(n:Int) then([],2) else if n=0 then([],if z<s.length then 12 else 0)
  else if dend (nds n t0 (d0 (s.drop z))).2.2=true then((nds n t0 (d0 (s.drop z))).1,0) else([],12)
def LRes (w:World) (x:Ending) (w':World) (r:List Int×Nat):Prop:=∃v,x=.returned (.tuple #[v,.int .i64 (r.2:Int)])/\IRes w' v r.1/\Below w.heap.size w w'
theorem Z2M {w w':World} (e:Nat) (hb:Below w.heap.size w w'):LRes w (.returned (.tuple #[.slice none 0 0,.int .i64 (e:Int)])) w' ([],e):=⟨_,rfl,IRes.nil _,hb⟩
theorem Z7H {s:List UInt8} {n z:Nat} {most:Int} (h:rd s=some (n,z)) (hm:¬most<(n:Int)):numR (bs s) 0 most=(n,bs (s.drop z),0):=by
 unfold numR;rw[if_pos rfl,Z0d,h];simp only;rw[if_neg hm]
theorem Zbt {s:List UInt8} {n z:Nat} {most:Int} (h:rd s=some (n,z)) (hm:most<(n:Int)):numR (bs s) 0 most=(0,bs s,2):=by
 unfold numR;rw[if_pos rfl,Z0d,h];simp only;rw[if_pos hm]
theorem Z8L {s:List UInt8} {most:Int} (h:rd s=none):numR (bs s) 0 most=(0,bs s,12):=by
 unfold numR;rw[if_pos rfl,Z0d,h]
theorem Z0b {w w1 w2:World} {b:Nat} (h:Below w.heap.size w w1) (hb:w.heap.size<=b) (k:Fr (only b) w1 w2):Below w.heap.size w w2:=
 h.trans (k.toBelow' h.size (λj hj e=>by have:j=b:=e;omega))
theorem Zbu {w:World} (b:Nat) (s:List UInt8) (hs:s.length<=1099511627776) (most:Int) (hd:rd s=none\/∃n z,rd s=some (n,z)/\4096<n):
  Calls Tryz.prog 142 #[.iface 112 (.pointer (some ⟨b,0,none⟩)),.string (bs s),.int .i64 4096,.int .i64 most] w λx w'=>LRes w x w' ([],12):=by
 have hN:∃e,numR (bs s) 0 4096=(0,bs s,e)/\e≠0:=by
  rcases hd with h|⟨n,z,h,h2⟩
  ·exact⟨12,Z8L h,by omega⟩
  ·exact⟨2,Zbt h (by omega),by omega⟩
 obtain⟨e,hN,he⟩:=hN;have ad:(bs s).size<=1099511627776:=(by rw[Z00];exact hs);have H1:=h_ (Z0M (bs s) w)
 have H2:=h_ (λW (h:RV W w.heap.size (bs s) 0)=>by
  have:=Z0h h ad 4096;rw[hN] at this;exact this)
 have ay:((e:Int) !=0)=true:=(by rw[bne_iff_ne];omega);clear hd hN he;generalize bs s=S at*;go_enter Tryz.func142,Tryz.ntmps142;go_wp2_with fail;refine(H1.o).mono ?_;rintro x w1 ⟨rfl,cA,a7⟩;go_wp2_with fail;refine(H2.o _ cA).mono ?_;rintro x w2 ⟨rfl,bQ,ah⟩;have H3:=h_ (Z0a bQ);have a8:=Z0b a7 (Nat.le_refl _) ah;clear cA bQ a7 ah;go_wp2_with fail;refine(H3.o).mono ?_;rintro x w3 ⟨rfl,rfl⟩;go_wp2;go_returns;exact Z2M 12 a8
theorem ZiG {w:World} (b:Nat) (s:List UInt8) (hs:s.length<=1099511627776) (most:Int) {n z:Nat} (hd:rd s=some (n,z)) (hn:n<=4096) (hm:most<(n:Int)):
  Calls Tryz.prog 142 #[.iface 112 (.pointer (some ⟨b,0,none⟩)),.string (bs s),.int .i64 4096,.int .i64 most] w λx w'=>LRes w x w' ([],2):=by
 have hN:=Z7H (most:=4096) hd (by omega);have ad:(bs s).size<=1099511627776:=(by rw[Z00];exact hs);have H1:=h_ (Z0M (bs s) w)
 have H2:=h_ (λW (h:RV W w.heap.size (bs s) 0)=>by
  have:=Z0h h ad 4096;rw[hN] at this;exact this)
 clear hd hN;generalize bs s=S at*;generalize bs (s.drop z)=S2 at*;go_enter Tryz.func142,Tryz.ntmps142;go_wp2_with fail;refine(H1.o).mono ?_;rintro x w1 ⟨rfl,cA,a7⟩;go_wp2_with fail;refine(H2.o _ cA).mono ?_;rintro x w2 ⟨rfl,bQ,ah⟩;have H3:=h_ (Z0a bQ);have a8:=Z0b a7 (Nat.le_refl _) ah;clear cA bQ a7 ah;go_wp2_with fail;refine(H3.o).mono ?_;rintro x w3 ⟨rfl,rfl⟩;go_wp2;go_returns;exact Z2M 2 a8
theorem Zfl {w:World} (b:Nat) (s:List UInt8) (hs:s.length<=1099511627776) (most:Int) {z:Nat} (hd:rd s=some (0,z)) (hm:¬most<0) (er:Nat) (KQ:er=if z<s.length then 12 else 0):
  Calls Tryz.prog 142 #[.iface 112 (.pointer (some ⟨b,0,none⟩)),.string (bs s),.int .i64 4096,.int .i64 most] w λx w'=>LRes w x w' ([],er):=by
 have hN:=Z7H (most:=4096) hd (by omega);have ad:(bs s).size<=1099511627776:=(by rw[Z00];exact hs);have H1:=h_ (Z0M (bs s) w)
 have H2:=h_ (λW (h:RV W w.heap.size (bs s) 0)=>by
  have:=Z0h h ad 4096;rw[hN] at this;exact this)
 have hE:Hid (endR (bs (s.drop z)) 0=er):=h_ (by
  rw[KQ];unfold endR;rw[Z00,List.length_drop];by_cases h:z<s.length
  ·rw[if_pos h,if_pos ⟨rfl,by omega⟩]
  ·rw[if_neg h,if_neg (by omega)])
 clear hd hN KQ;generalize bs s=S at*;generalize bs (s.drop z)=S2 at*;go_enter Tryz.func142,Tryz.ntmps142;go_wp2_with fail;refine(H1.o).mono ?_;rintro x w1 ⟨rfl,cA,a7⟩;go_wp2_with fail;refine(H2.o _ cA).mono ?_;rintro x w2 ⟨rfl,bQ,ah⟩;have H3:=h_ (Z0a bQ);have H4:=h_ (Z7q bQ);have a8:=Z0b a7 (Nat.le_refl _) ah;clear cA bQ a7 ah;go_wp2_with fail;refine(H3.o).mono ?_;rintro x w3 ⟨rfl,rfl⟩;go_wp2_with fail;refine(H4.o).mono ?_;rintro x w4 ⟨rfl,aG⟩;go_wp2;go_returns;rw[hE.o];exact Z2M _ (Z0b a8 (Nat.le_refl _) aG)
theorem ZiH (k:Nat) (t:List Nat) (d:De):nds (k+1) t d=((nds k t d).1++[(ndec (nds k t d).2.1 (nds k t d).2.2).1],(ndec (nds k t d).2.1 (nds k t d).2.2).2):=rfl
theorem ZlB (L:List Int) (n:Nat) (v:Int) (h:L.length<n):(L++List.replicate (n-L.length) 0).set L.length v=(L++[v])++List.replicate (n-(L.length+1)) 0:=by
 rw[List.set_append_right _ _ (Nat.le_refl _),Nat.sub_self,show n-L.length=(n-(L.length+1))+1 from by omega,List.replicate_succ,List.set_cons_zero];simp
def ZoN (w:World) (g:Nat) (D:List Int×List Nat×De) (x:Ending) (w':World):Prop:=
 ∃v,x=.returned (.tuple #[v,.int .i64 (endV D.2.2)])/\(dend D.2.2=true->IRes w' v D.1)/\(dend D.2.2=false->v=.slice none 0 0)/\Fr (only g) w w'
theorem Z49 (T:List UInt8):Z0C (bs T) 0 ((bs T).size:Int)=(bs T,bs [],0):=by
 unfold Z0C;rw[if_pos rfl,if_neg (by omega),if_neg (by omega),Int.toNat_natCast,Z0d,Z00,List.take_length,List.drop_length]
theorem Zfm {w:World} {b g:Nat} (CI:NAt w b g t0) (s:List UInt8) (hs:s.length<=1099511627776) (most:Int) {n z:Nat} (hd:rd s=some (n,z)) (hn:n<=4096) (mo:0<n) (hm:¬most<(n:Int)):
  Calls Tryz.prog 142 #[.iface 112 (.pointer (some ⟨b,0,none⟩)),.string (bs s),.int .i64 4096,.int .i64 most] w λx w'=>ZoN w g (nds n t0 (d0 (s.drop z))) x w':=by
 have hN:=Z7H (most:=4096) hd (by omega);have ad:(bs s).size<=1099511627776:=(by rw[Z00];exact hs);have H1:=h_ (Z0M (bs s) w)
 have H2:=h_ (λW (h:RV W w.heap.size (bs s) 0)=>by
  have:=Z0h h ad 4096;rw[hN] at this;exact this)
 obtain⟨T,hT⟩:∃T,s.drop z=T:=⟨_,rfl⟩;rw[hT] at H2⊢;have rz:(bs T).size<=1099511627776:=(by rw[Z00,<-hT,List.length_drop];omega);have ax:=Z49 T
 have H5:=h_ (λW (h:RV W w.heap.size (bs T) 0)=>by
  have:=Z0s h rz ((bs T).size:Int);rw[ax] at this;exact this)
 have H6:=h_ (Zbb T);have yF:((n:Int)==0)=false:=(by rw[beq_eq_false_iff_ne];omega);have lF:=d0_v T;clear hd hN hT ax;generalize bs s=S at*;obtain⟨S2,jZ⟩:∃S2,bs T=S2:=⟨_,rfl⟩;rw[jZ] at H2 H5 H6 rz;have EZ:=h_ CI;have xh:=h_ lF;clear jZ CI lF;go_enter Tryz.func142,Tryz.ntmps142;go_wp2_with fail;refine(H1.o).mono ?_;rintro x w1 ⟨rfl,cA,a7⟩;go_wp2_with fail;refine(H2.o _ cA).mono ?_;rintro x w2 ⟨rfl,bQ,ah⟩;have H3:=h_ (Z0a bQ);have H4:=h_ (Z0r bQ (by omega));have a8:=Z0b a7 (Nat.le_refl _) ah;have fp:=h_ bQ;clear cA bQ a7 ah;go_wp2_with fail;refine(H3.o).mono ?_;rintro x w3 ⟨rfl,rfl⟩;go_wp2_with fail;refine(H4.o).mono ?_;rintro x w3 ⟨rfl,rfl⟩;go_wp2_with fail;refine(H5.o _ fp.o).mono ?_;rintro x w3 ⟨rfl,eJ,aL⟩;have ae:=Z0b a8 (Nat.le_refl _) aL;clear aL eJ H3 H4 fp a8;go_wp2_with fail;refine(H6.o _).mono ?_;rintro x w4 ⟨rfl,uy,aw⟩;have yA:=ae.size;have EN:=uy.lt;have aM:=ae.trans (aw.mono yA);have CJ:=EZ.o.below aM;have bE:=Z1g (P:=Tryz.prog) 31 3 _ _ Tryz.underlying31 Z0R rfl (n:Int) n rfl (by omega) (by omega) w4;rw[ZiF] at bE;have yH:=h_ CJ;have PF:=h_ uy;clear ae aw CJ uy;go_wp2;have uv:b<w.heap.size:=EZ.o.1.lt;have EW:g<w.heap.size:=EZ.o.2.lt;go_loopw [14,40] (λ_ i wr=>∃k:Nat,k<=n/\i=.int .i64 k/\NAt wr b g (nds k t0 (d0 T)).2.1/\DAt wr w3.heap.size (nds k t0 (d0 T)).2.2/\Bk wr w4.heap.size 3 (ics ((nds k t0 (d0 T)).1++List.replicate (n-k) 0))/\Fr (only g) w wr) (λ_ i _=>(n-intOf i).toNat);case atStart=>exact⟨0,by omega,rfl,⟨yH.o.1.alloc _,yH.o.2.alloc _⟩,Bk.alloc PF.o _,Bk.new _ _ _,(Fr.of_below aM).alloc _⟩
 case round=>
  obtain⟨k,hk,rfl,mU,ry,aC,mi⟩:=hrel;obtain⟨kt,kv⟩:=ZoM k Z5n xh.o;have ie:=Z4B k t0 (d0 T);by_cases ab:k<n
  ·have au:=ZiH k t0 (d0 T);generalize nds k t0 (d0 T)=X at*;obtain⟨L,tk,dk⟩:=X;simp only at kt kv ie mU ry aC au;have du:=ZlB L n (ndec tk dk).1 (by omega);rw[ie] at du;have Hc:=h_ (Z7E mU kt ry kv);have bZ:=mU.onl ry;have yI:w4.heap.size≠g:=(by omega);have yJ:w4.heap.size≠w3.heap.size:=(by omega);obtain⟨y,hy⟩:∃y,(ndec tk dk).1=y:=⟨_,rfl⟩;rw[hy] at du Hc au;have aR:=h_ au;have aT:=h_ du;have jV:=h_ aC;have KR:=h_ (And.intro yI yJ);clear au du hy mU ry kt kv aC bE bZ yI yJ;go_wp2_with fail;refine(Hc.o).mono ?_;rintro x w6 ⟨rfl,CK,KS,qE⟩
   have rA:=jV.o.fr qE (λhs=>by
    rcases hs with hs|hs
    ·exact KR.o.1 hs
    ·exact KR.o.2 hs)
   have gT:(L++List.replicate (n-k) 0).length=n:=(by rw[List.length_append,List.length_replicate];omega);obtain⟨y0,sH⟩:∃y0:Int,w6.cell? ⟨w4.heap.size,k,none⟩=some (.int .i64 y0):=⟨_,by rw[rA.cell,ZlA _ _ (by omega)]⟩;have sV:=rA.frozen k;have aj:=rA.put k (.int .i64 y);rw[Zlz,aT.o] at aj;have KT:NAt (w6.setCell ⟨w4.heap.size,k,none⟩ (.int .i64 y)) b g (ndec tk dk).2.1:=CK.fr (S:=only w4.heap.size) ((Fr.refl (only w4.heap.size) w6).setCell (p:=⟨w4.heap.size,k,none⟩) (.inl rfl) _) (λe=>by have:b=w4.heap.size:=e;omega) (λe=>by have:g=w4.heap.size:=e;omega);have KU:DAt (w6.setCell ⟨w4.heap.size,k,none⟩ (.int .i64 y)) w3.heap.size (ndec tk dk).2.2:=KS.fr (S:=only w4.heap.size) ((Fr.refl (only w4.heap.size) w6).setCell (p:=⟨w4.heap.size,k,none⟩) (.inl rfl) _) (λe=>by have:w3.heap.size=w4.heap.size:=e;omega)
   have xi:Fr (only g) w (w6.setCell ⟨w4.heap.size,k,none⟩ (.int .i64 y)):=(mi.trans' qE (λi hi hs=>by
    rcases hs with hs|hs
    ·exact hs
    ·omega)).setCell (p:=⟨w4.heap.size,k,none⟩) (.inr (by show w.heap.size<=w4.heap.size;omega)) _
   have av:=h_ aj;have PG:=h_ KT;have PH:=h_ KU;have F7:=h_ xi;clear aj KT KU xi CK KS qE rA mi jV gT;go_wp2;go_roundw;case rel=>exact⟨k+1,by omega,by go_num,by rw[aR.o];exact PG.o,by rw[aR.o];exact PH.o,by rw[aR.o];exact av.o,F7.o⟩
   case measure=>simp[intOf]<;>omega
  ·have ef:k=n:=(by omega);subst ef;rw[Nat.sub_self,List.replicate_zero,List.append_nil] at aC;have dP:=h_ (Zi6 ry);have ak:=aC.at_;have aq:=h_ ie;obtain⟨D,hD⟩:∃D,nds k t0 (d0 T)=D:=⟨_,rfl⟩;rw[hD] at dP ak aq;have HD:=h_ hD;have bd:=h_ ak;clear hD aC mU ry kt kv bE ak ie;have bx:dend D.2.2=true\/dend D.2.2=false:=(by cases dend D.2.2<;>simp);rcases bx with hc|hc
   ·have hz:=Zej hc;rw[hz] at dP;have Hc:=h_ hc;have Hz:=h_ hz;clear hc hz;go_wp2_with fail;refine(dP.o).mono ?_;rintro x w6 ⟨rfl,rfl⟩;go_wp2;go_returns;rw[HD.o];refine⟨.slice (some ⟨w4.heap.size,0,none⟩) k k,by rw[Hz.o];rfl,λ_=>⟨_,k,by rw[aq.o],bd.o⟩,(λh=>by rw[Hc.o] at h;cases h),mi⟩
   ·have hz:=Z6v hc;rw[hz] at dP;have Hc:=h_ hc;have Hz:=h_ hz;clear hc hz;go_wp2_with fail;refine(dP.o).mono ?_;rintro x w6 ⟨rfl,rfl⟩;go_wp2;go_returns;rw[HD.o];exact⟨.slice none 0 0,by rw[Hz.o];rfl,(λh=>by rw[Hc.o] at h;cases h),λ_=>rfl,mi⟩
theorem ZlC (s:List UInt8) (most:Int):decn s most=if ∀v∈(dl s most).1,0<=v then dl s most else([],12):=by
 unfold decn dl;match rd s with
 |none=>simp
 |some (n,z)=>
  simp only;by_cases h1:4096<n
  ·rw[if_pos h1,if_pos h1];simp
  ·rw[if_neg h1,if_neg h1];by_cases h2:most<(n:Int)
   ·rw[if_pos h2,if_pos h2];simp
   ·rw[if_neg h2,if_neg h2];by_cases h3:n=0
    ·rw[if_pos h3,if_pos h3];simp
    ·rw[if_neg h3,if_neg h3];obtain⟨e1,e2⟩:=Z8K n t0 (d0 (s.drop z));rw[e1,e2];by_cases h4:dend (nds n t0 (d0 (s.drop z))).2.2=true
     ·rw[if_pos h4];by_cases h5:∀v∈(nds n t0 (d0 (s.drop z))).1,0<=v
      ·rw[if_pos ⟨h4,h5⟩,if_pos h5]
      ·rw[if_neg (λh=>h5 h.2),if_neg h5]
     ·rw[if_neg (λh=>h4 h.1),if_neg h4];simp
def ZnK (w:World) (g:Nat) (r:List Int×Nat) (x:Ending) (w':World):Prop:=∃v,x=.returned (.tuple #[v,.int .i64 (r.2:Int)])/\IRes w' v r.1/\Fr (only g) w w'
theorem ZiI {w:World} {b g:Nat} (CI:NAt w b g t0) (s:List UInt8) (hs:s.length<=1099511627776) (most:Int):
  Calls Tryz.prog 142 #[.iface 112 (.pointer (some ⟨b,0,none⟩)),.string (bs s),.int .i64 4096,.int .i64 most] w λx w'=>ZnK w g (dl s most) x w':=by
 have conv:∀ {x w' e},LRes w x w' ([],e)->dl s most=([],e)->ZnK w g (dl s most) x w':=by
  rintro x w' e ⟨v,h1,h2,h3⟩ h;rw[h];exact⟨v,h1,h2,Fr.of_below h3⟩
 match hd:rd s with
 |none=>
  refine(Zbu b s hs most (.inl hd)).mono ?_;intro x w' h;exact conv h (by unfold dl;rw[hd])
 |some (n,z)=>
  by_cases h1:4096<n
  ·refine(Zbu b s hs most (.inr ⟨n,z,hd,h1⟩)).mono ?_;intro x w' h;exact conv h (by unfold dl;rw[hd];simp only;rw[if_pos h1])
  ·by_cases h2:most<(n:Int)
   ·refine(ZiG b s hs most hd (by omega) h2).mono ?_;intro x w' h;exact conv h (by unfold dl;rw[hd];simp only;rw[if_neg h1,if_pos h2])
   ·by_cases h3:n=0
    ·subst h3;refine(Zfl b s hs most hd (by omega) _ rfl).mono ?_;intro x w' h;exact conv h (by unfold dl;rw[hd];simp only;rw[if_neg h1,if_neg h2];simp only[if_true])
    ·refine(Zfm CI s hs most hd (by omega) (by omega) h2).mono ?_;rintro x w' ⟨v,hx,ht,hf,ey⟩
     have e:dl s most=if dend (nds n t0 (d0 (s.drop z))).2.2=true then((nds n t0 (d0 (s.drop z))).1,0) else([],12):=by
      unfold dl;rw[hd];simp only;rw[if_neg h1,if_neg h2,if_neg h3]
     rw[e];by_cases hc:dend (nds n t0 (d0 (s.drop z))).2.2=true
     ·rw[if_pos hc];rw[Zej hc] at hx;exact⟨v,hx,ht hc,ey⟩
     ·have dF:dend (nds n t0 (d0 (s.drop z))).2.2=false:=(by simpa using hc);rw[if_neg hc];rw[Z6v dF] at hx;have:=hf dF;subst this;exact⟨_,hx,IRes.nil _,ey⟩
theorem LRes.of {w w':World} {x:Ending} {r:List Int×Nat} {v:Value} (h1:x=.returned (.tuple #[v,.int .i64 (r.2:Int)])) (h2:IRes w' v r.1) (h3:Below w.heap.size w w'):LRes w x w' r:=⟨v,h1,h2,h3⟩
theorem Z0Q {w:World} (s:List UInt8) (hs:s.length<=1099511627776) (most:Int):
  Calls Tryz.prog 88 #[.string (bs s),.int .i64 most] w λx w'=>LRes w x w' (decn s most):=by
 have H1:=h_ (Z7p w);have H2:=h_ (λW b g (h:NAt W b g t0)=>ZiI h s hs most);have F8:=h_ (ZlC s most)
 have fu:(dl s most).1.length<=9223372036854775807:=by
  unfold dl;split
  ·simp
  ·split
   ·simp
   ·split
    ·simp
    ·split
     ·split<;>simp
     ·split
      ·rw[Z4B];omega
      ·simp
 generalize dl s most=r at*;obtain⟨l,er⟩:=r;simp only at F8 fu;generalize bs s=S at*;go_enter Tryz.func88,Tryz.ntmps88;go_wp2_with fail;refine(H1.o).mono ?_;rintro x w1 ⟨b,rfl,PE,fF,a7⟩;go_wp2_with fail;refine(H2.o _ _ _ fF).mono ?_;rintro x w2 ⟨v,rfl,⟨A,cap,rfl,ak⟩,ah⟩;have a8:Below w.heap.size w w2:=a7.trans (ah.toBelow' a7.size (λj hj e=>by have:j=w.heap.size:=e;omega));simp only at ak;have bd:=h_ ak;clear ak ah a7 fF;go_wp2;go_loop [9,20] (λ_ i=>∃k:Nat,k<=l.length/\i=.int .i64 k/\Hid (∀v∈l.take k,0<=v)) (λ_ i=>(l.length-intOf i).toNat);case atStart=>exact⟨0,by omega,rfl,h_ (by simp)⟩
 case round=>
  obtain⟨k,hk,rfl,ar⟩:=hrel;by_cases ab:k<l.length
  ·obtain⟨v,hv⟩:∃v,l.getD k 0=v:=⟨_,rfl⟩;have cP:l[k]=v:=(by rw[<-hv];simp[List.getD,ab]);obtain⟨bA,oA,hA,ec,ko⟩:=bd.o.get k (.int .i64 v) (by rw[Z2p _ _ ab,hv]);subst hA;by_cases yK:v<0
   ·have dt:¬∀u∈l,0<=u:=λh=>(by have:=h v (cP▸List.getElem_mem _);omega);have Hr:Hid (decn s most=([],12)):=h_ (by rw[F8.o,if_neg dt]);clear dt hv cP;go_wp2;go_returns;rw[Hr.o];exact Z2M 12 a8
   ·have cV:Hid (∀u∈l.take (k+1),0<=u):=h_ (by
     intro u hu;rw[List.take_succ_eq_append_getElem ab,cP] at hu;rcases List.mem_append.1 hu with h|h
     ·exact ar.o u h
     ·rw[List.mem_singleton] at h;omega)
    clear hv cP;go_wp2;go_round;case rel=>exact⟨k+1,by omega,by go_num,cV⟩
    case measure=>simp[intOf]<;>omega
  ·have cV:∀u∈l,0<=u:=by
    have:=ar.o
    rwa [List.take_of_length_le (by omega)] at this
   have Hr:Hid (decn s most=(l,er)):=h_ (by rw[F8.o,if_pos cV]);clear cV;go_wp2;go_returns;rw[Hr.o];exact LRes.of rfl ⟨A,cap,rfl,bd.o⟩ a8
open Wv.Ru
def rowp (j:Nat):List Nat:=List.range j++List.replicate (4096-j) 0
theorem ZiJ (j:Nat) (h:j<4096):(rowp j).set j j=rowp (j+1):=by
 unfold rowp;rw[List.set_append_right _ _ (by simp),List.length_range,Nat.sub_self,show 4096-j=(4096-(j+1))+1 from by omega,List.replicate_succ,List.set_cons_zero,List.range_succ,List.append_assoc];rfl
theorem Za0 (j:Nat) (h:j<=4096):(rowp j).length=4096:=by simp[rowp];omega
theorem ZiK:rowp 4096=r0:=by unfold rowp r0;rw[Nat.sub_self,List.replicate_zero,List.append_nil]
theorem Z5H (n:Nat):nc (List.replicate n 0)=Array.replicate n (.int .i64 0):=by
 apply Array.toList_inj.1;simp[nc]
theorem Zfn (w:World):
  Calls Tryz.prog 171 #[] w λx w'=>x=.returned (.slice (some ⟨w.heap.size,0,none⟩) 4096 4096)/\Bk w' w.heap.size 3 (nc r0)/\Below w.heap.size w w':=by
 have bE:=Z1g (P:=Tryz.prog) 31 3 _ _ Tryz.underlying31 Z0R rfl 4096 4096 rfl (by omega) (by omega) w;rw[<-Z5H] at bE;have h0:List.replicate 4096 0=rowp 0:=(by unfold rowp;rw[List.range_zero,List.nil_append]);rw[h0] at bE;clear h0;go_enter Tryz.func171,Tryz.ntmps171;go_wp2;go_loopw [2,6] (λ_ i wr=>∃j:Nat,j<=4096/\i=.int .i64 j/\Bk wr w.heap.size 3 (nc (rowp j))/\Below w.heap.size w wr) (λ_ i _=>(4096-intOf i).toNat);case atStart=>exact⟨0,by omega,rfl,Bk.new _ _ _,(Below.refl _ _).alloc (Nat.le_refl _) _⟩
 case round=>
  obtain⟨j,hj,rfl,aC,hf⟩:=hrel;by_cases ab:j<4096
  ·have hc:=aC.cell j;rw[Z1V _ _ (by rw[Za0 j hj];exact ab)] at hc;have fc:=aC.frozen j;have hp:=aC.put j (.int .i64 (j:Int));rw[Z3C,ZiJ j ab] at hp;have Hp:=h_ hp;have bK:(j:Int)<4096:=(by omega);clear hp aC bE ab;go_wp2;go_roundw;case rel=>exact⟨j+1,by omega,by go_num,Hp.o,hf.setCell (p:=⟨w.heap.size,j,none⟩) (Nat.le_refl _) _⟩
   case measure=>simp[intOf]<;>omega
  ·have lG:j=4096:=(by omega);subst lG;rw[ZiK] at aC;clear bE;go_wp2;go_ret;exact⟨rfl,aC,hf⟩
theorem ZcF {w:World} {g:Nat} {r:List Nat} (h:Bk w g 3 (nc r)) (hr:r.length=4096) (n:Nat) (hn:n∈r):
  Calls Tryz.prog 128 #[.slice (some ⟨g,0,none⟩) 4096 4096,.int .i64 (n:Int)] w λx w'=>x=.returned (.int .i64 (ix r n:Nat))/\w=w':=by
 have H:=h_ h;have Hn:=h_ hn;have Hr:=h_ hr;have hle:ix r n<4096:=(by rw[<-hr];exact Z9K.2 hn);clear h hn hr;go_enter Tryz.func128,Tryz.ntmps128;go_wp2;go_loop [5,8] (λ_ i=>∃j:Nat,j<=ix r n/\i=.int .i64 j) (λ_ i=>(4096-intOf i).toNat);case atStart=>exact⟨0,by omega,rfl⟩
 case round=>
  obtain⟨j,hj,rfl⟩:=hrel;have hc:=H.o.cell j;rw[Z1V _ _ (by rw[Hr.o];omega)] at hc;have sW:(j:Int)<4096:=(by omega);obtain⟨y,hy⟩:∃y,r.getD j 0=y:=⟨_,rfl⟩
  have CL:r[j]? =some y:=by
   have cK:j<r.length:=(by rw[Hr.o];omega);rw[List.getElem?_eq_getElem cK,<-hy];simp[List.getD,cK]
  rw[hy] at hc;by_cases ab:j<ix r n
  ·have ay:((n:Int)==(y:Int))=false:=by
    rw[beq_eq_false_iff_ne];intro e;have:n=y:=(by omega);exact ZdQ j ab (this▸CL)
   clear hy CL;go_wp2;go_round;case rel=>exact⟨j+1,by omega,by go_num⟩
   case measure=>simp[intOf]<;>omega
  ·have F9:j=ix r n:=by omega
   have ay:((n:Int)==(y:Int))=true:=by
    rw[beq_iff_eq];have:=ix_get? Hn.o;rw[<-F9,CL] at this;injection this with this;omega
   have PI:=h_ F9;clear hy CL F9;go_wp2;go_ret;exact⟨Z0w (by rw[PI.o]),rfl⟩
theorem ZcG {w:World} {g:Nat} {r:List Nat} (h:Bk w g 3 (nc r)) (hr:r.length=4096) (n:Nat) (hn:n∈r):
  Calls Tryz.prog 127 #[.slice (some ⟨g,0,none⟩) 4096 4096,.int .i64 (n:Int)] w λx w'=>x=.returned (.tuple #[.int .i64 (ix r n:Nat),.int .i64 (ix r n:Nat)])/\w=w':=by
 have H:=h_ (ZcF h hr n hn);go_enter Tryz.func127,Tryz.ntmps127;go_wp2_with fail;refine(H.o).mono ?_;rintro x w1 ⟨rfl,rfl⟩;go_wp2;go_ret2;exact⟨rfl,rfl⟩
theorem Z8M {w:World} {g:Nat} {r:List Nat} (h:Bk w g 3 (nc r)) (hr:r.length=4096) (n:Nat) (hn:n<4096):
  Calls Tryz.prog 201 #[.slice (some ⟨g,0,none⟩) 4096 4096,.int .i64 (n:Int)] w λx w'=>x=.returned (.tuple #[.int .i64 (r.getD n 0:Nat),.int .i64 (n:Int)])/\w=w':=by
 have hc:=h.cell n;rw[Z1V _ _ (by rw[hr];exact hn)] at hc;have jj:(n:Int)<4096:=(by omega);obtain⟨y,hy⟩:∃y,r.getD n 0=y:=⟨_,rfl⟩;rw[hy] at hc⊢;clear h hr hn hy;go_enter Tryz.func201,Tryz.ntmps201;go_wp2;go_ret2;exact⟨rfl,rfl⟩
end Go.Proofs.YtchokmkfobandaaGreatDoor
namespace Wv
open Go Go.RowKit
theorem Zfo {S:Nat->Prop} {a w:World} {g:Nat} (h:Fr S a w) (hg:S g) (cs:Array Value):Fr S a (w.setRow g cs):=
 h.trans ⟨rfl,rfl,rfl,by simp[World.setRow],λk hk hn=>setRow_other w g k cs (λe=>hn (e▸hg))⟩
end Wv
namespace Go.Proofs.YtchokmkfobandaaGreatDoor
open Go.RowKit Go.Proofs Wv Wv.Vi Wv.Rc Wv.Mo Wv.Ru
theorem ZcH (r:List Nat) (h:0<r.length):Z27 r 0=r:=by
 unfold Z27;match r with
 |a::t=>rfl
theorem Zfp (r:List Nat) (p:Nat) (h:p<r.length):(r.take 1++r.take p++r.drop (1+p)).set 0 (r.getD p 0)=Z27 r p:=by
 unfold Z27;match r,h with
 |a::t,h=>
  rw[List.eraseIdx_eq_take_drop_succ,Nat.add_comm 1 p];rfl
theorem Za1 (t:List Nat):(nc t).toList=t.map (λn:Nat=>(Value.int .i64 (n:Int))):=by simp[nc]
theorem ZnL:(Tryz.prog.info? 3).map (·.size)=some 1:=by kernel_rfl
theorem Zfq {w:World} {g:Nat} {r:List Nat} (h:Bk w g 3 (nc r)) (hr:r.length=4096):
  Calls Tryz.prog 172 #[.slice (some ⟨g,0,none⟩) 4096 4096,.int .i64 0] w λx w'=>x=.returned (.slice (some ⟨g,0,none⟩) 4096 4096)/\Bk w' g 3 (nc (Z27 r 0))/\Fr (only g) w w':=by
 have hc:=h.cell 0;rw[Z1V _ _ (by rw[hr];omega)] at hc;have sV:=h.frozen 0;have aj:=h.put 0 (.int .i64 ((r.getD 0 0:Nat):Int))
 have du:r.set 0 (r.getD 0 0)=Z27 r 0:=by
  rw[ZcH r (by omega)];match r,hr with
  |a::t,_=>rfl
 rw[Z3C,du] at aj;obtain⟨y,hy⟩:∃y,r.getD 0 0=y:=⟨_,rfl⟩;have eI:IntKind.i64.wrap 1=1:=(by rw[IntWalk.i64_in _ (by omega)]);rw[hy] at hc aj;have ag:=run_copy_none (P:=Tryz.prog) w.drew 31 31 3 3 (some ⟨g,0,none⟩) (some ⟨g,0,none⟩) 0 0 0 0 Tryz.underlying31 ZnL rfl;have av:=h_ aj;clear h aj du hy;go_enter Tryz.func172,Tryz.ntmps172;go_wp2;go_region;go_wp2;go_ret;exact⟨rfl,by have:=av.o.drew;exact this,((Fr.refl (only g) w).setCell (p:=⟨g,0,none⟩) (.inl rfl) _).drew⟩
theorem ZiL {w : World} {g : Nat} {r : List Nat} (h : Bk w g 3 (nc r)) (hr : r.length = 4096) (p : Nat) (hp : p < 4096) (CM : 0 < p) :
    Calls Tryz.prog 172 #[.slice (some ⟨g,0,none⟩) 4096 4096,.int .i64 (p:Int)] w λx w'=>x=.returned (.slice (some ⟨g,0,none⟩) 4096 4096)/\Bk w' g 3 (nc (Z27 r p))/\Fr (only g) w w':=by
  have hc:=h.cell p;rw[Z1V _ _ (by rw[hr];omega)] at hc;have dy:(p:Int)<4096:=(by omega);have ep:IntKind.i64.wrap ((p:Int)+1)=(p:Int)+1:=(by rw[IntWalk.i64_in _ (by omega)]);have qF:(1:Int)<=(p:Int):=(by omega);have U0:(p:Int)+1<=4096:=(by omega);have U3:(0:Int)<=(p:Int)+1:=(by omega);have U4:max ((p:Int)+1) 0=(p:Int)+1:=(by omega);have U5:(1:Int)<=(p:Int)+1:=(by omega);have U6:((p:Int)+1).toNat=p+1:=(by omega);have U7:¬p=0:=(by omega);have PJ:(0:Int)<=(p:Int):=(by omega);have PK:(p:Int)<=4096:=(by omega)
  have ag := run_copy_row (P := Tryz.prog) w.drew 31 31 3 3 g 1 p p ⟨g, 0, none⟩ p p (nc r) 3 ((r.take p).map (λn : Nat => (Value.int .i64 (n : Int)))) Tryz.underlying31 ZnL h (by simp; omega) (λj v hv => by
      rw[Go.WideShapes.add_plain,Nat.zero_add];have h1:=h.cell j;show w.cell? _=_;rw[h1,<-Array.getElem?_toList,Za1];rw[List.map_take,List.getElem?_take] at hv;split at hv
      · exact hv
      · cases hv) (by simp[nc];omega) (λv hv=>by
      obtain⟨n,_,rfl⟩:=List.mem_map.1 hv;rfl)
  obtain⟨C,hC⟩:∃C,((nc r).toList.take 1++(r.take p).map (λn:Nat=>(Value.int .i64 (n:Int)))++(nc r).toList.drop (1+((r.take p).map (λn:Nat=>(Value.int .i64 (n:Int)))).length)).toArray=C:=⟨_,rfl⟩;rw[hC] at ag
  have KV:C=nc (r.take 1++r.take p++r.drop (1+p)):=by
    rw[<-hC];apply Array.toList_inj.1;rw[Za1,Za1,List.length_map,List.length_take,show min p r.length=p from by omega];simp[List.map_take,List.map_drop]
  have aC:Bk (w.drew.setRow g C) g 3 C:=setRow_heap w.drew g _ C _ (0,0) h;have ey:Fr (only g) w (w.drew.setRow g C):=Zfo ((Fr.refl (only g) w).drew) rfl C;generalize w.drew.setRow g C=W at*;obtain⟨y,hy⟩:∃y,r.getD p 0=y:=⟨_,rfl⟩;rw[KV] at aC;have aj:=aC.put 0 (.int .i64 (y:Int));have rB:=Zfp r p (by omega);rw[hy] at rB hc;rw[Z3C,rB] at aj
  obtain⟨y0,bN⟩:∃y0:Int,W.cell? ⟨g,0,none⟩=some (.int .i64 y0):=⟨_,by
    rw[aC.cell,Z1V _ _ (by rw[List.length_append,List.length_append,List.length_take];omega)]⟩
  have sV:=aC.frozen 0
  have hlen:(goInt ((r.take p).map (λn:Nat=>(Value.int .i64 (n:Int)))).length)=.int .i64 (p:Int):=by
    rw[List.length_map,List.length_take,show min p r.length=p from by omega];rfl
  rw[hlen] at ag;have av:=h_ aj;have xj:=h_ ey;clear h hy hC KV aC ey aj rB hlen hr;go_enter Tryz.func172,Tryz.ntmps172;go_wp2;go_region;go_wp2;go_ret;exact⟨rfl,av.o,xj.o.setCell (p:=⟨g,0,none⟩) (.inl rfl) _⟩
theorem Zbv {w:World} {g:Nat} {r:List Nat} (h:Bk w g 3 (nc r)) (hr:r.length=4096) (p:Nat) (hp:p<4096):
  Calls Tryz.prog 172 #[.slice (some ⟨g,0,none⟩) 4096 4096,.int .i64 (p:Int)] w λx w'=>x=.returned (.slice (some ⟨g,0,none⟩) 4096 4096)/\Bk w' g 3 (nc (Z27 r p))/\Fr (only g) w w':=by
 rcases Nat.eq_zero_or_pos p with rfl|h0
 ·exact Zfq h hr
 ·exact ZiL h hr p hp h0
def rowF:List Nat->List Nat->List Nat
 |r,[]=>r
 |r,n::t=>rowF (Z27 r (ix r n)) t
def rowU:List Nat->List Nat->List Nat
 |r,[]=>r
 |r,n::t=>rowU (Z27 r n) t
theorem Za2 (l:List Nat) (n:Nat):∀r,Z17 r (l++[n])=Z17 r l++[ix (rowF r l) n]/\rowF r (l++[n])=Z27 (rowF r l) (ix (rowF r l) n):=by
 induction l with
 |nil=>intro r;exact⟨rfl,rfl⟩
 |cons a l ih=>
  intro r;obtain⟨h1,h2⟩:=ih (Z27 r (ix r a));exact⟨by rw[List.cons_append,Z17,h1];rfl,by rw[List.cons_append,rowF,h2];rfl⟩
theorem Z7I (l:List Nat) (n:Nat):∀r,Z0Y r (l++[n])=Z0Y r l++[(rowU r l).getD n 0]/\rowU r (l++[n])=Z27 (rowU r l) n:=by
 induction l with
 |nil=>intro r;exact⟨rfl,rfl⟩
 |cons a l ih=>
  intro r;obtain⟨h1,h2⟩:=ih (Z27 r a);exact⟨by rw[List.cons_append,Z0Y,h1];rfl,by rw[List.cons_append,rowU,h2];rfl⟩
theorem ZlD (l:List Nat):∀r,(∀n∈l,n∈r)->(rowF r l).length=r.length/\∀m,m∈r->m∈rowF r l:=by
 induction l with
 |nil=>intro r _;exact⟨rfl,λm h=>h⟩
 |cons a l ih=>
  intro r h;have h1:=Z9K.2 (h a List.mem_cons_self);obtain⟨a1,a2⟩:=ih (Z27 r (ix r a)) (λn hn=>Z3X h1 (h n (List.mem_cons_of_mem _ hn)));exact⟨a1.trans (Z2c h1),λm hm=>a2 m (Z3X h1 hm)⟩
theorem ZlE (l:List Nat):∀r,(∀n∈l,n<r.length)->(rowU r l).length=r.length:=by
 induction l with
 |nil=>intro r _;rfl
 |cons a l ih=>
  intro r h;have h1:=h a List.mem_cons_self;exact(ih (Z27 r a) (λn hn=>by rw[Z2c h1];exact h n (List.mem_cons_of_mem _ hn))).trans (Z2c h1)
theorem Zbw (L:List Nat) (n v:Nat) (h:L.length<n):(L++List.replicate (n-L.length) 0).set L.length v=(L++[v])++List.replicate (n-(L.length+1)) 0:=by
 rw[List.set_append_right _ _ (Nat.le_refl _),Nat.sub_self,show n-L.length=(n-(L.length+1))+1 from by omega,List.replicate_succ,List.set_cons_zero];simp
theorem Zkq (l:List Nat):(nc l).toList=ivs (l.map Int.ofNat):=by simp[nc,ivs,iv]
theorem Z6A (l:List Nat) (k:Nat) (h:k<l.length):l.take (k+1)=l.take k++[l.getD k 0]:=by
 rw[List.take_succ_eq_append_getElem h];simp[List.getD,h]
def NRes (w:World) (x:Ending) (w':World) (r:List Nat×Nat):Prop:=∃v,x=.returned (.tuple #[v,.int .i64 (r.2:Int)])/\IRes w' v (r.1.map Int.ofNat)/\Below w.heap.size w w'
theorem Z3r {w w':World} (e:Nat) (hb:Below w.heap.size w w'):NRes w (.returned (.tuple #[.slice none 0 0,.int .i64 (e:Int)])) w' ([],e):=⟨_,rfl,IRes.nil _,hb⟩
theorem Z6l {w:World} {A:Option Addr} {l:List Int} (ha:At w A (ivs l)) (n cap:Nat) (hn:n=l.length) (hm:n<=9223372036854775807) (hb:chkn l≠0):
  Calls Tryz.prog 126 #[.slice A n cap,.func (.func 127) #[] #[]] w λx w'=>NRes w x w' ([],chkn l):=by
 have Ha:=h_ ha;have aq:=h_ hn;have dj:Below w.heap.size w w:=Below.refl _ _;by_cases h9:4096<n
 ·have hc:Hid (chkn l=9):=h_ (by unfold chkn;rw[if_pos (by omega)]);have yL:(4096:Int)<(n:Int):=(by omega);clear ha hn hb h9;go_enter Tryz.func126,Tryz.ntmps126;go_wp2;go_returns;rw[hc.o];exact Z3r 9 dj
 ·have hc:Hid (chkn l=2):=h_ (by
   unfold chkn at hb⊢;rw[if_neg (by omega)] at hb⊢;by_cases h:∀n∈l,0<=n/\n<4096
   ·rw[if_pos h] at hb;exact absurd rfl hb
   ·rw[if_neg h])
  have aZ:Hid (¬∀n∈l,0<=n/\n<4096):=h_ (by
   intro h;apply hb;exact Z5r (by omega) h)
  have yL:¬(4096:Int)<(n:Int):=(by omega);clear ha hn hb h9;go_enter Tryz.func126,Tryz.ntmps126;go_wp2;go_loop [7,19] (λ_ i=>∃k:Nat,k<=n/\i=.int .i64 k/\Hid (∀v∈l.take k,0<=v/\v<4096)) (λ_ i=>(n-intOf i).toNat);case atStart=>exact⟨0,by omega,rfl,h_ (by simp)⟩
  case round=>
   obtain⟨k,hk,rfl,ar⟩:=hrel;by_cases ab:k<n
   ·have bD:k<l.length:=(by rw[<-aq.o];exact ab);obtain⟨v,hv⟩:∃v,l.getD k 0=v:=⟨_,rfl⟩;have cP:l[k]=v:=(by rw[<-hv];simp[List.getD,bD]);obtain⟨bA,oA,hA,ec,ko⟩:=Ha.o.get k (.int .i64 v) (by rw[Z2p _ _ bD,hv]);subst hA;by_cases bG:0<=v/\v<4096
    ·obtain⟨o1,o2⟩:=bG;have o3:¬v<0:=(by omega);have o4:¬4096<=v:=(by omega)
     have cV:Hid (∀u∈l.take (k+1),0<=u/\u<4096):=h_ (by
      intro u hu;rw[List.take_succ_eq_append_getElem bD,cP] at hu;rcases List.mem_append.1 hu with h|h
      ·exact ar.o u h
      ·rw[List.mem_singleton] at h;omega)
     clear hv cP;go_wp2;go_round;case rel=>exact⟨k+1,by omega,by go_num,cV⟩
     case measure=>simp[intOf]<;>omega
    ·clear hv cP;by_cases o1:v<0
     ·clear bG;go_wp2;go_returns;rw[hc.o];exact Z3r 2 dj
     ·have o2:4096<=v:=(by omega);clear bG;go_wp2;go_returns;rw[hc.o];exact Z3r 2 dj
   ·exfalso;apply aZ.o;have:=ar.o
    rwa [List.take_of_length_le (by rw[<-aq.o];omega)] at this
theorem Z7J {w:World} {A:Option Addr} {l:List Nat} (ha:At w A (ivs (l.map Int.ofNat))) (n cap:Nat) (hn:n=l.length) (hl:l.length<=4096) (hv:∀v∈l,v<4096):
  Calls Tryz.prog 126 #[.slice A n cap,.func (.func 127) #[] #[]] w λx w'=>NRes w x w' (Z17 r0 l,0):=by
 have Ha:=h_ ha;have aq:=h_ hn;have Hv:=h_ hv;have bu:n<=4096:=(by omega);have yL:¬(4096:Int)<(n:Int):=(by omega);have fR:=h_ (Zfn w);have mR:=h_ (λ(v:Nat) (h:v<4096)=>show v∈r0 from List.mem_range.2 h);have CO:=h_ (show r0.length=4096 from List.length_range);clear ha hn hv hl;go_enter Tryz.func126,Tryz.ntmps126;go_wp2;go_loop [7,19] (λ_ i=>∃k:Nat,k<=n/\i=.int .i64 k) (λ_ i=>(n-intOf i).toNat);case atStart=>exact⟨0,by omega,rfl⟩
 case round=>
  obtain⟨k,hk,rfl⟩:=hrel;by_cases ab:k<n
  ·have bD:k<l.length:=(by rw[<-aq.o];exact ab);obtain⟨v,eP⟩:∃v,l.getD k 0=v:=⟨_,rfl⟩
   have ku:v<4096:=by
    have h1:l.getD k 0=l[k]:=(by simp[List.getD,bD]);rw[<-eP,h1];exact Hv.o _ (List.getElem_mem _)
   obtain⟨bA,oA,hA,ec,ko⟩:=Ha.o.get k (.int .i64 (v:Int)) (by
    rw[Z2p _ _ (by rw[List.length_map];exact bD)];have h1:(l.map Int.ofNat).getD k 0=((l.getD k 0:Nat):Int):=(by simp[List.getD,bD]);rw[h1,eP])
   subst hA;have o3:¬(v:Int)<0:=(by omega);have o4:¬(4096:Int)<=(v:Int):=(by omega);clear eP ku;go_wp2;go_round;case rel=>exact⟨k+1,by omega,by go_num⟩
   case measure=>simp[intOf]<;>omega
  ·have ef:k=n:=(by omega);subst ef;go_wp2_with fail;refine(fR.o).mono ?_;rintro x w1 ⟨rfl,cA,a7⟩;have aJ:=a7.size;have bE:=Z1g (P:=Tryz.prog) 31 3 _ _ Tryz.underlying31 Z0R rfl (k:Int) k rfl (by omega) (by omega) w1;rw[<-Z5H] at bE;have eV:=Ha.o.below a7;have cT:=cA.lt;have bQ:=cA.alloc (.cells (nc (List.replicate k 0)) 3);have a8:=a7.alloc aJ (.cells (nc (List.replicate k 0)) 3);have mj:=eV.alloc (.cells (nc (List.replicate k 0)) 3);have dz:=Bk.new w1 3 (nc (List.replicate k 0));have Hs:=h_ (show w.heap.size<w1.heap.size/\w.heap.size≠w1.heap.size from⟨by omega,by omega⟩);clear cA a7 eV;go_wp2;go_loopw [8,10,11,12,13,36] (λs8 _ _ _ _ i wr=>∃j:Nat,j<=k/\i=.int .i64 j/\s8=.slice (some ⟨w.heap.size,0,none⟩) 4096 4096/\Bk wr w.heap.size 3 (nc (rowF r0 (l.take j)))/\Bk wr w1.heap.size 3 (nc (Z17 r0 (l.take j)++List.replicate (k-j) 0))/\At wr A (ivs (l.map Int.ofNat))/\Below w.heap.size w wr) (λ_ _ _ _ _ i _=>(k-intOf i).toNat);case atStart=>exact⟨0,by omega,rfl,rfl,bQ,dz,mj,a8⟩
   case round=>
    clear bQ dz mj a8 bE;obtain⟨j,hj,rfl,rfl,aU,bp,ak,hf⟩:=hrel;have gy:∀m∈l.take j,m<4096:=λm hm=>Hv.o m (List.mem_of_mem_take hm);by_cases bK:j<k
    ·have bD:j<l.length:=(by rw[<-aq.o];exact bK);obtain⟨v,eP⟩:∃v,l.getD j 0=v:=⟨_,rfl⟩
     have ku:v<4096:=by
      have h1:l.getD j 0=l[j]:=(by simp[List.getD,bD]);rw[<-eP,h1];exact Hv.o _ (List.getElem_mem _)
     obtain⟨bA,oA,hA,ec,ko⟩:=ak.get j (.int .i64 (v:Int)) (by
      rw[Z2p _ _ (by rw[List.length_map];exact bD)];have h1:(l.map Int.ofNat).getD j 0=((l.getD j 0:Nat):Int):=(by simp[List.getD,bD]);rw[h1,eP])
     subst hA;obtain⟨mV,qG⟩:=Za2 (l.take j) v r0;rw[<-eP,<-Z6A l j bD,eP] at mV qG;have fk:=Z1I (l.take j) r0;rw[List.length_take,Nat.min_eq_left (by omega)] at fk;obtain⟨Fa,x6⟩:=ZlD (l.take j) r0 (λm hm=>mR.o m (gy m hm));have fb:=Fa.trans CO.o;have mW:=x6 v (mR.o v ku);obtain⟨R,hR⟩:∃R,rowF r0 (l.take j)=R:=⟨_,rfl⟩;obtain⟨O,hO⟩:∃O,Z17 r0 (l.take j)=O:=⟨_,rfl⟩;rw[hR] at mV qG aU fb mW;rw[hO] at mV bp fk;have aR:=h_ (ZcG aU fb v mW);have eS:ix R v<4096:=(by rw[<-fb];exact Z9K.2 mW);obtain⟨pl,oO⟩:∃pl,ix R v=pl:=⟨_,rfl⟩;rw[oO] at mV qG aR eS;clear oO;have uz:=h_ mV;have uA:=h_ qG;have oP:=h_ aU;have du:=Zbw O k pl (by omega);rw[fk] at du;have aT:=h_ du;have aj:=bp.put j (.int .i64 ((pl:Nat):Int));rw[Z3C,aT.o] at aj;have fG:(O++List.replicate (k-j) 0).length=k:=(by rw[List.length_append,List.length_replicate];omega);obtain⟨y0,bN⟩:∃y0:Int,wr.cell? ⟨w1.heap.size,j,none⟩=some (.int .i64 y0):=⟨_,by rw[bp.cell,Z1V _ _ (by omega)]⟩;have sV:=bp.frozen j;have eC:=aU.off (p:=⟨w1.heap.size,j,none⟩) (Hs.o.2) (.int .i64 ((pl:Nat):Int));have aL:=hf.setCell (p:=⟨w1.heap.size,j,none⟩) (Nat.le_of_lt Hs.o.1) (.int .i64 ((pl:Nat):Int));have Fb:=h_ (Zbv eC fb pl (by exact eS));have av:=h_ aj;have gz:=h_ aL;clear mV qG du aj fG aU bp hR hO eP fk gy eC aL ak hf fb mW;go_wp2_with fail;refine(aR.o).mono ?_;rintro x w3 ⟨rfl,rfl⟩;go_wp2_with fail;refine(Fb.o).mono ?_;rintro x w4 ⟨rfl,gA,aG⟩;have oQ:=av.o.fr aG (λe=>Hs.o.2 e.symm);have aw:Below w.heap.size w w4:=gz.o.trans (aG.toBelow' gz.o.size (λi hi e=>by have:i=w.heap.size:=e;omega));have yG:=Ha.o.below aw;go_wp2;go_roundw;case rel=>exact⟨j+1,by omega,by go_num,rfl,by rw[uA.o];exact gA,by rw[uz.o];exact oQ,yG,aw⟩
     case measure=>simp[intOf]<;>omega
    ·have qz:j=k:=(by omega);subst qz;have ax:l.take j=l:=List.take_of_length_le (by rw[<-aq.o];exact Nat.le_refl _);rw[ax,Nat.sub_self,List.replicate_zero,List.append_nil] at bp;have bL:=h_ bp.at_;have fk:=h_ (Z1I l r0);clear aU bp ak ax gy;go_wp2;go_returns;have h9:=bL.o;rw[Zkq] at h9;exact⟨.slice (some ⟨w1.heap.size,0,none⟩) j j,rfl,⟨some ⟨w1.heap.size,0,none⟩,j,by rw[List.length_map,fk.o,<-aq.o],h9⟩,hf⟩
end Go.Proofs.YtchokmkfobandaaGreatDoor
