import Derived.Test.YtchokmkfobandaaGreatDoorJ43
set_option linter.unusedVariables false
set_option linter.unusedSimpArgs false
set_option maxRecDepth 100000
set_option maxHeartbeats 8000000
namespace Go.Proofs.YtchokmkfobandaaGreatDoor
open Go.RowKit Go.Proofs Wv Wv.Vi Wv.Rc Wv.Mo Wv.Ru Wv.Tm Wv.Bc
theorem Zht (k:Nat):∀b,(valOf k b).length=k:=by
 induction k with
 |zero=>intro _;rfl
 |succ k ih=>intro b;show(valOf k _).length+1=_;rw[ih]
theorem Z9v (w:Nat):∀(n:Nat) (b:List Bool),(Z3G w n b).length=n/\∀v∈Z3G w n b,v.size=w
 |0,_=>⟨rfl,λv h=>(by cases h)⟩
 |n+1,b=>by
  obtain⟨h1,h2⟩:=Z9v w n (b.drop (2*w));refine⟨by show(Z3G w n _).length+1=_;rw[h1],λv hv=> ?_⟩;rcases List.mem_cons.1 hv with rfl|hv
  ·rw[Z00,Zht]
  ·exact h2 v hv
theorem ZmS (x:List Int) (vs:List ByteArray) (gb:∀v∈vs,v.size<=128) (st:ByteArray):∀(k i:Nat) (last:ByteArray) (r:List ByteArray),runB x vs st k i last=some r->r.length=k/\∀v∈r,v.size<=128:=by
 intro k;induction k with
 |zero=>intro i last r h;injection h with h;subst h;exact⟨rfl,λv h=>(by cases h)⟩
 |succ k ih=>
  intro i last r h;rw[runB] at h;cases hl:look x vs (i:Int) with
  |some v=>
   rw[hl] at h;simp only at h;cases hr:runB x vs st k (i+1) v with
   |none=>rw[hr] at h;cases h
   |some q=>
    rw[hr] at h;injection h with h;subst h;obtain⟨h1,h2⟩:=ih _ _ _ hr;refine⟨by simp[h1],λu hu=> ?_⟩;rcases List.mem_cons.1 hu with rfl|hu
    ·exact gb _ (Z82 _ _ hl)
    ·exact h2 u hu
  |none=>
   rw[hl] at h;simp only at h;by_cases ha:(addV (toL last) (toL st)).2=true
   ·rw[if_pos ha] at h;cases hr:runB x vs st k (i+1) (bs (addV (toL last) (toL st)).1) with
    |none=>rw[hr] at h;cases h
    |some q=>
     rw[hr] at h;injection h with h;subst h;obtain⟨h1,h2⟩:=ih _ _ _ hr;refine⟨by simp[h1],λu hu=> ?_⟩;rcases List.mem_cons.1 hu with rfl|hu
     ·rw[Z00];exact(Z1o.1 (Z6w (Prod.ext rfl ha)).1).2.2
     ·exact h2 u hu
   ·rw[if_neg ha] at h;cases h
theorem ZmT {w:Int} {l r:List ByteArray} (h:extL w l=some r):∀v∈r,v.size<=128:=λv hv=>by
 rw[<-Z01];exact(Z0t.1 (Z0L.1 ((Z4A h).1 v hv)).1).2.2
theorem Zk4 {m:Nat} (hm:m<=128) {data:List UInt8} {l:List ByteArray} (h:Z5S (m:Int) data=some l):l.length<=4096/\∀v∈l,v.size<=128:=by
 unfold Z5S at h;cases hr:rnum data 3 with
 |none=>rw[hr] at h;cases h
 |some p=>
  obtain⟨c,r⟩:=p;rw[hr] at h;simp only at h;have OU:∀q,Z2k (m:Int) r=some q->q.length<=4096/\∀v∈q,v.size<=128:=λq hq=>⟨(Z3g hq).2,(Z3g hq).1⟩;by_cases h0:c=0
  ·rw[if_pos h0] at h;unfold Z5R at h;cases h1:rnum r 4096 with
   |none=>rw[h1] at h;cases h
   |some p=>
    obtain⟨n,t⟩:=p;rw[h1] at h;simp only at h;cases h2:Bit.nrd (bs t) with
    |none=>rw[h2] at h;cases h
    |some k=>
     rw[h2] at h;simp only at h;split at h
     ·injection h with h;subst h;obtain⟨s1,s2⟩:=Z9v ((m:Int)).toNat n (Bit.rbits (bs t) k);exact⟨by rw[s1];exact(Z4N h1).2.1,λv hv=>by rw[s2 v hv,Int.toNat_natCast];exact hm⟩
     ·cases h
  ·rw[if_neg h0] at h;by_cases h1:c=1
   ·rw[if_pos h1] at h;cases bQ:rnum r 4096 with
    |none=>
     unfold Z1B at h;rw[bQ] at h;cases h
    |some p=>
     obtain⟨n,t⟩:=p;obtain⟨_,bu,_⟩:=Z4N bQ;by_cases hn:n=0
     ·subst hn;unfold Z1B at h;rw[bQ] at h;simp only[if_true] at h;split at h
      ·injection h with h;subst h;exact⟨Nat.zero_le _,λv h=>(by cases h)⟩
      ·cases h
     ·obtain⟨t1,S1,e1,t2,S2,e2,t3,S3,e3,t4,S4,e4,_,_,_,_,_,_,_,bx⟩:=Zc2 t;rcases bx with ⟨_,dt⟩|⟨_,f,s2,st,s3,a,s4,r1,r2,r3,_⟩
      ·rw[Z6X bQ hn dt] at h;cases h
      ·rw[Z6W bQ hn r1 r2 r3] at h;unfold Z9q at h;split at h
       ·cases h
       ·cases he:extL (m:Int) (dec s4 4096).1 with
        |none=>rw[he] at h;cases h
        |some vs=>
         rw[he] at h;simp only at h;split at h
         ·cases h
         ·rename_i gg;split at h
          ·cases h
          ·split at h
           ·cases h
           ·split at h
            ·cases hq:runB (atS (-1) (decn a 4096).1) vs (bs (if st=[] then[] else(ext (m:Int) st).1)) (n-1) 1 (bs (ext (m:Int) f).1) with
             |none=>rw[hq] at h;cases h
             |some q=>
              rw[hq] at h;injection h with h;subst h;obtain⟨q1,q2⟩:=ZmS _ vs (ZmT he) _ _ _ _ _ hq;refine⟨by simp[q1];omega,λu hu=> ?_⟩;rcases List.mem_cons.1 hu with rfl|hu
              ·rw[Z00];exact ZaH (by simpa using gg)
              ·exact q2 u hu
            ·cases h
   ·rw[if_neg h1] at h;by_cases h2:c=2
    ·rw[if_pos h2] at h;cases hq:Z2k (m:Int) r with
     |none=>rw[hq] at h;cases h
     |some q=>
      rw[hq] at h;injection h with h;subst h;obtain⟨q1,q2⟩:=OU q hq;exact⟨by rw[Z2A];exact q1,Z60 q2 _⟩
    ·rw[if_neg h2] at h;exact OU l h
def RdC (Jx:FuncId) (m:Nat) (s:ByteArray) (o:Option (List ByteArray)):Prop:=
 ∀W2 b,RV W2 b s 0->Calls Tryz.prog Jx #[.agg #[.int .i64 (m:Int)],.pointer (some ⟨b,0,none⟩)] W2 λx w'=>FinR b W2 o x w'
theorem Z0o {w w':World} (e:Nat) (hb:Below w.heap.size w w'):TRes w ([],e) (.returned (.tuple #[.slice none 0 0,.int .i64 (e:Int)])) w':=⟨_,rfl,SRes.nil _,hb⟩
theorem Z9w {w:World} {m c:Nat} (dh:1<=m) (hm:m<=128) (data:ByteArray) (hd:data.size<=1000000000) {r:List UInt8} (hr:rnum (toL data) 3=some (c,r)) (most:Int)
  (cP:∀w2:World,(Instr.lookup 149 (.map (some w2.heap.size)) (.int .i64 (c:Int)) false).run Tryz.prog (w2.alloc (.map Z0n 4))=.ok (.func (.func 156) #[] #[]) (w2.alloc (.map Z0n 4)))
  (o:Option (List ByteArray)) (hw:RdC 156 m (bs r) o) (ad:∀l,o=some l->l.length<=4096/\∀v∈l,v.size<=128):
  Calls Tryz.prog 67 #[.int .i64 (m:Int),.string data,.int .i64 most] w λx w'=>TRes w (okB (m:Int) (toL data) most o) x w':=by
 obtain⟨dS,fl,cT⟩:=Z0l hr;rw[Z09,show(((3:Nat):Int))=3 from rfl] at dS;have HN:=h_ (λW2 b (h:RV W2 b data 0)=>Z0h h (by omega) 3);rw[dS] at HN;have fK:=h_ (Z0M data w);have HE:=h_ (λW2 b (h:RV W2 b (bs r) 0)=>Z0a h);have dR:=h_ cP;have HW:=h_ hw;unfold RdC at HW;have cH:=h_ ad;have pL:(1:Int)<=(m:Int):=(by omega);have wQ:(m:Int)<=128:=(by omega);generalize bs r=SR at*;obtain⟨R,hR⟩:∃R,okB (m:Int) (toL data) most o=R:=⟨_,rfl⟩;have HR:=h_ hR;rw[hR];clear dS cP hw ad hR hr cT;go_enter Tryz.func67,Tryz.ntmps67;go_wp2_with fail;refine(fK.o).mono ?_;rintro x w1 ⟨rfl,aW,a7⟩;have K1:=h_ (HN.o w1 _ aW);have an:=h_ a7;clear aW a7 HN fK;go_wp2_with fail;refine(K1.out).mono ?_;rintro x w2 ⟨rfl,bj,ah⟩;have al:=h_ (Z0b an.o (Nat.le_refl _) ah);have eK:=h_ bj;have K2:=h_ (HE.o w2 _ bj);clear bj ah K1 HE an;go_wp2_with fail;refine(K2.out).mono ?_;rintro x w3 ⟨rfl,rfl⟩;clear K2;go_wp2_with fail;refine(Z2U w2).mono ?_;rintro x w3 ⟨rfl,rfl⟩;have cZ:=dR.o w2;have ae:=al.o.alloc al.o.size (.map Z0n 4);have aF:=h_ ae;have K3:=h_ (HW.o _ _ (Bk.alloc eK.o (.map Z0n 4)));clear ae HW eK al dR;go_wp2_with fail;refine(K3.out).mono ?_;rintro x w4 ⟨aG,hx⟩;have bo:=h_ (Z0b aF.o (Nat.le_refl _) aG);clear aG aF K3 cZ;cases o with
 |none=>
  obtain⟨A,n,k,rfl⟩:=hx;have gN:Hid (R=([],12)):=h_ HR.o.symm;clear HR cH;go_wp2;go_returns;rw[gN.o];exact Z0o 12 bo.o
 |some l=>
  obtain⟨A,k,rfl,ak⟩:=hx;obtain⟨fV,kh⟩:=cH.o l rfl;have K5:=h_ (Z25 ak (λs hs=>by have:=kh s hs;omega) l.length k rfl (by omega) (m:Int));have bd:=h_ ak;have dU:R=if(Z12 (m:Int) l).2≠0\/(Z12 (m:Int) l).1≠toL data then([],12) else if most<(l.length:Int) then([],2) else(l,0):=HR.o.symm
  unfold ERes at K5;have aV:=h_ dU;clear ak dU HR cH kh;generalize Z12 (m:Int) l=EE at*;obtain⟨E,e⟩:=EE;simp only at K5;have ga:(bs E=data)↔E=toL data:=⟨λh=>by rw[<-h,Z0d],λh=>by rw[h,Z09]⟩;have aJ:=Z6K (a:=bs E) (b:=data);have nz:=Z3F (a:=bs E) (b:=data);go_wp2_with fail;refine(K5.out).mono ?_;rintro x w5 ⟨rfl,aM⟩;have bO:=h_ (bo.o.trans (aM.mono bo.o.size));have gB:=h_ (bd.o.below aM);clear aM bo bd K5;have bJ:=aV.o;try simp only at bJ
  by_cases he:e=0
  ·subst he;by_cases hE:E=toL data
   ·rw[if_neg (by rintro(h|h);exact h rfl;exact h hE)] at bJ;rw[decide_eq_true (ga.2 hE)] at aJ nz;have cO:((bs E).toList !=data.toList)=false:=aJ;by_cases mG:most<(l.length:Int)
    ·rw[if_pos mG] at bJ;have cU:=h_ bJ;generalize bs E=SE at*;clear bJ aJ ga hE aV;go_wp2;go_returns;rw[cU.o];exact Z0o 2 bO.o
    ·rw[if_neg mG] at bJ;have cU:=h_ bJ;generalize bs E=SE at*;clear bJ aJ ga hE aV;go_wp2;go_returns;rw[cU.o];exact⟨_,rfl,⟨A,k,rfl,gB.o⟩,bO.o⟩
   ·rw[if_pos (.inr hE)] at bJ;rw[decide_eq_false (λh=>hE (ga.1 h))] at aJ nz;have cO:((bs E).toList !=data.toList)=true:=aJ;have cU:=h_ bJ;generalize bs E=SE at*;clear bJ aJ ga hE aV;go_wp2;go_returns;rw[cU.o];exact Z0o 12 bO.o
  ·rw[if_pos (.inl he)] at bJ;have ay:((e:Int) !=0)=true:=(by rw[bne_iff_ne];omega);have cU:=h_ bJ;generalize bs E=SE at*;clear bJ aJ ga aV he;go_wp2;go_returns;rw[cU.o];exact Z0o 12 bO.o
theorem Z9x {w:World} {m c:Nat} (dh:1<=m) (hm:m<=128) (data:ByteArray) (hd:data.size<=1000000000) {r:List UInt8} (hr:rnum (toL data) 3=some (c,r)) (most:Int)
  (cP:∀w2:World,(Instr.lookup 149 (.map (some w2.heap.size)) (.int .i64 (c:Int)) false).run Tryz.prog (w2.alloc (.map Z0n 4))=.ok (.func (.func 157) #[] #[]) (w2.alloc (.map Z0n 4)))
  (o:Option (List ByteArray)) (hw:RdC 157 m (bs r) o) (ad:∀l,o=some l->l.length<=4096/\∀v∈l,v.size<=128):
  Calls Tryz.prog 67 #[.int .i64 (m:Int),.string data,.int .i64 most] w λx w'=>TRes w (okB (m:Int) (toL data) most o) x w':=by
 obtain⟨dS,fl,cT⟩:=Z0l hr;rw[Z09,show(((3:Nat):Int))=3 from rfl] at dS;have HN:=h_ (λW2 b (h:RV W2 b data 0)=>Z0h h (by omega) 3);rw[dS] at HN;have fK:=h_ (Z0M data w);have HE:=h_ (λW2 b (h:RV W2 b (bs r) 0)=>Z0a h);have dR:=h_ cP;have HW:=h_ hw;unfold RdC at HW;have cH:=h_ ad;have pL:(1:Int)<=(m:Int):=(by omega);have wQ:(m:Int)<=128:=(by omega);generalize bs r=SR at*;obtain⟨R,hR⟩:∃R,okB (m:Int) (toL data) most o=R:=⟨_,rfl⟩;have HR:=h_ hR;rw[hR];clear dS cP hw ad hR hr cT;go_enter Tryz.func67,Tryz.ntmps67;go_wp2_with fail;refine(fK.o).mono ?_;rintro x w1 ⟨rfl,aW,a7⟩;have K1:=h_ (HN.o w1 _ aW);have an:=h_ a7;clear aW a7 HN fK;go_wp2_with fail;refine(K1.out).mono ?_;rintro x w2 ⟨rfl,bj,ah⟩;have al:=h_ (Z0b an.o (Nat.le_refl _) ah);have eK:=h_ bj;have K2:=h_ (HE.o w2 _ bj);clear bj ah K1 HE an;go_wp2_with fail;refine(K2.out).mono ?_;rintro x w3 ⟨rfl,rfl⟩;clear K2;go_wp2_with fail;refine(Z2U w2).mono ?_;rintro x w3 ⟨rfl,rfl⟩;have cZ:=dR.o w2;have ae:=al.o.alloc al.o.size (.map Z0n 4);have aF:=h_ ae;have K3:=h_ (HW.o _ _ (Bk.alloc eK.o (.map Z0n 4)));clear ae HW eK al dR;go_wp2_with fail;refine(K3.out).mono ?_;rintro x w4 ⟨aG,hx⟩;have bo:=h_ (Z0b aF.o (Nat.le_refl _) aG);clear aG aF K3 cZ;cases o with
 |none=>
  obtain⟨A,n,k,rfl⟩:=hx;have gN:Hid (R=([],12)):=h_ HR.o.symm;clear HR cH;go_wp2;go_returns;rw[gN.o];exact Z0o 12 bo.o
 |some l=>
  obtain⟨A,k,rfl,ak⟩:=hx;obtain⟨fV,kh⟩:=cH.o l rfl;have K5:=h_ (Z25 ak (λs hs=>by have:=kh s hs;omega) l.length k rfl (by omega) (m:Int));have bd:=h_ ak;have dU:R=if(Z12 (m:Int) l).2≠0\/(Z12 (m:Int) l).1≠toL data then([],12) else if most<(l.length:Int) then([],2) else(l,0):=HR.o.symm
  unfold ERes at K5;have aV:=h_ dU;clear ak dU HR cH kh;generalize Z12 (m:Int) l=EE at*;obtain⟨E,e⟩:=EE;simp only at K5;have ga:(bs E=data)↔E=toL data:=⟨λh=>by rw[<-h,Z0d],λh=>by rw[h,Z09]⟩;have aJ:=Z6K (a:=bs E) (b:=data);have nz:=Z3F (a:=bs E) (b:=data);go_wp2_with fail;refine(K5.out).mono ?_;rintro x w5 ⟨rfl,aM⟩;have bO:=h_ (bo.o.trans (aM.mono bo.o.size));have gB:=h_ (bd.o.below aM);clear aM bo bd K5;have bJ:=aV.o;try simp only at bJ
  by_cases he:e=0
  ·subst he;by_cases hE:E=toL data
   ·rw[if_neg (by rintro(h|h);exact h rfl;exact h hE)] at bJ;rw[decide_eq_true (ga.2 hE)] at aJ nz;have cO:((bs E).toList !=data.toList)=false:=aJ;by_cases mG:most<(l.length:Int)
    ·rw[if_pos mG] at bJ;have cU:=h_ bJ;generalize bs E=SE at*;clear bJ aJ ga hE aV;go_wp2;go_returns;rw[cU.o];exact Z0o 2 bO.o
    ·rw[if_neg mG] at bJ;have cU:=h_ bJ;generalize bs E=SE at*;clear bJ aJ ga hE aV;go_wp2;go_returns;rw[cU.o];exact⟨_,rfl,⟨A,k,rfl,gB.o⟩,bO.o⟩
   ·rw[if_pos (.inr hE)] at bJ;rw[decide_eq_false (λh=>hE (ga.1 h))] at aJ nz;have cO:((bs E).toList !=data.toList)=true:=aJ;have cU:=h_ bJ;generalize bs E=SE at*;clear bJ aJ ga hE aV;go_wp2;go_returns;rw[cU.o];exact Z0o 12 bO.o
  ·rw[if_pos (.inl he)] at bJ;have ay:((e:Int) !=0)=true:=(by rw[bne_iff_ne];omega);have cU:=h_ bJ;generalize bs E=SE at*;clear bJ aJ ga aV he;go_wp2;go_returns;rw[cU.o];exact Z0o 12 bO.o
theorem Z9y {w:World} {m c:Nat} (dh:1<=m) (hm:m<=128) (data:ByteArray) (hd:data.size<=1000000000) {r:List UInt8} (hr:rnum (toL data) 3=some (c,r)) (most:Int)
  (cP:∀w2:World,(Instr.lookup 149 (.map (some w2.heap.size)) (.int .i64 (c:Int)) false).run Tryz.prog (w2.alloc (.map Z0n 4))=.ok (.func (.func 158) #[] #[]) (w2.alloc (.map Z0n 4)))
  (o:Option (List ByteArray)) (hw:RdC 158 m (bs r) o) (ad:∀l,o=some l->l.length<=4096/\∀v∈l,v.size<=128):
  Calls Tryz.prog 67 #[.int .i64 (m:Int),.string data,.int .i64 most] w λx w'=>TRes w (okB (m:Int) (toL data) most o) x w':=by
 obtain⟨dS,fl,cT⟩:=Z0l hr;rw[Z09,show(((3:Nat):Int))=3 from rfl] at dS;have HN:=h_ (λW2 b (h:RV W2 b data 0)=>Z0h h (by omega) 3);rw[dS] at HN;have fK:=h_ (Z0M data w);have HE:=h_ (λW2 b (h:RV W2 b (bs r) 0)=>Z0a h);have dR:=h_ cP;have HW:=h_ hw;unfold RdC at HW;have cH:=h_ ad;have pL:(1:Int)<=(m:Int):=(by omega);have wQ:(m:Int)<=128:=(by omega);generalize bs r=SR at*;obtain⟨R,hR⟩:∃R,okB (m:Int) (toL data) most o=R:=⟨_,rfl⟩;have HR:=h_ hR;rw[hR];clear dS cP hw ad hR hr cT;go_enter Tryz.func67,Tryz.ntmps67;go_wp2_with fail;refine(fK.o).mono ?_;rintro x w1 ⟨rfl,aW,a7⟩;have K1:=h_ (HN.o w1 _ aW);have an:=h_ a7;clear aW a7 HN fK;go_wp2_with fail;refine(K1.out).mono ?_;rintro x w2 ⟨rfl,bj,ah⟩;have al:=h_ (Z0b an.o (Nat.le_refl _) ah);have eK:=h_ bj;have K2:=h_ (HE.o w2 _ bj);clear bj ah K1 HE an;go_wp2_with fail;refine(K2.out).mono ?_;rintro x w3 ⟨rfl,rfl⟩;clear K2;go_wp2_with fail;refine(Z2U w2).mono ?_;rintro x w3 ⟨rfl,rfl⟩;have cZ:=dR.o w2;have ae:=al.o.alloc al.o.size (.map Z0n 4);have aF:=h_ ae;have K3:=h_ (HW.o _ _ (Bk.alloc eK.o (.map Z0n 4)));clear ae HW eK al dR;go_wp2_with fail;refine(K3.out).mono ?_;rintro x w4 ⟨aG,hx⟩;have bo:=h_ (Z0b aF.o (Nat.le_refl _) aG);clear aG aF K3 cZ;cases o with
 |none=>
  obtain⟨A,n,k,rfl⟩:=hx;have gN:Hid (R=([],12)):=h_ HR.o.symm;clear HR cH;go_wp2;go_returns;rw[gN.o];exact Z0o 12 bo.o
 |some l=>
  obtain⟨A,k,rfl,ak⟩:=hx;obtain⟨fV,kh⟩:=cH.o l rfl;have K5:=h_ (Z25 ak (λs hs=>by have:=kh s hs;omega) l.length k rfl (by omega) (m:Int));have bd:=h_ ak;have dU:R=if(Z12 (m:Int) l).2≠0\/(Z12 (m:Int) l).1≠toL data then([],12) else if most<(l.length:Int) then([],2) else(l,0):=HR.o.symm
  unfold ERes at K5;have aV:=h_ dU;clear ak dU HR cH kh;generalize Z12 (m:Int) l=EE at*;obtain⟨E,e⟩:=EE;simp only at K5;have ga:(bs E=data)↔E=toL data:=⟨λh=>by rw[<-h,Z0d],λh=>by rw[h,Z09]⟩;have aJ:=Z6K (a:=bs E) (b:=data);have nz:=Z3F (a:=bs E) (b:=data);go_wp2_with fail;refine(K5.out).mono ?_;rintro x w5 ⟨rfl,aM⟩;have bO:=h_ (bo.o.trans (aM.mono bo.o.size));have gB:=h_ (bd.o.below aM);clear aM bo bd K5;have bJ:=aV.o;try simp only at bJ
  by_cases he:e=0
  ·subst he;by_cases hE:E=toL data
   ·rw[if_neg (by rintro(h|h);exact h rfl;exact h hE)] at bJ;rw[decide_eq_true (ga.2 hE)] at aJ nz;have cO:((bs E).toList !=data.toList)=false:=aJ;by_cases mG:most<(l.length:Int)
    ·rw[if_pos mG] at bJ;have cU:=h_ bJ;generalize bs E=SE at*;clear bJ aJ ga hE aV;go_wp2;go_returns;rw[cU.o];exact Z0o 2 bO.o
    ·rw[if_neg mG] at bJ;have cU:=h_ bJ;generalize bs E=SE at*;clear bJ aJ ga hE aV;go_wp2;go_returns;rw[cU.o];exact⟨_,rfl,⟨A,k,rfl,gB.o⟩,bO.o⟩
   ·rw[if_pos (.inr hE)] at bJ;rw[decide_eq_false (λh=>hE (ga.1 h))] at aJ nz;have cO:((bs E).toList !=data.toList)=true:=aJ;have cU:=h_ bJ;generalize bs E=SE at*;clear bJ aJ ga hE aV;go_wp2;go_returns;rw[cU.o];exact Z0o 12 bO.o
  ·rw[if_pos (.inl he)] at bJ;have ay:((e:Int) !=0)=true:=(by rw[bne_iff_ne];omega);have cU:=h_ bJ;generalize bs E=SE at*;clear bJ aJ ga aV he;go_wp2;go_returns;rw[cU.o];exact Z0o 12 bO.o
theorem Z9z {w:World} {m c:Nat} (dh:1<=m) (hm:m<=128) (data:ByteArray) (hd:data.size<=1000000000) {r:List UInt8} (hr:rnum (toL data) 3=some (c,r)) (most:Int)
  (cP:∀w2:World,(Instr.lookup 149 (.map (some w2.heap.size)) (.int .i64 (c:Int)) false).run Tryz.prog (w2.alloc (.map Z0n 4))=.ok (.func (.func 159) #[] #[]) (w2.alloc (.map Z0n 4)))
  (o:Option (List ByteArray)) (hw:RdC 159 m (bs r) o) (ad:∀l,o=some l->l.length<=4096/\∀v∈l,v.size<=128):
  Calls Tryz.prog 67 #[.int .i64 (m:Int),.string data,.int .i64 most] w λx w'=>TRes w (okB (m:Int) (toL data) most o) x w':=by
 obtain⟨dS,fl,cT⟩:=Z0l hr;rw[Z09,show(((3:Nat):Int))=3 from rfl] at dS;have HN:=h_ (λW2 b (h:RV W2 b data 0)=>Z0h h (by omega) 3);rw[dS] at HN;have fK:=h_ (Z0M data w);have HE:=h_ (λW2 b (h:RV W2 b (bs r) 0)=>Z0a h);have dR:=h_ cP;have HW:=h_ hw;unfold RdC at HW;have cH:=h_ ad;have pL:(1:Int)<=(m:Int):=(by omega);have wQ:(m:Int)<=128:=(by omega);generalize bs r=SR at*;obtain⟨R,hR⟩:∃R,okB (m:Int) (toL data) most o=R:=⟨_,rfl⟩;have HR:=h_ hR;rw[hR];clear dS cP hw ad hR hr cT;go_enter Tryz.func67,Tryz.ntmps67;go_wp2_with fail;refine(fK.o).mono ?_;rintro x w1 ⟨rfl,aW,a7⟩;have K1:=h_ (HN.o w1 _ aW);have an:=h_ a7;clear aW a7 HN fK;go_wp2_with fail;refine(K1.out).mono ?_;rintro x w2 ⟨rfl,bj,ah⟩;have al:=h_ (Z0b an.o (Nat.le_refl _) ah);have eK:=h_ bj;have K2:=h_ (HE.o w2 _ bj);clear bj ah K1 HE an;go_wp2_with fail;refine(K2.out).mono ?_;rintro x w3 ⟨rfl,rfl⟩;clear K2;go_wp2_with fail;refine(Z2U w2).mono ?_;rintro x w3 ⟨rfl,rfl⟩;have cZ:=dR.o w2;have ae:=al.o.alloc al.o.size (.map Z0n 4);have aF:=h_ ae;have K3:=h_ (HW.o _ _ (Bk.alloc eK.o (.map Z0n 4)));clear ae HW eK al dR;go_wp2_with fail;refine(K3.out).mono ?_;rintro x w4 ⟨aG,hx⟩;have bo:=h_ (Z0b aF.o (Nat.le_refl _) aG);clear aG aF K3 cZ;cases o with
 |none=>
  obtain⟨A,n,k,rfl⟩:=hx;have gN:Hid (R=([],12)):=h_ HR.o.symm;clear HR cH;go_wp2;go_returns;rw[gN.o];exact Z0o 12 bo.o
 |some l=>
  obtain⟨A,k,rfl,ak⟩:=hx;obtain⟨fV,kh⟩:=cH.o l rfl;have K5:=h_ (Z25 ak (λs hs=>by have:=kh s hs;omega) l.length k rfl (by omega) (m:Int));have bd:=h_ ak;have dU:R=if(Z12 (m:Int) l).2≠0\/(Z12 (m:Int) l).1≠toL data then([],12) else if most<(l.length:Int) then([],2) else(l,0):=HR.o.symm
  unfold ERes at K5;have aV:=h_ dU;clear ak dU HR cH kh;generalize Z12 (m:Int) l=EE at*;obtain⟨E,e⟩:=EE;simp only at K5;have ga:(bs E=data)↔E=toL data:=⟨λh=>by rw[<-h,Z0d],λh=>by rw[h,Z09]⟩;have aJ:=Z6K (a:=bs E) (b:=data);have nz:=Z3F (a:=bs E) (b:=data);go_wp2_with fail;refine(K5.out).mono ?_;rintro x w5 ⟨rfl,aM⟩;have bO:=h_ (bo.o.trans (aM.mono bo.o.size));have gB:=h_ (bd.o.below aM);clear aM bo bd K5;have bJ:=aV.o;try simp only at bJ
  by_cases he:e=0
  ·subst he;by_cases hE:E=toL data
   ·rw[if_neg (by rintro(h|h);exact h rfl;exact h hE)] at bJ;rw[decide_eq_true (ga.2 hE)] at aJ nz;have cO:((bs E).toList !=data.toList)=false:=aJ;by_cases mG:most<(l.length:Int)
    ·rw[if_pos mG] at bJ;have cU:=h_ bJ;generalize bs E=SE at*;clear bJ aJ ga hE aV;go_wp2;go_returns;rw[cU.o];exact Z0o 2 bO.o
    ·rw[if_neg mG] at bJ;have cU:=h_ bJ;generalize bs E=SE at*;clear bJ aJ ga hE aV;go_wp2;go_returns;rw[cU.o];exact⟨_,rfl,⟨A,k,rfl,gB.o⟩,bO.o⟩
   ·rw[if_pos (.inr hE)] at bJ;rw[decide_eq_false (λh=>hE (ga.1 h))] at aJ nz;have cO:((bs E).toList !=data.toList)=true:=aJ;have cU:=h_ bJ;generalize bs E=SE at*;clear bJ aJ ga hE aV;go_wp2;go_returns;rw[cU.o];exact Z0o 12 bO.o
  ·rw[if_pos (.inl he)] at bJ;have ay:((e:Int) !=0)=true:=(by rw[bne_iff_ne];omega);have cU:=h_ bJ;generalize bs E=SE at*;clear bJ aJ ga aV he;go_wp2;go_returns;rw[cU.o];exact Z0o 12 bO.o
theorem ZaY {w:World} (W:Int) (data:ByteArray) (hd:data.size<=1000000000) (most:Int):
  Calls Tryz.prog 67 #[.int .i64 W,.string data,.int .i64 most] w λx w'=>TRes w (decB W (toL data) most) x w':=by
 unfold decB;by_cases h1:W<1
 ·rw[if_pos (.inl h1)];go_enter Tryz.func67,Tryz.ntmps67;go_wp2_with fail;go_returns;exact Z0o 1 (Below.refl _ _)
 ·by_cases h2:128<W
  ·rw[if_pos (.inr h2)];go_enter Tryz.func67,Tryz.ntmps67;go_wp2_with fail;go_returns;exact Z0o 1 (Below.refl _ _)
  ·rw[if_neg (by omega)];obtain⟨m,rfl⟩:∃m:Nat,W=m:=⟨W.toNat,by omega⟩;have dh:1<=m:=(by omega);have eA:m<=128:=(by omega);cases hr:rnum (toL data) 3 with
   |none=>
    have hb:Z5S (m:Int) (toL data)=none:=(by unfold Z5S;rw[hr]);rw[hb];obtain⟨e,he,dS⟩:=Z11 hr;rw[Z09,show(((3:Nat):Int))=3 from rfl] at dS;have HN:=h_ (λW2 b (h:RV W2 b data 0)=>Z0h h (by omega) 3);rw[dS] at HN;have fK:=h_ (Z0M data w);have HE:=h_ (λW2 b (h:RV W2 b data e)=>Z0a h);have ay:((e:Int) !=0)=true:=(by rw[bne_iff_ne];omega);clear dS hr hb he;go_enter Tryz.func67,Tryz.ntmps67;go_wp2_with fail;refine(fK.o).mono ?_;rintro x w1 ⟨rfl,aW,a7⟩;have K1:=h_ (HN.o w1 _ aW);have an:=h_ a7;clear aW a7 HN fK;go_wp2_with fail;refine(K1.out).mono ?_;rintro x w2 ⟨rfl,bj,ah⟩;have al:=h_ (Z0b an.o (Nat.le_refl _) ah);have K2:=h_ (HE.o w2 _ bj);clear bj ah K1 HE an;go_wp2_with fail;refine(K2.out).mono ?_;rintro x w3 ⟨rfl,rfl⟩;clear K2;go_wp2;go_returns;exact Z0o 12 al.o
   |some p=>
    obtain⟨c,r⟩:=p;obtain⟨_,fl,cT⟩:=Z0l hr;have fb:(bs r).size<=1000000000:=(by rw[Z00];rw[Z01] at cT;omega);have hl:=λ(k:Nat) (hk:k<=3) (w2:World)=>Zdr w2 k hk (w2.alloc (.map Z0n 4)) (Below.refl _ _);have ad:=λl (h:Z5S (m:Int) (toL data)=some l)=>Zk4 eA h;have il:Z5S (m:Int) (toL data)=if c=0 then Z5R (m:Int) r else if c=1 then Z1B (m:Int) r else if c=2 then(Z2k (m:Int) r).map (Z14 (bs (allV (m:Int) 48))) else Z2k (m:Int) r:=by unfold Z5S;rw[hr]
    rcases(show c=0\/c=1\/c=2\/c=3 by omega) with rfl|rfl|rfl|rfl
    ·rw[if_pos rfl] at il
     exact Z9w dh eA data hd hr most (λw2=>hl 0 (by omega) w2) _ (λW2 b h=>by
      have:=Zdp h fb dh eA;rw[Z0d,<-il] at this;exact this) ad
    ·rw[if_neg (by decide),if_pos rfl] at il
     exact Z9x dh eA data hd hr most (λw2=>hl 1 (by omega) w2) _ (λW2 b h=>by
      have:=ZdD h fb dh eA;rw[Z0d,<-il] at this;exact this) ad
    ·rw[if_neg (by decide),if_neg (by decide),if_pos rfl] at il
     exact Z9y dh eA data hd hr most (λw2=>hl 2 (by omega) w2) _ (λW2 b h=>by
      have:=(Zdc h fb (m:Int)).mono λx w' h=>Z4O h;rw[Z0d,<-il] at this;exact this) ad
    ·rw[if_neg (by decide),if_neg (by decide),if_neg (by decide)] at il
     exact Z9z dh eA data hd hr most (λw2=>hl 3 (by omega) w2) _ (λW2 b h=>by
      have:=(Z6S h fb (m:Int)).mono λx w' h=>Z4O h;rw[Z0d,<-il] at this;exact this) ad
end Go.Proofs.YtchokmkfobandaaGreatDoor
