import Derived.Test.YtchokmkfobandaaGreatDoorJ15
import Derived.Test.YtchokmkfobandaaGreatDoorJ20
set_option linter.unusedVariables false
set_option linter.unusedSimpArgs false
set_option maxRecDepth 100000
set_option maxHeartbeats 8000000
namespace Go.Proofs.YtchokmkfobandaaGreatDoor.Bio
open Go.RowKit Go.Proofs Wv Wv.Bit
theorem Z59 (s:ByteArray) (h:s.size-1<s.size):s.data.toList.getD (s.size-1) 0=s[s.size-1]:=by
 simp only[List.getD,Array.getElem?_toList];rw[Array.getElem?_eq_getElem (show s.size-1<s.data.size from h)];rfl
theorem Z97 (s:ByteArray):s.toList.length=s.size:=by
 rw[Lib.toList_data,<-Lib.size_eq]
theorem Z1R (s:ByteArray) (h:0<s.size):¬s.toList=[]:=λe=>by
 have:=Z97 s;rw[e] at this;simp at this;omega
theorem Z0f (s:ByteArray) (h:0<s.size):s.toList.isEmpty=false:=by
 have:=Z1R s h;simpa using this
theorem newreader_none (s:ByteArray) (w:World) (hs:s.size<=9223372036854775807) (h8:s.size<=1000000000000000) (h:nrd s=none):
  Calls Tryz.prog 202 #[.string s] w λe w'=>e=.returned (.tuple #[.pointer none,.int .i64 12])/\Below w.heap.size w w':=by
 by_cases h0:s.size=0
 ·have he:s=⟨#[]⟩:=by
   apply Vck;exact Array.eq_empty_of_size_eq_zero h0
  subst he;clear h h0 hs h8;go_enter Tryz.func202,Tryz.ntmps202;go_wp2;go_ret2;exact⟨rfl,Vae _ _⟩
 ·have bU:0<s.size:=(by omega);have ab:s.size-1<s.size:=(by omega);obtain⟨x,hx⟩:∃x,s[s.size-1]=x:=⟨_,rfl⟩;have cU:s.data.toList.getD (s.size-1) 0=x:=(by rw[Z59 s ab,hx]);have hE:=Z0f s bU;have za:=Z1R s bU;by_cases hz:x=0
  ·have hb:((x.toNat:Int)==0)=true:=(by subst hz;rfl);clear h cU h0 hz;go_enter Tryz.func202,Tryz.ntmps202;go_wp2;go_ret2;exact⟨rfl,Vae _ _⟩
  ·have hb:((x.toNat:Int)==0)=false:=by
    rw[Vam];intro e
    exact hz (by
     have e2:x.toNat=0:=(by omega);have:=congrArg UInt8.ofNat e2;simpa using this)
   have hn:65536<8*s.size-1-Lib.trailingZeros8 x.toNat:=by
    unfold nrd at h;rw[Vad h0,cU,Vad hz] at h;split at h
    ·assumption
    ·cases h
   have ht:Lib.trailingZeros8 x.toNat<=8:=Lib.trailingZeros8_le8 ⟨_,Vbi _⟩;have Ht:=h_ (λw=>Go.Proofs.Tryz.bits_TrailingZeros8 (x.toNat:Int) w (by omega) (by have:=Vbi x;omega));rw[Vav] at Ht;generalize Lib.trailingZeros8 x.toNat=t at*;clear h cU h0 hz;go_enter Tryz.func202,Tryz.ntmps202;go_wp2_with (go_at_call 244;refine(Ht.o _).mono ?_;rintro e w1 ⟨rfl,rfl⟩);go_ret2;exact⟨rfl,Vae _ _⟩
theorem newreader_some (s:ByteArray) (w:World) (n:Nat) (h:nrd s=some n):
  Calls Tryz.prog 202 #[.string s] w λe w'=>e=.returned (.tuple #[.pointer (some ⟨w.heap.size,0,none⟩),.int .i64 0])/\RdAt w' w.heap.size s 0 n/\Below w.heap.size w w':=by
 obtain⟨a1,a2,a3⟩:=nrd_le h;by_cases h0:s.size=0
 ·rw[Zba h0] at h;cases h
 ·have bU:0<s.size:=(by omega);have ab:s.size-1<s.size:=(by omega);obtain⟨x,hx⟩:∃x,s[s.size-1]=x:=⟨_,rfl⟩;have cU:s.data.toList.getD (s.size-1) 0=x:=(by rw[Z59 s ab,hx]);have hE:=Z0f s bU;have za:=Z1R s bU
  have hz:x≠0:=λe=>by
   rw[Zbb (cU.trans e)] at h;cases h
  have hb:((x.toNat:Int)==0)=false:=by
   rw[Vam];intro e
   exact hz (by
    have e2:x.toNat=0:=(by omega);have:=congrArg UInt8.ofNat e2;simpa using this)
  have hn:n=8*s.size-1-Lib.trailingZeros8 x.toNat:=by
   unfold nrd at h;rw[Vad h0,cU,Vad hz] at h;split at h
   ·cases h
   ·injection h with h;exact h.symm
  have ht:Lib.trailingZeros8 x.toNat<8:=(Z7t ⟨x.toNat,Vbi x⟩ (λe=>hz (by
   have:=congrArg UInt8.ofNat e;simpa using this))).1
  have Ht:=h_ (λw=>Go.Proofs.Tryz.bits_TrailingZeros8 (x.toNat:Int) w (by omega) (by have:=Vbi x;omega));rw[Vav] at Ht;generalize Lib.trailingZeros8 x.toNat=t at*
  have hc:8*(s.size:Int)-1-(t:Int)=(n:Int):=by
   have:=a2.1;by_cases h8:8*s.size-1<t
   ·omega
   ·omega
  have hq:=a2.1;have Wf:s.size<=9223372036854775807:=(by omega);clear h cU h0 hz hn a2;go_enter Tryz.func202,Tryz.ntmps202;go_wp2_with (go_at_call 244;refine(Ht.o _).mono ?_;rintro e w1 ⟨rfl,rfl⟩);go_ret2;exact⟨rfl,⟨Bk.new _ _ _,by omega,a1,by omega⟩,(Vae _ _).alloc UZz _⟩
end Go.Proofs.YtchokmkfobandaaGreatDoor.Bio
