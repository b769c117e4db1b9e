import Derived.Test.YtchokmkfobandaaGreatDoorTie
import Derived.Test.YtchokmkfobandaaGreatDoorCards
import Derived.Test.YtchokmkfobandaaGreatDoorJ56
import Derived.ShutString
import Derived.ChangeOld
import Derived.SevenTiedAt
import Derived.Stop.Joined
import Derived.Lib.SmallJoins
set_option linter.unusedVariables false
set_option linter.unusedSimpArgs false
namespace Go.Proofs.YtchokmkfobandaaGreatDoor.segmentPointwise
open Go.ChangeShapes Go.WideShapes Go.ChangeAt Go.RowKit
open Go.ChangeMaps (open_string shut_string)
open Go.Proofs.YtchokmkfobandaaGreatDoor Wv Wv.Dc Wv.Ru
set_option linter.unusedVariables false
theorem own:ownKnob Tryz.prog.godebug=none:=by kernel_rfl
theorem laidOut:laidOutB Tryz.prog=true:=by kernel_rfl
set_option maxRecDepth 100000 in
theorem lifted (os : Os) (started : os.Started) (H : Type) (enc : TypeId × Value -> H) :
    ReturnsInHanded {} Tryz.checked os 7 .any (λw args=>(Rows.segmentPointwiseSpec.pre enc Tryz.prog Tryz.f7 Rows.segmentPointwiseRow.domain false w args/\laidMetH Tryz.prog Z2Z w)/\sizedMet enc Tryz.prog Tryz.f7 (OpenSpec.ofChange Rows.segmentPointwiseSpec) false w args)
      (Rows.segmentPointwiseSpec.post enc Tryz.prog Tryz.f7 false true false false):=by
  refine returnsInHanded_of_change_and (C:=Tryz.checked) (X:=λw _=>laidMetH Tryz.prog Z2Z w) (λ_ _ _ hh h=>h.of_heap hh) own started (by kernel_rfl) Tryz.func7
    (ChangeSpec.witness_shaped (enc:=enc) (C:=Tryz.checked) (os:=os) (X:=λw _=>laidMetH Tryz.prog Z2Z w) false (World.laidAll Tryz.prog os Z2Z) #[.int .u8 0,.int .u8 0,.int .u8 0,.string ByteArray.empty,.slice none 0 0] 8 (World.laidAll_os _ _ _)
      (World.shaped_of_ZipB (by kernel_rfl) (by kernel_rfl)) (by kernel_rfl) (by kernel_rfl) (by kernel_rfl)
      (by rw[MakeChecks.laidMetH_plain _ _ _ (by kernel_rfl)];exact laidMet_laidAll _ (by kernel_rfl) (by kernel_rfl))) ?_
  intro W base args ds gs before eG hW hcnd _ hL _
  have hval:∀(j:Nat) t v,Tryz.f7.params[j]? =some t->args[j]? =some v->Value.okWide Tryz.prog W .any base t v:=eG
  have wX:=hW
  obtain⟨p,q,qx,hV,rfl,sV,Dz⟩:=hW
  have hA:DataW.TrodAll enc Tryz.prog W 0 (λ_=>true) true Tryz.f7.params.toList args.toList ds p:=qx
  rw[Tryz.params7] at hA hval
  obtain⟨v0,Kg,d0,Kh,p0,q0,qy,rfl,rfl,h0,r0⟩:=trodAll_cons hA
  obtain⟨v1,Ki,d1,Kj,p1,q1,rfl,rfl,rfl,h1,r1⟩:=trodAll_cons r0
  obtain⟨v2,Kk,d2,Kl,p2,q2,rfl,rfl,rfl,h2,r2⟩:=trodAll_cons r1
  obtain⟨v3,Km,d3,Kn,p3,q3,rfl,rfl,rfl,h3,r3⟩:=trodAll_cons r2
  obtain⟨v4,Ko,d4,Kp,p4,q4,rfl,rfl,rfl,h4,r4⟩:=trodAll_cons r3
  obtain⟨rfl,rfl,rfl⟩:=trodAll_nil r4
  obtain rfl:args= #[v0,v1,v2,v3,v4]:=by cases args;simp_all
  obtain⟨rfl,rfl⟩:=trodVars_none hV
  obtain⟨a0,rfl,rfl,rfl,w0⟩:=open_int Tryz.underlying5 (hval 0 5 v0 rfl rfl) h0
  have b0:=bounds_u8 w0
  obtain⟨a1,rfl,rfl,rfl,w1⟩:=open_int Tryz.underlying5 (hval 1 5 v1 rfl rfl) h1
  have b1:=bounds_u8 w1
  obtain⟨a2,rfl,rfl,rfl,w2⟩:=open_int Tryz.underlying5 (hval 2 5 v2 rfl rfl) h2
  have b2:=bounds_u8 w2
  obtain⟨a3,rfl,rfl,rfl,w3⟩:=open_string Tryz.underlying9 (hval 3 9 v3 rfl rfl) h3
  have b3:a3.size<=9223372036854775807:=by unfold maxLen at w3;omega
  obtain⟨a4,n4,c4,rfl⟩:=okWide_slice Tryz.underlying24 (hval 4 24 v4 rfl rfl)
  have k4:=h4
  have Ct:∀x∈p4,x.block<W.heap.size:=by obtain⟨m,hm⟩:=k4;exact DataW.trod_lt m _ _ _ hm
  obtain⟨l4,g4,o4,e4,m4⟩:∃l:List (Int×ByteArray),At W a4 (cv l)/\(∀c∈l,I64 c.1/\c.2.size<=9223372036854775807)/\n4=l.length/\n4<=9223372036854775807:=by
    obtain⟨fuel,hf⟩:=h4
    exact Z7M Tryz.underlying24 (e:=33) (i0:=3) (i1:=9) Tryz.underlying33 (by kernel_rfl) ⟨rfl,rfl⟩ ⟨rfl,rfl⟩ (by kernel_rfl) Tryz.underlying3 (by kernel_rfl) Tryz.underlying9 (by simpa [Value.cells] using hf)
  clear qx eG
  refine(ZdH a0 b0.1 (by have:=b0.2;omega) a1 b1.1 (by have:=b1.2;omega) a2 b2.1 (by have:=b2.2;omega) a3 b3 g4 o4 n4 c4 e4 m4 (w:=W)).mono λe W' ⟨he,bel⟩=> ?_
  subst he
  exact⟨_,rfl,_,_,_,[],_,[],wX,trodAll_mk1 (shut_bool Tryz.underlying4 _),(trodAll_cons_mk (shut_int Tryz.underlying5 w0) (trodAll_cons_mk (shut_int Tryz.underlying5 w1) (trodAll_cons_mk (shut_int Tryz.underlying5 w2) (trodAll_cons_mk (shut_string Tryz.underlying9 w3) (trodAll_cons_mk (Below.trod laidOut (by kernel_rfl) (of_decide_eq_true (by kernel_rfl)) k4 bel Ct) trodAll_mk0))))),rfl,bel.frame _,λh=>by cases h⟩
theorem and2 {a b:Bool} (ha:a=true) (hb:b=true):(a&&b)=true:=by rw[ha,hb];rfl
set_option maxHeartbeats 4000000 in
theorem joined:joinedFacts Tryz.pinned.checked.prog 7 Tryz.f7 Rows.segmentPointwiseSpec Rows.segmentPointwiseRow=true:=by
  unfold joinedFacts
  repeat' (with_reducible refine and2 ?_ ?_)
  all_goals (as_aux_lemma=>kernel_rfl)
set_option maxHeartbeats 4000000 in
theorem holds:Rows.SegmentPointwiseSaid:=
  OpenClaim.holds_of_wide 7 Tryz.f7 rfl rfl rfl rfl rfl rfl rfl ⟨rfl,rfl,rfl,rfl,rfl⟩ rfl rfl rfl rfl rfl (by as_aux_lemma=>kernel_rfl) Tryz.func7 joined
    (of_decide_eq_true (by as_aux_lemma=>kernel_rfl)) (by unfold Func.isWrapper;first|(rw[if_pos (by as_aux_lemma=>decide+kernel)];kernel_rfl)|(rw[if_neg (by as_aux_lemma=>decide+kernel)];exact⟨rfl,rfl⟩))
    (λos started H enc _=>lifted os started H enc)
/-- The given statement. -/
theorem proved:Rows.SegmentPointwiseCardSaid:=
  Claim7.holds_tied_plain_at .later [] [.data,.data,.data,.data,.pinned] true (true, "0d15f366afec33a07c85c105c3bd89622624dcd61228536d388e15b72dd64844") false holds (λ_ h=>by cases h) (by as_aux_lemma=>kernel_rfl) (λ_ h=>by cases h) segmentPointwise_row_tie rfl ⟨rfl,rfl⟩ (by as_aux_lemma=>kernel_rfl) rfl
    (λf fn hf wY=>by
      obtain rfl:f=7:=Option.some.inj ((show Tryz.prog.funcNamed "wavestore/wavestorelaw33.SegmentPointwise" =some 7 by as_aux_lemma=>kernel_rfl).symm.trans hf)|>.symm
      obtain rfl:fn=Tryz.f7:=(Option.some.inj (Tryz.func7.symm.trans wY)).symm
      exact⟨by as_aux_lemma=>kernel_rfl,λj t ht=>by
        rw[Tryz.params7] at ht
        have hm:t∈[5,9,24]:=by
          have:=Array.mem_of_getElem? ht
          simp at this
          simp[this]
        have ar:([5,9,24].all λu=> !Tryz.prog.wantsStandIn u)=true:=by as_aux_lemma=>kernel_rfl
        exact(show Tryz.prog.wantsStandIn t=false by simpa using List.all_eq_true.1 ar t hm)⟩)
    (by as_aux_lemma=>kernel_rfl)
end Go.Proofs.YtchokmkfobandaaGreatDoor.segmentPointwise
