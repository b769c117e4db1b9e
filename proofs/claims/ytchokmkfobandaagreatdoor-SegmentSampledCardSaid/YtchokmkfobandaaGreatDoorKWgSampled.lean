import Derived.Test.YtchokmkfobandaaGreatDoorTie
import Derived.Test.YtchokmkfobandaaGreatDoorCards
import Derived.Test.YtchokmkfobandaaGreatDoorJ54
import Derived.ShutString
import Derived.ChangeOld
import Derived.SevenTiedAt
import Derived.Stop.Joined
import Derived.Lib.SmallJoins
set_option linter.unusedVariables false
set_option linter.unusedSimpArgs false
namespace Go.Proofs.YtchokmkfobandaaGreatDoor.segmentSampled
open Go.ChangeShapes Go.WideShapes Go.ChangeAt Go.RowKit
open Go.ChangeMaps (open_string shut_string)
open Go.Proofs.YtchokmkfobandaaGreatDoor Wv Wv.Dc Wv.Ru
set_option linter.unusedVariables false
theorem own:ownKnob Tryz.prog.godebug=none:=by kernel_rfl
theorem laidOut:laidOutB Tryz.prog=true:=by kernel_rfl
set_option maxRecDepth 100000 in
theorem lifted (os : Os) (started : os.Started) (H : Type) (enc : TypeId × Value -> H) :
    ReturnsInHanded {} Tryz.checked os 8 .any (λw args=>(Rows.segmentSampledSpec.pre enc Tryz.prog Tryz.f8 Rows.segmentSampledRow.domain false w args/\laidMetH Tryz.prog Z8X w)/\sizedMet enc Tryz.prog Tryz.f8 (OpenSpec.ofChange Rows.segmentSampledSpec) false w args)
      (Rows.segmentSampledSpec.post enc Tryz.prog Tryz.f8 false true false false):=by
  refine returnsInHanded_of_change_and (C:=Tryz.checked) (X:=λw _=>laidMetH Tryz.prog Z8X w) (λ_ _ _ hh h=>h.of_heap hh) own started (by kernel_rfl) Tryz.func8
    (ChangeSpec.witness_shaped (enc:=enc) (C:=Tryz.checked) (os:=os) (X:=λw _=>laidMetH Tryz.prog Z8X w) false (World.laidAll Tryz.prog os Z8X) #[.agg #[.int .i64 0,.int .i64 0],.int .i64 0,.int .i64 0,.int .i64 0,.string ByteArray.empty,.slice none 0 0] 8 (World.laidAll_os _ _ _)
      (World.shaped_of_ZipB (by kernel_rfl) (by kernel_rfl)) (by kernel_rfl) (by kernel_rfl) (by kernel_rfl)
      (by rw[MakeChecks.laidMetH_plain _ _ _ (by kernel_rfl)];exact laidMet_laidAll _ (by kernel_rfl) (by kernel_rfl))) ?_
  intro W base args ds gs before uH hW hcnd _ hL _
  have hval:∀(j:Nat) t v,Tryz.f8.params[j]? =some t->args[j]? =some v->Value.okWide Tryz.prog W .any base t v:=uH
  have Vm:=hW
  obtain⟨p,q,PA,hV,rfl,zu,TY⟩:=hW
  have hA:DataW.TrodAll enc Tryz.prog W 0 (λ_=>true) true Tryz.f8.params.toList args.toList ds p:=PA
  rw[Tryz.params8] at hA hval
  obtain⟨v0,vs0,d0,ds0,p0,q0,PB,rfl,rfl,h0,r0⟩:=trodAll_cons hA
  obtain⟨v1,vs1,d1,ds1,p1,q1,rfl,rfl,rfl,h1,r1⟩:=trodAll_cons r0
  obtain⟨v2,vs2,d2,ds2,p2,q2,rfl,rfl,rfl,h2,r2⟩:=trodAll_cons r1
  obtain⟨v3,vs3,d3,ds3,p3,q3,rfl,rfl,rfl,h3,r3⟩:=trodAll_cons r2
  obtain⟨v4,vs4,d4,ds4,p4,q4,rfl,rfl,rfl,h4,r4⟩:=trodAll_cons r3
  obtain⟨v5,vs5,d5,ds5,p5,q5,rfl,rfl,rfl,h5,r5⟩:=trodAll_cons r4
  obtain⟨rfl,rfl,rfl⟩:=trodAll_nil r5
  obtain rfl:args= #[v0,v1,v2,v3,v4,v5]:=by cases args;simp_all
  obtain⟨rfl,rfl⟩:=trodVars_none hV
  obtain⟨u0,x0,y0,z0,k0,rfl,rfl,rfl,e0,f0⟩:=Go.Joins.open_agg2 Tryz.underlying23 (by kernel_rfl) (by kernel_rfl) (hval 0 23 v0 rfl rfl) h0
  obtain⟨a0,PC,Vn,w0⟩:=DataW.trod_int Tryz.underlying3 e0
  obtain⟨c0,PD,Vo,PE⟩:=DataW.trod_int Tryz.underlying3 f0
  simp at PC PD
  subst PC PD Vn Vo
  obtain⟨a1,rfl,rfl,rfl,w1⟩:=open_int Tryz.underlying3 (hval 1 3 v1 rfl rfl) h1
  have b1:=Z2E w1
  obtain⟨a2,rfl,rfl,rfl,w2⟩:=open_int Tryz.underlying3 (hval 2 3 v2 rfl rfl) h2
  have b2:=Z2E w2
  obtain⟨a3,rfl,rfl,rfl,w3⟩:=open_int Tryz.underlying3 (hval 3 3 v3 rfl rfl) h3
  have b3:=Z2E w3
  obtain⟨a4,rfl,rfl,rfl,w4⟩:=open_string Tryz.underlying9 (hval 4 9 v4 rfl rfl) h4
  have b4:a4.size<=9223372036854775807:=by unfold maxLen at w4;omega
  obtain⟨a5,n5,c5,rfl⟩:=okWide_slice Tryz.underlying24 (hval 5 24 v5 rfl rfl)
  have k5:=h5
  have Vp:∀x∈p5,x.block<W.heap.size:=by obtain⟨m,hm⟩:=k5;exact DataW.trod_lt m _ _ _ hm
  obtain⟨l5,g5,o5,e5,m5⟩:∃l:List (Int×ByteArray),At W a5 (cv l)/\(∀c∈l,I64 c.1/\c.2.size<=9223372036854775807)/\n5=l.length/\n5<=9223372036854775807:=by
    obtain⟨fuel,hf⟩:=h5
    exact Zfd Tryz.underlying24 (e:=33) (i0:=3) (i1:=9) Tryz.underlying33 (by kernel_rfl) ⟨rfl,rfl⟩ ⟨rfl,rfl⟩ (by kernel_rfl) Tryz.underlying3 (by kernel_rfl) Tryz.underlying9 (by simpa [Value.cells] using hf)
  clear PA uH
  refine(Z5I a0 c0 ⟨Z2E w0,Z2E PE⟩ a1 b1 a2 b2 a3 b3 a4 b4 g5 o5 n5 c5 e5 m5 (ZbW hL) (w:=W)).mono λe W' ⟨he,bel⟩=> ?_
  subst he
  exact⟨_,rfl,_,_,_,[],_,[],Vm,trodAll_mk1 (shut_bool Tryz.underlying4 _),(trodAll_cons_mk (Go.Joins.shut_agg2 Tryz.underlying23 (by kernel_rfl) (by kernel_rfl) ⟨1,trod_int_mk 0 Tryz.underlying3 w0⟩ ⟨1,trod_int_mk 0 Tryz.underlying3 PE⟩) (trodAll_cons_mk (shut_int Tryz.underlying3 w1) (trodAll_cons_mk (shut_int Tryz.underlying3 w2) (trodAll_cons_mk (shut_int Tryz.underlying3 w3) (trodAll_cons_mk (shut_string Tryz.underlying9 w4) (trodAll_cons_mk (Below.trod laidOut (by kernel_rfl) (of_decide_eq_true (by kernel_rfl)) k5 bel Vp) trodAll_mk0)))))),rfl,bel.frame _,λh=>by cases h⟩
theorem and2 {a b:Bool} (ha:a=true) (hb:b=true):(a&&b)=true:=by rw[ha,hb];rfl
set_option maxHeartbeats 4000000 in
theorem joined:joinedFacts Tryz.pinned.checked.prog 8 Tryz.f8 Rows.segmentSampledSpec Rows.segmentSampledRow=true:=by
  unfold joinedFacts
  repeat' (with_reducible refine and2 ?_ ?_)
  all_goals (as_aux_lemma=>kernel_rfl)
set_option maxHeartbeats 4000000 in
theorem holds:Rows.SegmentSampledSaid:=
  OpenClaim.holds_of_wide 8 Tryz.f8 rfl rfl rfl rfl rfl rfl rfl ⟨rfl,rfl,rfl,rfl,rfl⟩ rfl rfl rfl rfl rfl (by as_aux_lemma=>kernel_rfl) Tryz.func8 joined
    (of_decide_eq_true (by as_aux_lemma=>kernel_rfl)) (by unfold Func.isWrapper;first|(rw[Vaf (by as_aux_lemma=>decide+kernel)];kernel_rfl)|(rw[Vad (by as_aux_lemma=>decide+kernel)];exact⟨rfl,rfl⟩))
    (λos started H enc _=>lifted os started H enc)
/-- The given statement. -/
theorem proved:Rows.SegmentSampledCardSaid:=
  Claim7.holds_tied_plain_at .later [] [.data,.data,.data,.data,.pinned] true (true, "0d15f366afec33a07c85c105c3bd89622624dcd61228536d388e15b72dd64844") false holds (λ_ h=>by cases h) (by as_aux_lemma=>kernel_rfl) (λ_ h=>by cases h) segmentSampled_row_tie rfl ⟨rfl,rfl⟩ (by as_aux_lemma=>kernel_rfl) rfl
    (λf fn hf Vq=>by
      obtain rfl:f=8:=Option.some.inj ((show Tryz.prog.funcNamed "wavestore/wavestorelaw33.SegmentSampled" =some 8 by as_aux_lemma=>kernel_rfl).symm.trans hf)|>.symm
      obtain rfl:fn=Tryz.f8:=(Option.some.inj (Tryz.func8.symm.trans Vq)).symm
      exact⟨by as_aux_lemma=>kernel_rfl,λj t ht=>by
        rw[Tryz.params8] at ht
        have hm:t∈[23,3,9,24]:=by
          have:=Array.mem_of_getElem? ht
          simp at this
          simp[this]
        have ar:([23,3,9,24].all λu=> !Tryz.prog.wantsStandIn u)=true:=by as_aux_lemma=>kernel_rfl
        exact(show Tryz.prog.wantsStandIn t=false by simpa using Vbv.1 ar t hm)⟩)
    (by as_aux_lemma=>kernel_rfl)
end Go.Proofs.YtchokmkfobandaaGreatDoor.segmentSampled
