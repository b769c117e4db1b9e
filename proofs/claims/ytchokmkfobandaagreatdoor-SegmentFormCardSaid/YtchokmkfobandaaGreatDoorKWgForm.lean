import Derived.Test.YtchokmkfobandaaGreatDoorTie
import Derived.Test.YtchokmkfobandaaGreatDoorCards
import Derived.Test.YtchokmkfobandaaGreatDoorM53
import Derived.ShutString
import Derived.ChangeOld
import Derived.SevenTiedAt
import Derived.Stop.Joined
import Derived.Lib.SmallJoins
set_option linter.unusedVariables false
set_option linter.unusedSimpArgs false
namespace Go.Proofs.YtchokmkfobandaaGreatDoor.segmentForm
open Go.ChangeShapes Go.WideShapes Go.ChangeAt Go.RowKit
open Go.ChangeMaps (open_string shut_string)
open Go.Proofs.YtchokmkfobandaaGreatDoor Wv Wv.Dc Wv.Ru
set_option linter.unusedVariables false
theorem own:ownKnob Tryz.prog.godebug=none:=by kernel_rfl
theorem laidOut:laidOutB Tryz.prog=true:=by kernel_rfl
set_option maxRecDepth 100000 in
theorem lifted (os : Os) (started : os.Started) (H : Type) (enc : TypeId × Value -> H) :
    ReturnsInHanded {} Tryz.checked os 3 .any (λw args=>(Rows.segmentFormSpec.pre enc Tryz.prog Tryz.f3 Rows.segmentFormRow.domain false w args/\laidMetH Tryz.prog Z2A w)/\sizedMet enc Tryz.prog Tryz.f3 (OpenSpec.ofChange Rows.segmentFormSpec) false w args)
      (Rows.segmentFormSpec.post enc Tryz.prog Tryz.f3 false true false false):=by
  refine returnsInHanded_of_change_and (C:=Tryz.checked) (X:=λw _=>laidMetH Tryz.prog Z2A w) (λ_ _ _ hh h=>h.of_heap hh) own started (by kernel_rfl) Tryz.func3
    (ChangeSpec.witness_shaped (enc:=enc) (C:=Tryz.checked) (os:=os) (X:=λw _=>laidMetH Tryz.prog Z2A w) false (World.laidAll Tryz.prog os Z2A) #[.agg #[.int .i64 0,.int .i64 0],.int .i64 0,.int .i64 0,.string ByteArray.empty,.slice none 0 0] 8 (World.laidAll_os _ _ _)
      (World.shaped_of_ZipB (by kernel_rfl) (by kernel_rfl)) (by kernel_rfl) (by kernel_rfl) (by kernel_rfl)
      (by rw[MakeChecks.laidMetH_plain _ _ _ (by kernel_rfl)];exact laidMet_laidAll _ (by kernel_rfl) (by kernel_rfl))) ?_
  intro W base args ds gs before kM hW hcnd _ hL _
  have hval:∀(j:Nat) t v,Tryz.f3.params[j]? =some t->args[j]? =some v->Value.okWide Tryz.prog W .any base t v:=kM
  have EZ:=hW
  obtain⟨p,q,yO,hV,rfl,xQ,KK⟩:=hW
  have hA:DataW.TrodAll enc Tryz.prog W 0 (λ_=>true) true Tryz.f3.params.toList args.toList ds p:=yO
  rw[Tryz.params3] at hA hval
  obtain⟨v0,Pj,d0,Pk,p0,q0,yP,rfl,rfl,h0,r0⟩:=trodAll_cons hA
  obtain⟨v1,Pm,d1,Pn,p1,q1,rfl,rfl,rfl,h1,r1⟩:=trodAll_cons r0
  obtain⟨v2,Po,d2,Pp,p2,q2,rfl,rfl,rfl,h2,r2⟩:=trodAll_cons r1
  obtain⟨v3,Pq,d3,Pr,p3,q3,rfl,rfl,rfl,h3,r3⟩:=trodAll_cons r2
  obtain⟨v4,Ps,d4,Pt,p4,q4,rfl,rfl,rfl,h4,r4⟩:=trodAll_cons r3
  obtain⟨rfl,rfl,rfl⟩:=trodAll_nil r4
  obtain rfl:args= #[v0,v1,v2,v3,v4]:=by cases args;simp_all
  obtain⟨rfl,rfl⟩:=trodVars_none hV
  obtain⟨u0,x0,y0,z0,k0,rfl,rfl,rfl,e0,f0⟩:=Go.Joins.open_agg2 Tryz.underlying23 (by kernel_rfl) (by kernel_rfl) (hval 0 23 v0 rfl rfl) h0
  obtain⟨a0,yQ,F7,w0⟩:=DataW.trod_int Tryz.underlying3 e0
  obtain⟨c0,yR,F8,yS⟩:=DataW.trod_int Tryz.underlying3 f0
  simp at yQ yR
  subst yQ yR F7 F8
  obtain⟨a1,rfl,rfl,rfl,w1⟩:=open_int Tryz.underlying3 (hval 1 3 v1 rfl rfl) h1
  have b1:=QG w1
  obtain⟨a2,rfl,rfl,rfl,w2⟩:=open_int Tryz.underlying3 (hval 2 3 v2 rfl rfl) h2
  have b2:=QG w2
  obtain⟨a3,rfl,rfl,rfl,w3⟩:=open_string Tryz.underlying9 (hval 3 9 v3 rfl rfl) h3
  have b3:a3.size<=9223372036854775807:=by unfold maxLen at w3;omega
  obtain⟨a4,n4,c4,rfl⟩:=okWide_slice Tryz.underlying24 (hval 4 24 v4 rfl rfl)
  have k4:=h4
  have Pu:∀x∈p4,x.block<W.heap.size:=by obtain⟨m,hm⟩:=k4;exact DataW.trod_lt m _ _ _ hm
  obtain⟨l4,g4,o4,e4,m4⟩:∃l:List (Int×ByteArray),At W a4 (cv l)/\(∀c∈l,I64 c.1/\c.2.size<=9223372036854775807)/\n4=l.length/\n4<=9223372036854775807:=by
    obtain⟨fuel,hf⟩:=h4
    exact Zfi Tryz.underlying24 (e:=33) (i0:=3) (i1:=9) Tryz.underlying33 (by kernel_rfl) ⟨rfl,rfl⟩ ⟨rfl,rfl⟩ (by kernel_rfl) Tryz.underlying3 (by kernel_rfl) Tryz.underlying9 (by simpa [Value.cells] using hf)
  clear yO kM
  refine(Z9O a0 c0 ⟨QG w0,QG yS⟩ a1 b1 a2 b2 a3 b3 g4 o4 n4 c4 e4 m4 (Z51 hL) (w:=W)).mono λe W' ⟨he,bel⟩=> ?_
  subst he
  exact⟨_,rfl,_,_,_,[],_,[],EZ,trodAll_mk1 (shut_bool Tryz.underlying4 _),(trodAll_cons_mk (Go.Joins.shut_agg2 Tryz.underlying23 (by kernel_rfl) (by kernel_rfl) ⟨1,trod_int_mk 0 Tryz.underlying3 w0⟩ ⟨1,trod_int_mk 0 Tryz.underlying3 yS⟩) (trodAll_cons_mk (shut_int Tryz.underlying3 w1) (trodAll_cons_mk (shut_int Tryz.underlying3 w2) (trodAll_cons_mk (shut_string Tryz.underlying9 w3) (trodAll_cons_mk (Below.trod laidOut (by kernel_rfl) (of_decide_eq_true (by kernel_rfl)) k4 bel Pu) trodAll_mk0))))),rfl,bel.frame _,λh=>by cases h⟩
theorem and2 {a b:Bool} (ha:a=true) (hb:b=true):(a&&b)=true:=by rw[ha,hb];rfl
set_option maxHeartbeats 4000000 in
theorem joined:joinedFacts Tryz.pinned.checked.prog 3 Tryz.f3 Rows.segmentFormSpec Rows.segmentFormRow=true:=by
  unfold joinedFacts
  repeat' (with_reducible refine and2 ?_ ?_)
  all_goals (as_aux_lemma=>kernel_rfl)
set_option maxHeartbeats 4000000 in
theorem holds:Rows.SegmentFormSaid:=
  OpenClaim.holds_of_wide 3 Tryz.f3 rfl rfl rfl rfl rfl rfl rfl ⟨rfl,rfl,rfl,rfl,rfl⟩ rfl rfl rfl rfl rfl (by as_aux_lemma=>kernel_rfl) Tryz.func3 joined
    (of_decide_eq_true (by as_aux_lemma=>kernel_rfl)) (by unfold Func.isWrapper;first|(rw[Vaf (by as_aux_lemma=>decide+kernel)];kernel_rfl)|(rw[Vad (by as_aux_lemma=>decide+kernel)];exact⟨rfl,rfl⟩))
    (λos started H enc _=>lifted os started H enc)
/-- The given statement. -/
theorem proved:Rows.SegmentFormCardSaid:=
  Claim7.holds_tied_plain_at .later [] [.data,.data,.data,.data,.pinned] true (true, "0d15f366afec33a07c85c105c3bd89622624dcd61228536d388e15b72dd64844") false holds (λ_ h=>by cases h) (by as_aux_lemma=>kernel_rfl) (λ_ h=>by cases h) segmentForm_row_tie rfl ⟨rfl,rfl⟩ (by as_aux_lemma=>kernel_rfl) rfl
    (λf fn hf F9=>by
      obtain rfl:f=3:=Option.some.inj ((show Tryz.prog.funcNamed "wavestore/wavestorelaw33.SegmentForm" =some 3 by as_aux_lemma=>kernel_rfl).symm.trans hf)|>.symm
      obtain rfl:fn=Tryz.f3:=(Option.some.inj (Tryz.func3.symm.trans F9)).symm
      exact⟨by as_aux_lemma=>kernel_rfl,λj t ht=>by
        rw[Tryz.params3] at ht
        have hm:t∈[23,3,9,24]:=by
          have:=Array.mem_of_getElem? ht
          simp at this
          simp[this]
        have ao:([23,3,9,24].all λu=> !Tryz.prog.wantsStandIn u)=true:=by as_aux_lemma=>kernel_rfl
        exact(show Tryz.prog.wantsStandIn t=false by simpa using Vbp.1 ao t hm)⟩)
    (by as_aux_lemma=>kernel_rfl)
end Go.Proofs.YtchokmkfobandaaGreatDoor.segmentForm
