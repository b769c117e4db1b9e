import Derived.Test.YtnjkjoklnephcaaGreatDoorTie
import Derived.Test.YtnjkjoklnephcaaGreatDoorCards
import Derived.Test.YtnjkjoklnephcaaGreatDoorJ40
import Derived.Test.YtnjkjoklnephcaaGreatDoorJ48
import Derived.ShutString
import Derived.ChangeOld
import Derived.SevenTiedAt
import Derived.Stop.Joined
set_option linter.all false
namespace Go.Proofs.YtnjkjoklnephcaaGreatDoor.blockReturns
open Go.ChangeShapes Go.WideShapes Go.ChangeAt Go.RowKit Wv Go.Proofs.Y
open Go.ChangeMaps (open_string shut_string)
open Wv Go.Proofs.Y
set_option linter.all false
theorem own:ownKnob Tryz.prog.godebug=none:=by kernel_rfl
theorem laidOut:laidOutB Tryz.prog=true:=by kernel_rfl
set_option maxRecDepth 100000 in
theorem lifted (os : Os) (started : os.Started) (H : Type) (enc : TypeId × Value -> H) :
    ReturnsInHanded {} Tryz.checked os 6 .any (λw args=>(Rows.blockReturnsSpec.pre enc Tryz.prog Tryz.f6 Rows.blockReturnsRow.domain false w args/\laidMetH Tryz.prog vr w)/\sizedMet enc Tryz.prog Tryz.f6 (OpenSpec.ofChange Rows.blockReturnsSpec) false w args)
      (Rows.blockReturnsSpec.post enc Tryz.prog Tryz.f6 false true false false):=by
  refine returnsInHanded_of_change_and (C:=Tryz.checked) (X:=λw _=>laidMetH Tryz.prog vr w) (λ_ _ _ hh h=>h.of_heap hh) own started (by kernel_rfl) Tryz.func6
    (ChangeSpec.witness_shaped (enc:=enc) (C:=Tryz.checked) (os:=os) (X:=λw _=>laidMetH Tryz.prog vr w) false (World.laidAll Tryz.prog os vr) #[.slice none 0 0,.agg #[.int .i64 0,.int .i64 0,.slice none 0 0,.slice none 0 0,.slice none 0 0]] 8 (World.laidAll_os _ _ _)
      (World.shaped_of_ZipB (by kernel_rfl) (by kernel_rfl)) (by kernel_rfl) (by kernel_rfl) (by kernel_rfl)
      (by rw[MakeChecks.laidMetH_plain _ _ _ (by kernel_rfl)];exact laidMet_laidAll _ (by kernel_rfl) (by kernel_rfl))) ?_
  intro W base args ds gs before nw hW hcnd _ hL _
  have dj:∀(j:Nat) t v,Tryz.f6.params[j]? =some t->args[j]? =some v->Value.okWide Tryz.prog W .any base t v:=nw
  have OT:=hW
  obtain⟨p,q,Cp,hV,rfl,CJ,WZ⟩:=hW
  have hA:DataW.TrodAll enc Tryz.prog W 0 (λ_=>true) true Tryz.f6.params.toList args.toList ds p:=Cp
  rw[Tryz.params6] at hA dj
  obtain⟨v0,vs0,d0,ds0,p0,q0,FJ,rfl,rfl,h0,r0⟩:=trodAll_cons hA
  obtain⟨v1,vs1,d1,ds1,p1,q1,rfl,rfl,rfl,h1,r1⟩:=trodAll_cons r0
  obtain⟨rfl,rfl,rfl⟩:=trodAll_nil r1
  obtain rfl:args= #[v0,v1]:=by cases args;simp_all
  obtain⟨rfl,rfl⟩:=trodVars_none hV
  obtain⟨a0,n0,c0,rfl⟩:=okWide_slice Tryz.underlying22 (dj 0 22 v0 rfl rfl)
  have k0:=h0
  have T0:∀x∈p0,x.block<W.heap.size:=by obtain⟨m,hm⟩:=k0;exact DataW.trod_lt m _ _ _ hm
  obtain⟨l0,g0,o0,e0,m0⟩:∃l:List (Int×Int),At W a0 (pv l)/\(∀c∈l,kD c.1/\kD c.2)/\n0=l.length/\n0<=9223372036854775807:=by
    obtain⟨fuel,hf⟩:=h0
    exact JQ Tryz.underlying22 (e:=68) (i0:=3) Tryz.underlying68 (by kernel_rfl) ⟨rfl,rfl⟩ ⟨rfl,rfl⟩ (by kernel_rfl) Tryz.underlying3 (by simpa [Value.cells] using hf)
  have k1:=h1
  have lt1:∀x∈p1,x.block<W.heap.size:=by obtain⟨m,hm⟩:=k1;exact DataW.trod_lt m _ _ _ hm
  obtain⟨a1,A1,B1,C1,D1,E1,F1,rfl,w1,x1,g1,y1,z1,m1,n1,o1⟩:=Zbf (dj 1 27 v1 rfl rfl) h1
  clear Cp nw
  refine(Z5p g0 o0 n0 c0 e0 m0 w1 x1 g1 y1 z1 m1 n1 o1 (Vb hL) (w:=W)).mono λe W' ⟨he,bel⟩=> ?_
  subst he
  exact⟨_,rfl,_,_,_,[],_,[],OT,trodAll_mk1 (shut_bool Tryz.underlying4 _),(trodAll_cons_mk (Below.trod laidOut (by kernel_rfl) (of_decide_eq_true (by kernel_rfl)) k0 bel T0) (trodAll_cons_mk (Below.trod laidOut (by kernel_rfl) (of_decide_eq_true (by kernel_rfl)) k1 bel lt1) trodAll_mk0)),rfl,bel.frame _,λh=>by cases h⟩
theorem and2 {a b:Bool} (ha:a=true) (hb:b=true):(a&&b)=true:=by rw[ha,hb];rfl
set_option maxHeartbeats 4000000 in
theorem joined:joinedFacts Tryz.pinned.checked.prog 6 Tryz.f6 Rows.blockReturnsSpec Rows.blockReturnsRow=true:=by
  unfold joinedFacts
  repeat' (with_reducible refine and2 ?_ ?_)
  all_goals (as_aux_lemma=>kernel_rfl)
set_option maxHeartbeats 4000000 in
theorem holds:Rows.BlockReturnsSaid:=
  OpenClaim.holds_of_wide 6 Tryz.f6 rfl rfl rfl rfl rfl rfl rfl ⟨rfl,rfl,rfl,rfl,rfl⟩ rfl rfl rfl rfl rfl (by as_aux_lemma=>kernel_rfl) Tryz.func6 joined
    (of_decide_eq_true (by as_aux_lemma=>kernel_rfl)) (by unfold Func.isWrapper;first|(rw[aP (by as_aux_lemma=>decide+kernel)];kernel_rfl)|(rw[az (by as_aux_lemma=>decide+kernel)];exact⟨rfl,rfl⟩))
    (λos started H enc _=>lifted os started H enc)
/-- The given statement. -/
theorem proved:Rows.BlockReturnsCardSaid:=
  Claim7.holds_tied_plain_at .later [] [.data,.data,.data,.data,.pinned] true (true, "7297d092dac4716aa0eb06b965c98d645a6109be7ad6ad80e3d639ddf27d431c") false holds (λ_ h=>by cases h) (by as_aux_lemma=>kernel_rfl) (λ_ h=>by cases h) blockReturns_row_tie rfl ⟨rfl,rfl⟩ (by as_aux_lemma=>kernel_rfl) rfl
    (λf fn hf PE=>by
      obtain rfl:f=6:=Option.some.inj ((show Tryz.prog.funcNamed "wavestore/wavestorelaw35.BlockReturns" =some 6 by as_aux_lemma=>kernel_rfl).symm.trans hf)|>.symm
      obtain rfl:fn=Tryz.f6:=(Option.some.inj (Tryz.func6.symm.trans PE)).symm
      exact⟨by as_aux_lemma=>kernel_rfl,λj t ht=>by
        rw[Tryz.params6] at ht
        have hm:t∈[22,27]:=by
          have:=Array.mem_of_getElem? ht
          simp at this
          simp[this]
        have ao:([22,27].all λu=> !Tryz.prog.wantsStandIn u)=true:=by as_aux_lemma=>kernel_rfl
        exact(show Tryz.prog.wantsStandIn t=false by simpa using tS.1 ao t hm)⟩)
    (by as_aux_lemma=>kernel_rfl)
end Go.Proofs.YtnjkjoklnephcaaGreatDoor.blockReturns
