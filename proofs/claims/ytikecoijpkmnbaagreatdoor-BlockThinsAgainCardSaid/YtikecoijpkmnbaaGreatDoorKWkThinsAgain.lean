import Derived.Test.YtikecoijpkmnbaaGreatDoorTie
import Derived.Test.YtikecoijpkmnbaaGreatDoorCards
import Derived.Test.YtikecoijpkmnbaaGreatDoorJ40
import Derived.Test.YtikecoijpkmnbaaGreatDoorJ50
import Derived.ShutString
import Derived.ChangeOld
import Derived.SevenTiedAt
import Derived.Stop.Joined
set_option linter.all false
namespace Go.Proofs.YtikecoijpkmnbaaGreatDoor.blockThinsAgain
open Go.ChangeShapes Go.WideShapes Go.ChangeAt Go.RowKit Wv Go.Proofs.Y
open Go.ChangeMaps (open_string shut_string)
open Wv Go.Proofs.Y
set_option linter.all false
theorem own:ownKnob Tryz.prog.godebug=none:=by kernel_rfl
theorem laidOut:laidOutB Tryz.prog=true:=by kernel_rfl
set_option maxRecDepth 100000 in
theorem lifted (os : Os) (started : os.Started) (H : Type) (enc : TypeId × Value -> H) :
    ReturnsInHanded {} Tryz.checked os 3 .any (λw args=>(Rows.blockThinsAgainSpec.pre enc Tryz.prog Tryz.f3 Rows.blockThinsAgainRow.domain false w args/\laidMetH Tryz.prog Bs w)/\sizedMet enc Tryz.prog Tryz.f3 (OpenSpec.ofChange Rows.blockThinsAgainSpec) false w args)
      (Rows.blockThinsAgainSpec.post enc Tryz.prog Tryz.f3 false true false false):=by
  refine returnsInHanded_of_change_and (C:=Tryz.checked) (X:=λw _=>laidMetH Tryz.prog Bs w) (λ_ _ _ hh h=>h.of_heap hh) own started (by kernel_rfl) Tryz.func3
    (ChangeSpec.witness_shaped (enc:=enc) (C:=Tryz.checked) (os:=os) (X:=λw _=>laidMetH Tryz.prog Bs w) false (World.laidAll Tryz.prog os Bs) #[.slice none 0 0,.agg #[.int .i64 0,.int .i64 0,.slice none 0 0,.slice none 0 0,.slice none 0 0],.int .u8 0,.int .u8 0] 8 (World.laidAll_os _ _ _)
      (World.shaped_of_ZipB (by kernel_rfl) (by kernel_rfl)) (by kernel_rfl) (by kernel_rfl) (by kernel_rfl)
      (by rw[MakeChecks.laidMetH_plain _ _ _ (by kernel_rfl)];exact laidMet_laidAll _ (by kernel_rfl) (by kernel_rfl))) ?_
  intro W base args ds gs before yp hW hcnd _ hL _
  have du:∀(j:Nat) t v,Tryz.f3.params[j]? =some t->args[j]? =some v->Value.okWide Tryz.prog W .any base t v:=yp
  have hW':=hW
  obtain⟨p,q,OF,hV,rfl,GD,hnd⟩:=hW
  have hA:DataW.TrodAll enc Tryz.prog W 0 (λ_=>true) true Tryz.f3.params.toList args.toList ds p:=OF
  rw[Tryz.params3] at hA du
  obtain⟨v0,vs0,d0,ds0,p0,q0,WV,rfl,rfl,h0,r0⟩:=trodAll_cons hA
  obtain⟨v1,vs1,d1,ds1,p1,q1,rfl,rfl,rfl,h1,r1⟩:=trodAll_cons r0
  obtain⟨v2,Dn,d2,ds2,p2,q2,rfl,rfl,rfl,h2,r2⟩:=trodAll_cons r1
  obtain⟨v3,vs3,d3,ds3,p3,q3,rfl,rfl,rfl,h3,r3⟩:=trodAll_cons r2
  obtain⟨rfl,rfl,rfl⟩:=trodAll_nil r3
  obtain rfl:args= #[v0,v1,v2,v3]:=by cases args;simp_all
  obtain⟨rfl,rfl⟩:=trodVars_none hV
  obtain⟨a0,n0,c0,rfl⟩:=okWide_slice Tryz.underlying22 (du 0 22 v0 rfl rfl)
  have k0:=h0
  have lt0:∀x∈p0,x.block<W.heap.size:=by obtain⟨m,hm⟩:=k0;exact DataW.trod_lt m _ _ _ hm
  obtain⟨l0,g0,o0,e0,m0⟩:∃l:List (Int×Int),At W a0 (pv l)/\(∀c∈l,mE c.1/\mE c.2)/\n0=l.length/\n0<=9223372036854775807:=by
    obtain⟨fuel,hf⟩:=h0
    exact Tl Tryz.underlying22 (e:=57) (i0:=3) Tryz.underlying57 (by kernel_rfl) ⟨rfl,rfl⟩ ⟨rfl,rfl⟩ (by kernel_rfl) Tryz.underlying3 (by simpa [Value.cells] using hf)
  have k1:=h1
  have lt1:∀x∈p1,x.block<W.heap.size:=by obtain⟨m,hm⟩:=k1;exact DataW.trod_lt m _ _ _ hm
  obtain⟨a1,A1,B1,C1,D1,E1,F1,rfl,w1,x1,g1,y1,z1,m1,n1,o1⟩:=Zb5 (du 1 27 v1 rfl rfl) h1
  obtain⟨a2,rfl,rfl,rfl,w2⟩:=open_int Tryz.underlying5 (du 2 5 v2 rfl rfl) h2
  have b2:=bounds_u8 w2
  obtain⟨a3,rfl,rfl,rfl,w3⟩:=open_int Tryz.underlying5 (du 3 5 v3 rfl rfl) h3
  have b3:=bounds_u8 w3
  clear OF yp
  refine(Zs1 g0 o0 n0 c0 e0 m0 w1 x1 g1 y1 z1 m1 n1 o1 a2 b2.1 (by have:=b2.2;omega) a3 b3.1 (by have:=b3.2;omega) (Zgs hL) (w:=W)).mono λe W' ⟨he,bel⟩=> ?_
  subst he
  exact⟨_,rfl,_,_,_,[],_,[],hW',trodAll_mk1 (shut_bool Tryz.underlying4 _),(trodAll_cons_mk (Below.trod laidOut (by kernel_rfl) (of_decide_eq_true (by kernel_rfl)) k0 bel lt0) (trodAll_cons_mk (Below.trod laidOut (by kernel_rfl) (of_decide_eq_true (by kernel_rfl)) k1 bel lt1) (trodAll_cons_mk (shut_int Tryz.underlying5 w2) (trodAll_cons_mk (shut_int Tryz.underlying5 w3) trodAll_mk0)))),rfl,bel.frame _,λh=>by cases h⟩
theorem and2 {a b:Bool} (ha:a=true) (hb:b=true):(a&&b)=true:=by rw[ha,hb];rfl
set_option maxHeartbeats 4000000 in
theorem joined:joinedFacts Tryz.pinned.checked.prog 3 Tryz.f3 Rows.blockThinsAgainSpec Rows.blockThinsAgainRow=true:=by
  unfold joinedFacts
  repeat' (with_reducible refine and2 ?_ ?_)
  all_goals (as_aux_lemma=>kernel_rfl)
set_option maxHeartbeats 4000000 in
theorem holds:Rows.BlockThinsAgainSaid:=
  OpenClaim.holds_of_wide 3 Tryz.f3 rfl rfl rfl rfl rfl rfl rfl ⟨rfl,rfl,rfl,rfl,rfl⟩ rfl rfl rfl rfl rfl (by as_aux_lemma=>kernel_rfl) Tryz.func3 joined
    (of_decide_eq_true (by as_aux_lemma=>kernel_rfl)) (by unfold Func.isWrapper;first|(rw[Vag (by as_aux_lemma=>decide+kernel)];kernel_rfl)|(rw[Vae (by as_aux_lemma=>decide+kernel)];exact⟨rfl,rfl⟩))
    (λos started H enc _=>lifted os started H enc)
/-- The given statement. -/
theorem proved:Rows.BlockThinsAgainCardSaid:=
  Claim7.holds_tied_plain_at .later [] [.data,.data,.data,.data,.pinned] true (true, "d654b2cec0f8557bbbb5480e76980c39e15dd936e99d10f5b1411d3614c16e4e") false holds (λ_ h=>by cases h) (by as_aux_lemma=>kernel_rfl) (λ_ h=>by cases h) blockThinsAgain_row_tie rfl ⟨rfl,rfl⟩ (by as_aux_lemma=>kernel_rfl) rfl
    (λf fn hf hfn=>by
      obtain rfl:f=3:=Option.some.inj ((show Tryz.prog.funcNamed "wavestore/wavestorelaw35.BlockThinsAgain" =some 3 by as_aux_lemma=>kernel_rfl).symm.trans hf)|>.symm
      obtain rfl:fn=Tryz.f3:=(Option.some.inj (Tryz.func3.symm.trans hfn)).symm
      exact⟨by as_aux_lemma=>kernel_rfl,λj t ht=>by
        rw[Tryz.params3] at ht
        have hm:t∈[22,27,5]:=by
          have:=Array.mem_of_getElem? ht
          simp at this
          simp[this]
        have ao:([22,27,5].all λu=> !Tryz.prog.wantsStandIn u)=true:=by as_aux_lemma=>kernel_rfl
        exact(show Tryz.prog.wantsStandIn t=false by simpa using uI.1 ao t hm)⟩)
    (by as_aux_lemma=>kernel_rfl)
end Go.Proofs.YtikecoijpkmnbaaGreatDoor.blockThinsAgain
