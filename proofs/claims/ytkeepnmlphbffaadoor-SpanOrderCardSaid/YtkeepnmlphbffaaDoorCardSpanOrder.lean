/- The row of the law SpanOrder, out of the session's walk. The frame is the kit's printed row's; written by rowx.py. -/
import Derived.Test.YtkeepnmlphbffaaDoorRows
import Derived.Test.YtkeepnmlphbffaaDoorReads
import Derived.Test.YtkeepnmlphbffaaDoorWalkSpanOrder
import Derived.Test.YtkeepnmlphbffaaDoorLaidW
import Derived.Test.YtkeepnmlphbffaaDoorTie
import Derived.Test.YtkeepnmlphbffaaDoorCards
import Derived.Handed
import Derived.SevenTiedAt
import Derived.WalkKit
import Derived.ProofKit
import Derived.OpenShut
import Derived.ShutString
import Derived.ChangeOld
import Derived.Below
import Derived.SizedLaws
namespace Go.Proofs.YtkeepnmlphbffaaDoor.spanOrder
open Go.ChangeShapes Go.WideShapes Go.ChangeAt Go.RowKit Go.Proofs.YtkeepnmlphbffaaDoor.Open Go.Proofs.YtkeepnmlphbffaaDoor.PSp Go.Proofs.YtkeepnmlphbffaaDoorW.PrintWords
open Go.ChangeMaps (open_string shut_string)
set_option linter.unusedVariables false
theorem own : ownKnob Tryd.prog.godebug = none := by kernel_rfl
theorem laidOut : laidOutB Tryd.prog = true := by kernel_rfl
set_option maxRecDepth 100000 in
theorem lifted (os : Os) (started : os.Started) (H : Type) (enc : TypeId × Value → H) :
    ReturnsInHanded {} Tryd.checked os 4 .any (fun w args => (Rows.spanOrderSpec.pre enc Tryd.prog Tryd.f4 [] false w args ∧ laidMet Tryd.prog Rows.spanOrderRow.laid w) ∧ sizedMet enc Tryd.prog Tryd.f4 (OpenSpec.ofChange Rows.spanOrderSpec) false w args) (Rows.spanOrderSpec.post enc Tryd.prog Tryd.f4 false true false false) := by
  refine returnsInHanded_of_change_and (C := Tryd.checked) (X := fun w _ => laidMet Tryd.prog Rows.spanOrderRow.laid w) (fun _ _ _ hh h => h.of_heap hh) own started (by kernel_rfl) Tryd.func4
    (ChangeSpec.witness_at (enc := enc) (C := Tryd.checked) (os := os) (X := fun w _ => laidMet Tryd.prog Rows.spanOrderRow.laid w) false (LaidW.laidWorld os) #[.agg #[.int .i64 0, .string ByteArray.empty, .int .i64 0, .bool false, .int .i64 0, .string ByteArray.empty, .int .i64 0, .bool false, .int .i64 0, .string ByteArray.empty, .int .i64 0, .bool false]] 8 rfl (by kernel_rfl) (by kernel_rfl) (by kernel_rfl) (by kernel_rfl) (by kernel_rfl) (LaidW.laid_met os _)) ?_
  intro W base args ds gs before hval0 hW hcnd hsz0 hL _
  have htab : Tabs W := LaidW.tabs_of hL
  have hsz : (DataW.weightsEach Tryd.prog (Tryd.f4.params.toList ++ Rows.spanOrderSpec.plain.varTypes Tryd.prog) (ds ++ gs)).all (· ≤ reachBytes) = true := hsz0
  have hval : ∀ (j : Nat) t v, Tryd.f4.params[j]? = some t → args[j]? = some v → Value.okWide Tryd.prog W .any base t v := hval0
  have hW' := hW
  obtain ⟨p, q, hA0, hV, rfl, hfz, hnd⟩ := hW
  have hA : DataW.TrodAll enc Tryd.prog W 0 (fun _ => true) true Tryd.f4.params.toList args.toList ds p := hA0
  rw [Tryd.params4] at hA hval hsz
  obtain ⟨v0, vs0, d0, ds0, p0, q0, hargs, rfl, rfl, h0, r0⟩ := trodAll_cons hA
  obtain ⟨rfl, rfl, rfl⟩ := trodAll_nil r0
  obtain rfl : args = #[v0] := by cases args; simp_all
  obtain ⟨rfl, rfl⟩ := trodVars_none hV
  have k0_ := h0
  have lt0 : ∀ x ∈ p0, x.block < W.heap.size := by obtain ⟨m, hm⟩ := k0_; exact DataW.trod_lt m _ _ _ hm
  obtain ⟨m0, hm0⟩ := h0
  obtain ⟨x0, hk0, hg0⟩ := (reads_arr (of_decide_eq_true (by kernel_rfl)) Tryd.underlying29 reads23 (by kernel_rfl) (by kernel_rfl)) H enc W m0 _ _ _ hm0 (weights_arg hsz (j := 0) (t := 29) rfl rfl)
  obtain ⟨cs0, rfl⟩ := okWide_array Tryd.underlying29 (hval 0 29 v0 rfl rfl)
  clear hA0 hval0 hsz0 hsz
  refine (Walk.SpanOrder W x0 cs0 hk0 hg0 htab).mono fun e W' ⟨he, bel⟩ => ?_
  subst he
  exact ⟨_, rfl, _, _, _, [], _, [], hW', trodAll_mk1 (shut_bool Tryd.underlying4 _), (trodAll_cons_mk (Below.trod laidOut (by kernel_rfl) (of_decide_eq_true (by kernel_rfl)) k0_ bel lt0) trodAll_mk0), rfl, bel.frame _, fun h => by cases h⟩
theorem over : Rows.spanOrderRow.holds Tryd.pinned (OpenSpec.ofChange Rows.spanOrderSpec) :=
  OpenClaim.holds_of_wide 4 Tryd.f4 rfl rfl rfl rfl rfl rfl rfl ⟨rfl, rfl, rfl, rfl, rfl⟩ rfl rfl rfl rfl rfl (by kernel_rfl) Tryd.func4 (by kernel_rfl)
    (of_decide_eq_true (by kernel_rfl)) (by unfold Func.isWrapper; first | (rw [if_pos (by decide +kernel)]; kernel_rfl) | (rw [if_neg (by decide +kernel)]; exact ⟨rfl, rfl⟩))
    (fun os started H enc _ => lifted os started H enc)
theorem proved : Rows.SpanOrderCardSaid :=
  Claim7.holds_tied_plain_at .later [] [.data, .pinned] true (true, "e07d8c4dd8dac5ce34f03dd4cf986494ac59daf3d238c58aa2394fb6fceea007") true
    over (fun _ h => by cases h) (by kernel_rfl) (fun _ h => by cases h) spanOrder_row_tie rfl ⟨rfl, rfl⟩ (by kernel_rfl) rfl
    (fun f fn hf hfn => by
      obtain rfl : f = 4 := Option.some.inj ((show Tryd.prog.funcNamed Rows.spanOrderRow.func = some 4 by kernel_rfl).symm.trans hf) |>.symm
      obtain rfl : fn = Tryd.f4 := (Option.some.inj (Tryd.func4.symm.trans hfn)).symm
      exact ⟨by kernel_rfl, fun j t ht => by
        rw [Tryd.params4] at ht
        have hall : ∀ t, t ∈ (Tryd.f4.params).toList → Tryd.prog.wantsStandIn t = false := by
          rw [Tryd.params4]
          intro t ht
          simp only [List.mem_cons, or_false, List.not_mem_nil] at ht
          first | (subst ht; kernel_rfl) | (rcases ht with rfl | rfl <;> kernel_rfl) | (rcases ht with rfl | rfl | rfl <;> kernel_rfl) | (rcases ht with rfl | rfl | rfl | rfl <;> kernel_rfl)
        refine hall t ?_
        rw [Tryd.params4]
        exact Array.mem_toList_iff.mpr (Array.mem_of_getElem? ht)⟩)
    (by kernel_rfl)
#print axioms proved
end Go.Proofs.YtkeepnmlphbffaaDoor.spanOrder
namespace Go.Proofs.YtkeepnmlphbffaaDoor
/-- The card, under a short name, for the claim. -/
theorem spanOrder_card : Rows.SpanOrderCardSaid := spanOrder.proved
end Go.Proofs.YtkeepnmlphbffaaDoor
