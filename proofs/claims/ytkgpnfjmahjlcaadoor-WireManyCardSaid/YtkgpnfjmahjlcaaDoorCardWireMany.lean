/- The row of the law WireMany, out of the session's walk. The frame is the kit's printed row's; written by rowx.py. -/
import Derived.Test.YtkgpnfjmahjlcaaDoorRows
import Derived.Test.YtkgpnfjmahjlcaaDoorReads
import Derived.Test.YtkgpnfjmahjlcaaDoorWalkWireMany
import Derived.Test.YtkgpnfjmahjlcaaDoorWiCut
import Derived.Test.YtkgpnfjmahjlcaaDoorTie
import Derived.Test.YtkgpnfjmahjlcaaDoorCards
import Derived.Handed
import Derived.SevenTiedAt
import Derived.WalkKit
import Derived.ProofKit
import Derived.OpenShut
import Derived.ShutString
import Derived.ChangeOld
import Derived.Below
import Derived.SizedLaws
namespace Go.Proofs.YtkgpnfjmahjlcaaDoor.wireMany
open Go.ChangeShapes Go.WideShapes Go.ChangeAt Go.RowKit Go.Proofs.YtkgpnfjmahjlcaaDoor.Open Go.Proofs.YtkgpnfjmahjlcaaDoor.PAll Go.Proofs.YtkgpnfjmahjlcaaDoorW.PrintWords
open Go.ChangeMaps (open_string shut_string)
set_option linter.unusedVariables false
theorem own : ownKnob Tryd.prog.godebug = none := by kernel_rfl
theorem laidOut : laidOutB Tryd.prog = true := by kernel_rfl
set_option maxRecDepth 100000 in
theorem lifted (os : Os) (started : os.Started) (H : Type) (enc : TypeId × Value → H) :
    ReturnsInHanded {} Tryd.checked os 7 .any (fun w args => (Rows.wireManySpec.pre enc Tryd.prog Tryd.f7 [] false w args ∧ laidMet Tryd.prog Rows.wireManyRow.laid w) ∧ sizedMet enc Tryd.prog Tryd.f7 (OpenSpec.ofChange Rows.wireManySpec) false w args) (Rows.wireManySpec.post enc Tryd.prog Tryd.f7 false true false false) := by
  refine returnsInHanded_of_change_and (C := Tryd.checked) (X := fun w _ => laidMet Tryd.prog Rows.wireManyRow.laid w) (fun _ _ _ hh h => h.of_heap hh) own started (by kernel_rfl) Tryd.func7
    (ChangeSpec.witness_at (enc := enc) (C := Tryd.checked) (os := os) (X := fun w _ => laidMet Tryd.prog Rows.wireManyRow.laid w) false (LaidW.laidWorld os) #[.agg #[.int .u64 0, .int .u64 0, .int .u64 0, .string ByteArray.empty, .string ByteArray.empty, .int .i64 0, .int .i64 0, .int .i64 0, .slice none 0 0, .slice none 0 0, .slice none 0 0], .int .u8 0] 8 rfl (by kernel_rfl) (by kernel_rfl) (by kernel_rfl) (by kernel_rfl) (by kernel_rfl) (LaidW.laid_met os _)) ?_
  intro W base args ds gs before hval0 hW hcnd hsz0 hL _
  have htab : Tabs W := LaidW.tabs_of hL
  have hsz : (DataW.weightsEach Tryd.prog (Tryd.f7.params.toList ++ Rows.wireManySpec.plain.varTypes Tryd.prog) (ds ++ gs)).all (· ≤ reachBytes) = true := hsz0
  have hval : ∀ (j : Nat) t v, Tryd.f7.params[j]? = some t → args[j]? = some v → Value.okWide Tryd.prog W .any base t v := hval0
  have hW' := hW
  obtain ⟨p, q, hA0, hV, rfl, hfz, hnd⟩ := hW
  have hA : DataW.TrodAll enc Tryd.prog W 0 (fun _ => true) true Tryd.f7.params.toList args.toList ds p := hA0
  rw [Tryd.params7] at hA hval hsz
  obtain ⟨v0, vs0, d0, ds0, p0, q0, hargs, rfl, rfl, h0, r0⟩ := trodAll_cons hA
  obtain ⟨v1, vs1, d1, ds1, p1, q1, rfl, rfl, rfl, h1, r1⟩ := trodAll_cons r0
  obtain ⟨rfl, rfl, rfl⟩ := trodAll_nil r1
  obtain rfl : args = #[v0, v1] := by cases args; simp_all
  obtain ⟨rfl, rfl⟩ := trodVars_none hV
  have k0_ := h0
  have lt0 : ∀ x ∈ p0, x.block < W.heap.size := by obtain ⟨m, hm⟩ := k0_; exact DataW.trod_lt m _ _ _ hm
  obtain ⟨m0, hm0⟩ := h0
  obtain ⟨x0, hk0, hg0⟩ := reads27 H enc W m0 _ _ _ hm0 (weights_arg hsz (j := 0) (t := 27) rfl rfl)
  obtain ⟨cs0, rfl, _⟩ := okWide_struct Tryd.underlying27 (hval 0 27 v0 rfl rfl)
  have k1_ := h1
  have lt1 : ∀ x ∈ p1, x.block < W.heap.size := by obtain ⟨m, hm⟩ := k1_; exact DataW.trod_lt m _ _ _ hm
  obtain ⟨m1, hm1⟩ := h1
  obtain ⟨x1, hk1, hg1⟩ := (reads_int Tryd.underlying5) H enc W m1 _ _ _ hm1 (weights_arg hsz (j := 1) (t := 5) rfl rfl)
  obtain ⟨a1, rfl⟩ := okWide_int Tryd.underlying5 (hval 1 5 v1 rfl rfl)
  obtain rfl : a1 = x1 := by have := hk1; simpa [Kd.int, Kd.scalar, Value.cells] using this
  clear hA0 hval0 hsz0 hsz
  refine (Walk.WireMany W x0 cs0 hk0 hg0 a1 hg1 htab).mono fun e W' ⟨he, bel⟩ => ?_
  subst he
  exact ⟨_, rfl, _, _, _, [], _, [], hW', trodAll_mk1 (shut_bool Tryd.underlying4 _), (trodAll_cons_mk (Below.trod laidOut (by kernel_rfl) (of_decide_eq_true (by kernel_rfl)) k0_ bel lt0) (trodAll_cons_mk (Below.trod laidOut (by kernel_rfl) (of_decide_eq_true (by kernel_rfl)) k1_ bel lt1) trodAll_mk0)), rfl, bel.frame _, fun h => by cases h⟩
theorem over : Rows.wireManyRow.holds Tryd.pinned (OpenSpec.ofChange Rows.wireManySpec) :=
  OpenClaim.holds_of_wide 7 Tryd.f7 rfl rfl rfl rfl rfl rfl rfl ⟨rfl, rfl, rfl, rfl, rfl⟩ rfl rfl rfl rfl rfl (by kernel_rfl) Tryd.func7 (by kernel_rfl)
    (of_decide_eq_true (by kernel_rfl)) (by unfold Func.isWrapper; first | (rw [if_pos (by decide +kernel)]; kernel_rfl) | (rw [if_neg (by decide +kernel)]; exact ⟨rfl, rfl⟩))
    (fun os started H enc _ => lifted os started H enc)
theorem proved : Rows.WireManyCardSaid :=
  Claim7.holds_tied_plain_at .later [] [.data, .pinned] true (true, "2a0d9c1805ed8e1cf243b6b1507eb501a4f0e834b87ef04df337e00b92df1c1b") false
    over (fun _ h => by cases h) (by kernel_rfl) (fun _ h => by cases h) wireMany_row_tie rfl ⟨rfl, rfl⟩ (by kernel_rfl) rfl
    (fun f fn hf hfn => by
      obtain rfl : f = 7 := Option.some.inj ((show Tryd.prog.funcNamed Rows.wireManyRow.func = some 7 by kernel_rfl).symm.trans hf) |>.symm
      obtain rfl : fn = Tryd.f7 := (Option.some.inj (Tryd.func7.symm.trans hfn)).symm
      exact ⟨by kernel_rfl, fun j t ht => by
        rw [Tryd.params7] at ht
        have hall : ∀ t, t ∈ (Tryd.f7.params).toList → Tryd.prog.wantsStandIn t = false := by
          rw [Tryd.params7]
          intro t ht
          simp only [List.mem_cons, or_false, List.not_mem_nil] at ht
          first | (subst ht; kernel_rfl) | (rcases ht with rfl | rfl <;> kernel_rfl) | (rcases ht with rfl | rfl | rfl <;> kernel_rfl) | (rcases ht with rfl | rfl | rfl | rfl <;> kernel_rfl)
        refine hall t ?_
        rw [Tryd.params7]
        exact Array.mem_toList_iff.mpr (Array.mem_of_getElem? ht)⟩)
    (by kernel_rfl)
#print axioms proved
end Go.Proofs.YtkgpnfjmahjlcaaDoor.wireMany
namespace Go.Proofs.YtkgpnfjmahjlcaaDoor
/-- The card, under a short name, for the claim. -/
theorem wireMany_card : Rows.WireManyCardSaid := wireMany.proved
end Go.Proofs.YtkgpnfjmahjlcaaDoor
