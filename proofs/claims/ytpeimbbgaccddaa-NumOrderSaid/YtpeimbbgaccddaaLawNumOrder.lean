/- The row of the law NumOrder, out of the session's walk. The frame is the kit's printed row's; written by rowx.py. -/
import Derived.Test.YtpeimbbgaccddaaRows
import Derived.Test.YtpeimbbgaccddaaReads
import Derived.Test.YtpeimbbgaccddaaWalkNumOrder
import Derived.WalkKit
import Derived.ProofKit
import Derived.OpenShut
import Derived.ShutString
import Derived.ChangeOld
import Derived.Below
import Derived.SizedLaws
namespace Go.Proofs.Ytpeimbbgaccddaa.numOrder
open Go.ChangeShapes Go.WideShapes Go.ChangeAt Go.RowKit Go.Proofs.Ytpeimbbgaccddaa.Open Go.Proofs.Ytpeimbbgaccddaa.PAll Go.Proofs.YtpeimbbgaccddaaW.PrintWords
open Go.ChangeMaps (open_string shut_string)
set_option linter.unusedVariables false
theorem own : ownKnob Try.prog.godebug = none := by kernel_rfl
theorem laidOut : laidOutB Try.prog = true := by kernel_rfl
set_option maxRecDepth 100000 in
theorem lifted (os : Os) (started : os.Started) (H : Type) (enc : TypeId × Value → H) :
    ReturnsInHanded {} Try.checked os 9 .any (Rows.numOrderSpec.pre6 enc Try.prog Try.f9 Rows.numOrderRow.domain false) (Rows.numOrderSpec.post enc Try.prog Try.f9 false true false false) := by
  refine returnsInHanded_of_change_sized (C := Try.checked) own started (by kernel_rfl) Try.func9
    (ChangeSpec.witness6 (enc := enc) (C := Try.checked) false ⟨#[], #[.agg #[.int .u64 0, .int .u64 0], .agg #[.int .i64 0, .int .i64 0], .slice none 0 0], []⟩ 8 (by kernel_rfl) (by kernel_rfl) (by kernel_rfl) (by kernel_rfl)) ?_
  intro W base args ds gs before hval0 hW hcnd hsz0 _
  have hsz : (DataW.weightsEach Try.prog (Try.f9.params.toList ++ Rows.numOrderSpec.plain.varTypes Try.prog) (ds ++ gs)).all (· ≤ reachBytes) = true := hsz0
  have hval : ∀ (j : Nat) t v, Try.f9.params[j]? = some t → args[j]? = some v → Value.okWide Try.prog W .any base t v := hval0
  have hW' := hW
  obtain ⟨p, q, hA0, hV, rfl, hfz, hnd⟩ := hW
  have hA : DataW.TrodAll enc Try.prog W 0 (fun _ => true) true Try.f9.params.toList args.toList ds p := hA0
  rw [Try.params9] at hA hval hsz
  obtain ⟨v0, vs0, d0, ds0, p0, q0, hargs, rfl, rfl, h0, r0⟩ := trodAll_cons hA
  obtain ⟨v1, vs1, d1, ds1, p1, q1, rfl, rfl, rfl, h1, r1⟩ := trodAll_cons r0
  obtain ⟨v2, vs2, d2, ds2, p2, q2, rfl, rfl, rfl, h2, r2⟩ := trodAll_cons r1
  obtain ⟨rfl, rfl, rfl⟩ := trodAll_nil r2
  obtain rfl : args = #[v0, v1, v2] := by cases args; simp_all
  obtain ⟨rfl, rfl⟩ := trodVars_none hV
  have k0_ := h0
  have lt0 : ∀ x ∈ p0, x.block < W.heap.size := by obtain ⟨m, hm⟩ := k0_; exact DataW.trod_lt m _ _ _ hm
  obtain ⟨m0, hm0⟩ := h0
  obtain ⟨x0, hk0, hg0⟩ := (reads_ints Try.underlying43 Try.underlying24 (by kernel_rfl) (by kernel_rfl)) H enc W m0 _ _ _ hm0 (weights_arg hsz (j := 0) (t := 43) rfl rfl)
  obtain ⟨cs0, rfl⟩ := okWide_array Try.underlying43 (hval 0 43 v0 rfl rfl)
  obtain ⟨hn0, hcs0⟩ := Kd.arr_cells (enc := Value.int .u64) hk0
  obtain rfl : cs0 = (x0.map (Value.int .u64)).toArray := (Array.toArray_toList (xs := cs0)).symm.trans (congrArg List.toArray hcs0)
  have k1_ := h1
  have lt1 : ∀ x ∈ p1, x.block < W.heap.size := by obtain ⟨m, hm⟩ := k1_; exact DataW.trod_lt m _ _ _ hm
  obtain ⟨m1, hm1⟩ := h1
  obtain ⟨x1, hk1, hg1⟩ := (reads_ints Try.underlying44 Try.underlying2 (by kernel_rfl) (by kernel_rfl)) H enc W m1 _ _ _ hm1 (weights_arg hsz (j := 1) (t := 44) rfl rfl)
  obtain ⟨cs1, rfl⟩ := okWide_array Try.underlying44 (hval 1 44 v1 rfl rfl)
  obtain ⟨hn1, hcs1⟩ := Kd.arr_cells (enc := Value.int .i64) hk1
  obtain rfl : cs1 = (x1.map (Value.int .i64)).toArray := (Array.toArray_toList (xs := cs1)).symm.trans (congrArg List.toArray hcs1)
  have k2_ := h2
  have lt2 : ∀ x ∈ p2, x.block < W.heap.size := by obtain ⟨m, hm⟩ := k2_; exact DataW.trod_lt m _ _ _ hm
  obtain ⟨m2, hm2⟩ := h2
  obtain ⟨x2, hk2, hg2⟩ := (reads_slice' Try.underlying22 (reads_int Try.underlying5) (by kernel_rfl) (B := 1) (by kernel_rfl)) H enc W m2 _ _ _ hm2 (weights_arg hsz (j := 2) (t := 22) rfl rfl)
  obtain ⟨a2, len2, cap2, rfl⟩ := okWide_slice Try.underlying22 (hval 2 22 v2 rfl rfl)
  obtain ⟨rfl, hl2, hc2⟩ := slice_arg hk2
  clear hA0 hval0 hsz0 hsz
  refine (Walk.NumOrder W x0 hn0 hg0.2 x1 hn1 hg1.2 a2 cap2 x2 hl2 hc2 hg2).mono fun e W' ⟨he, bel⟩ => ?_
  subst he
  exact ⟨_, rfl, _, _, _, [], _, [], hW', trodAll_mk1 (shut_bool Try.underlying4 _), (trodAll_cons_mk (Below.trod laidOut (by kernel_rfl) (of_decide_eq_true (by kernel_rfl)) k0_ bel lt0) (trodAll_cons_mk (Below.trod laidOut (by kernel_rfl) (of_decide_eq_true (by kernel_rfl)) k1_ bel lt1) (trodAll_cons_mk (Below.trod laidOut (by kernel_rfl) (of_decide_eq_true (by kernel_rfl)) k2_ bel lt2) trodAll_mk0))), rfl, bel.frame _, fun h => by cases h⟩
theorem over : Rows.numOrderRow.holds Try.pinned (OpenSpec.ofChange Rows.numOrderSpec) :=
  OpenClaim.holds_of_wide 9 Try.f9 rfl rfl rfl rfl rfl rfl rfl ⟨rfl, rfl, rfl, rfl, rfl⟩ rfl rfl rfl rfl rfl (by kernel_rfl) Try.func9 (by kernel_rfl)
    (of_decide_eq_true (by kernel_rfl)) (by unfold Func.isWrapper; first | (rw [if_pos (by decide +kernel)]; kernel_rfl) | (rw [if_neg (by decide +kernel)]; exact ⟨rfl, rfl⟩))
    (fun os started H enc _ => lifted os started H enc)
theorem proved : Rows.NumOrderSaid := over
#print axioms proved
end Go.Proofs.Ytpeimbbgaccddaa.numOrder
namespace Go.Proofs.Ytpeimbbgaccddaa
/-- The row, under a short name, for the claim. -/
theorem numOrder_holds : Rows.NumOrderSaid := numOrder.proved
end Go.Proofs.Ytpeimbbgaccddaa
