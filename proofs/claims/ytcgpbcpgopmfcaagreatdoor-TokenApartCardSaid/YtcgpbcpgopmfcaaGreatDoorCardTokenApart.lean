/- The row of the law TokenApart, out of the session's walk. The frame is the kit's printed row's; written by rowx.py. -/
import Derived.Test.YtcgpbcpgopmfcaaGreatDoorRows
import Derived.Test.YtcgpbcpgopmfcaaGreatDoorReads
import Derived.Test.YtcgpbcpgopmfcaaGreatDoorWalkTokenApart
import Derived.Test.YtcgpbcpgopmfcaaGreatDoorLaidW24
import Derived.Test.YtcgpbcpgopmfcaaGreatDoorTie
import Derived.Test.YtcgpbcpgopmfcaaGreatDoorCards
import Derived.Handed
import Derived.SevenTiedAt
import Derived.WalkKit
import Derived.ProofKit
import Derived.OpenShut
import Derived.ShutString
import Derived.ChangeOld
import Derived.Below
import Derived.SizedLaws
namespace Go.Proofs.YtcgpbcpgopmfcaaGreatDoor.tokenApart
open Go.ChangeShapes Go.WideShapes Go.ChangeAt Go.RowKit Go.Proofs.YtcgpbcpgopmfcaaGreatDoor.Open Go.Proofs.YtcgpbcpgopmfcaaGreatDoor.PAll Go.Proofs.YtcgpbcpgopmfcaaGreatDoorW.PrintWords
open Go.ChangeMaps (open_string shut_string)
set_option linter.unusedVariables false
theorem own : ownKnob Tryz.prog.godebug = none := by kernel_rfl
theorem laidOut : laidOutB Tryz.prog = true := by kernel_rfl
set_option maxRecDepth 100000 in
theorem lifted (os : Os) (started : os.Started) (H : Type) (enc : TypeId × Value → H) :
    ReturnsInHanded {} Tryz.checked os 4 .any (fun w args => (Rows.tokenApartSpec.pre enc Tryz.prog Tryz.f4 [] false w args ∧ laidMet Tryz.prog Rows.tokenApartRow.laid w) ∧ sizedMet enc Tryz.prog Tryz.f4 (OpenSpec.ofChange Rows.tokenApartSpec) false w args) (Rows.tokenApartSpec.post enc Tryz.prog Tryz.f4 false true false false) := by
  refine returnsInHanded_of_change_and (C := Tryz.checked) (X := fun w _ => laidMet Tryz.prog Rows.tokenApartRow.laid w) (fun _ _ _ hh h => h.of_heap hh) own started (by kernel_rfl) Tryz.func4
    (ChangeSpec.witness_at (enc := enc) (C := Tryz.checked) (os := os) (X := fun w _ => laidMet Tryz.prog Rows.tokenApartRow.laid w) false (LaidW.laidWorld os) #[.agg #[.int .u64 0, .int .u64 0], .slice none 0 0, .slice none 0 0] 8 rfl (by kernel_rfl) (by kernel_rfl) (by kernel_rfl) (by kernel_rfl) (by kernel_rfl) (LaidW.laid_met os _)) ?_
  intro W base args ds gs before hval0 hW hcnd hsz0 hL _
  have htab : Tabs W := LaidW.tabs_of hL
  have hsz : (DataW.weightsEach Tryz.prog (Tryz.f4.params.toList ++ Rows.tokenApartSpec.plain.varTypes Tryz.prog) (ds ++ gs)).all (· ≤ reachBytes) = true := hsz0
  have hval : ∀ (j : Nat) t v, Tryz.f4.params[j]? = some t → args[j]? = some v → Value.okWide Tryz.prog W .any base t v := hval0
  have hW' := hW
  obtain ⟨p, q, hA0, hV, rfl, hfz, hnd⟩ := hW
  have hA : DataW.TrodAll enc Tryz.prog W 0 (fun _ => true) true Tryz.f4.params.toList args.toList ds p := hA0
  rw [Tryz.params4] at hA hval hsz
  obtain ⟨v0, vs0, d0, ds0, p0, q0, hargs, rfl, rfl, h0, r0⟩ := trodAll_cons hA
  obtain ⟨v1, vs1, d1, ds1, p1, q1, rfl, rfl, rfl, h1, r1⟩ := trodAll_cons r0
  obtain ⟨v2, vs2, d2, ds2, p2, q2, rfl, rfl, rfl, h2, r2⟩ := trodAll_cons r1
  obtain ⟨rfl, rfl, rfl⟩ := trodAll_nil r2
  obtain rfl : args = #[v0, v1, v2] := by cases args; simp_all
  obtain ⟨rfl, rfl⟩ := trodVars_none hV
  have k0_ := h0
  have lt0 : ∀ x ∈ p0, x.block < W.heap.size := by obtain ⟨m, hm⟩ := k0_; exact DataW.trod_lt m _ _ _ hm
  obtain ⟨m0, hm0⟩ := h0
  obtain ⟨x0, hk0, hg0⟩ := (reads_ints Tryz.underlying34 Tryz.underlying22 (by kernel_rfl) (by kernel_rfl)) H enc W m0 _ _ _ hm0 (weights_arg hsz (j := 0) (t := 34) rfl rfl)
  obtain ⟨cs0, rfl⟩ := okWide_array Tryz.underlying34 (hval 0 34 v0 rfl rfl)
  obtain ⟨hn0, hcs0⟩ := Kd.arr_cells (enc := Value.int .u64) hk0
  obtain rfl : cs0 = (x0.map (Value.int .u64)).toArray := (Array.toArray_toList (xs := cs0)).symm.trans (congrArg List.toArray hcs0)
  have k1_ := h1
  have lt1 : ∀ x ∈ p1, x.block < W.heap.size := by obtain ⟨m, hm⟩ := k1_; exact DataW.trod_lt m _ _ _ hm
  obtain ⟨m1, hm1⟩ := h1
  obtain ⟨x1, hk1, hg1⟩ := (reads_slice' Tryz.underlying23 (reads_int Tryz.underlying5) (by kernel_rfl) (B := 1) (by kernel_rfl)) H enc W m1 _ _ _ hm1 (weights_arg hsz (j := 1) (t := 23) rfl rfl)
  obtain ⟨a1, len1, cap1, rfl⟩ := okWide_slice Tryz.underlying23 (hval 1 23 v1 rfl rfl)
  obtain ⟨rfl, hl1, hc1⟩ := slice_arg hk1
  have k2_ := h2
  have lt2 : ∀ x ∈ p2, x.block < W.heap.size := by obtain ⟨m, hm⟩ := k2_; exact DataW.trod_lt m _ _ _ hm
  obtain ⟨m2, hm2⟩ := h2
  obtain ⟨x2, hk2, hg2⟩ := (reads_slice' Tryz.underlying23 (reads_int Tryz.underlying5) (by kernel_rfl) (B := 1) (by kernel_rfl)) H enc W m2 _ _ _ hm2 (weights_arg hsz (j := 2) (t := 23) rfl rfl)
  obtain ⟨a2, len2, cap2, rfl⟩ := okWide_slice Tryz.underlying23 (hval 2 23 v2 rfl rfl)
  obtain ⟨rfl, hl2, hc2⟩ := slice_arg hk2
  clear hA0 hval0 hsz0 hsz
  refine (Walk.TokenApart W x0 hn0 hg0.2 a1 cap1 x1 hl1 hc1 hg1 a2 cap2 x2 hl2 hc2 hg2 htab).mono fun e W' ⟨he, bel⟩ => ?_
  subst he
  exact ⟨_, rfl, _, _, _, [], _, [], hW', trodAll_mk1 (shut_bool Tryz.underlying4 _), (trodAll_cons_mk (Below.trod laidOut (by kernel_rfl) (of_decide_eq_true (by kernel_rfl)) k0_ bel lt0) (trodAll_cons_mk (Below.trod laidOut (by kernel_rfl) (of_decide_eq_true (by kernel_rfl)) k1_ bel lt1) (trodAll_cons_mk (Below.trod laidOut (by kernel_rfl) (of_decide_eq_true (by kernel_rfl)) k2_ bel lt2) trodAll_mk0))), rfl, bel.frame _, fun h => by cases h⟩
theorem over : Rows.tokenApartRow.holds Tryz.pinned (OpenSpec.ofChange Rows.tokenApartSpec) :=
  OpenClaim.holds_of_wide 4 Tryz.f4 rfl rfl rfl rfl rfl rfl rfl ⟨rfl, rfl, rfl, rfl, rfl⟩ rfl rfl rfl rfl rfl (by kernel_rfl) Tryz.func4 (by kernel_rfl)
    (of_decide_eq_true (by kernel_rfl)) (by unfold Func.isWrapper; first | (rw [if_pos (by decide +kernel)]; kernel_rfl) | (rw [if_neg (by decide +kernel)]; exact ⟨rfl, rfl⟩))
    (fun os started H enc _ => lifted os started H enc)
theorem proved : Rows.TokenApartCardSaid :=
  Claim7.holds_tied_plain_at .later [] [.data, .data, .data, .data, .pinned] true (true, "8cbc8955b0e0398fa5f4b3493c2099af2d9c09b97e5c8a07d13eae3b58fd697e") true
    over (fun _ h => by cases h) (by kernel_rfl) (fun _ h => by cases h) tokenApart_row_tie rfl ⟨rfl, rfl⟩ (by kernel_rfl) rfl
    (fun f fn hf hfn => by
      obtain rfl : f = 4 := Option.some.inj ((show Tryz.prog.funcNamed Rows.tokenApartRow.func = some 4 by kernel_rfl).symm.trans hf) |>.symm
      obtain rfl : fn = Tryz.f4 := (Option.some.inj (Tryz.func4.symm.trans hfn)).symm
      exact ⟨by kernel_rfl, fun j t ht => by
        rw [Tryz.params4] at ht
        have hall : ∀ t, t ∈ (Tryz.f4.params).toList → Tryz.prog.wantsStandIn t = false := by
          rw [Tryz.params4]
          intro t ht
          simp only [List.mem_cons, or_false, List.not_mem_nil] at ht
          first | (subst ht; kernel_rfl) | (rcases ht with rfl | rfl <;> kernel_rfl) | (rcases ht with rfl | rfl | rfl <;> kernel_rfl) | (rcases ht with rfl | rfl | rfl | rfl <;> kernel_rfl)
        refine hall t ?_
        rw [Tryz.params4]
        exact Array.mem_toList_iff.mpr (Array.mem_of_getElem? ht)⟩)
    (by kernel_rfl)
#print axioms proved
end Go.Proofs.YtcgpbcpgopmfcaaGreatDoor.tokenApart
namespace Go.Proofs.YtcgpbcpgopmfcaaGreatDoor
/-- The card, under a short name, for the claim. -/
theorem tokenApart_card : Rows.TokenApartCardSaid := tokenApart.proved
end Go.Proofs.YtcgpbcpgopmfcaaGreatDoor
