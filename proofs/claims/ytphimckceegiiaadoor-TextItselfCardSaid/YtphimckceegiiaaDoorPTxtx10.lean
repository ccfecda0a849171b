-- Written by a program: the kit's print.py, driven for several laws at once. Not trusted: Lean checks it.
import Derived.Test.YtphimckceegiiaaDoorPTxtx0
import Derived.Test.YtphimckceegiiaaDoorPTxtx1
import Derived.Test.YtphimckceegiiaaDoorPTxtx2
import Derived.Test.YtphimckceegiiaaDoorPTxtx5
import Derived.Test.YtphimckceegiiaaDoorPTxtx7
import Derived.Test.YtphimckceegiiaaDoorPTxtx9
namespace Go.Proofs.YtphimckceegiiaaDoor.PTxt
open Go.RowKit Go.Proofs.YtphimckceegiiaaDoorW.PrintWords Go.Proofs.YtphimckceegiiaaDoorW.PrintLast Go.Proofs.YtphimckceegiiaaDoorW.PrintMore
attribute [local go_sem] max2_int min2_int max_two min_two max_three min_three max_four min_four   -- for this text's walks alone
set_option linter.unusedVariables false
set_option linter.unusedSimpArgs false

/-! ### cambiumlaw02_TextMatches: function 3 -/
def cambiumlaw02_TextMatches.j0 : Nat → ByteArray → ByteArray → Bool → Option (Bool)
  | 0, _, _, _ => none
  | k + 1, x0, x1, x14 => if x14 = true then (some true) else ((text_Match.f k x0 x1).bind fun t266 => ((cambiumref02_Match.f k x0 x1).bind fun t267 => (if (t266 == t267) = true then ((text_Match.f k (⟨#[42]⟩ : ByteArray) x1).bind fun t268 => (some t268)) else (some false))))
def cambiumlaw02_TextMatches.f (k : Nat) (a0 : ByteArray) (a1 : ByteArray) : Option (Bool) := (cambiumlaw02_awake.f k).bind fun t265 => (if t265 = true then (if (a0.size : Int) > 600 then (cambiumlaw02_TextMatches.j0 k a0 a1 true) else (cambiumlaw02_TextMatches.j0 k a0 a1 (decide ((a1.size : Int) > 600)))) else (some false))
theorem cambiumlaw02_TextMatches.mono_l : ∀ k, (∀ y0 y1 y2, LeO (cambiumlaw02_TextMatches.j0 k y0 y1 y2) (cambiumlaw02_TextMatches.j0 (k + 1) y0 y1 y2))
  | 0 => fun _ _ _ r h => by simp [cambiumlaw02_TextMatches.j0] at h
  | k + 1 => by
    have ih0 := cambiumlaw02_TextMatches.mono_l k
    · intro y0 y1 y2
      unfold cambiumlaw02_TextMatches.j0
      repeat' first
      | (with_reducible exact ih0 _ _ _)
      | (with_reducible exact cambiumlaw02_awake.mono _)
      | (with_reducible exact cambiumref02_Match.mono _ _ _)
      | (with_reducible exact text_Match.mono _ _ _)
      | (with_reducible exact LeO.refl _)
      | (with_reducible exact LeO.none _)
      | (with_reducible refine LeO.ite ?_ ?_)
      | (with_reducible refine LeO.bind ?_ (fun _ => ?_))
      | exact ih0 _ _ _
      | exact cambiumlaw02_awake.mono _
      | exact cambiumref02_Match.mono _ _ _
      | exact text_Match.mono _ _ _
      | exact LeO.none _
      | refine LeO.ite ?_ ?_
      | refine LeO.bind ?_ (fun _ => ?_)
theorem cambiumlaw02_TextMatches.mono : ∀ a0 a1 k, LeO (cambiumlaw02_TextMatches.f k a0 a1) (cambiumlaw02_TextMatches.f (k + 1) a0 a1) := by
  intro a0 a1 k
  have ih0 := cambiumlaw02_TextMatches.mono_l k
  unfold cambiumlaw02_TextMatches.f
  repeat' first
      | (with_reducible exact ih0 _ _ _)
      | (with_reducible exact cambiumlaw02_awake.mono _)
      | (with_reducible exact cambiumref02_Match.mono _ _ _)
      | (with_reducible exact text_Match.mono _ _ _)
      | (with_reducible exact LeO.refl _)
      | (with_reducible exact LeO.none _)
      | (with_reducible refine LeO.ite ?_ ?_)
      | (with_reducible refine LeO.bind ?_ (fun _ => ?_))
      | exact ih0 _ _ _
      | exact cambiumlaw02_awake.mono _
      | exact cambiumref02_Match.mono _ _ _
      | exact text_Match.mono _ _ _
      | exact LeO.none _
      | refine LeO.ite ?_ ?_
      | refine LeO.bind ?_ (fun _ => ?_)
set_option maxHeartbeats 8000000 in
set_option maxRecDepth 100000 in
theorem cambiumlaw02_TextMatches.calls (k : Nat) (a0 : ByteArray) (a1 : ByteArray) (r : Bool) (w : World) (h : cambiumlaw02_TextMatches.f k a0 a1 = some r) (hT_ : Tabs w) :
    Calls Tryd.prog 3 #[.string a0, .string a1] w fun e w' => e = .returned (.bool r) ∧ Below w.heap.size w w' := by
  have HTab_ := Aside0.mk hT_
  clear hT_
  have HB := Aside0.mk (Below.refl w.heap.size w)
  have H : ((cambiumlaw02_awake.f k).bind fun t265 => (if t265 = true then (if (a0.size : Int) > 600 then (cambiumlaw02_TextMatches.j0 k a0 a1 true) else (cambiumlaw02_TextMatches.j0 k a0 a1 (decide ((a1.size : Int) > 600)))) else (some false))) = some r := h
  clear h
  replace H := Option.bind_eq_some_iff.mp H
  obtain ⟨t265, A30, H⟩ := H
  replace H : (if t265 = true then (if (a0.size : Int) > 600 then (cambiumlaw02_TextMatches.j0 k a0 a1 true) else (cambiumlaw02_TextMatches.j0 k a0 a1 (decide ((a1.size : Int) > 600)))) else (some false)) = some r := H
  have A3 := Aside0.mk A30
  clear A30
  by_cases c4 : t265 = true
  · subst c4
    have H1 : (if (a0.size : Int) > 600 then (cambiumlaw02_TextMatches.j0 k a0 a1 true) else (cambiumlaw02_TextMatches.j0 k a0 a1 (decide ((a1.size : Int) > 600)))) = some r := by rw [if_pos rfl] at H; exact H
    clear H
    have H := H1
    clear H1
    have HC5 := Aside0.mk H
    clear H
    go_enter Tryd.func3, Tryd.ntmps3
    go_upto_region 3 with (first | ((with_reducible refine gate_callee (f := 9) rfl ?_); refine goesL_ (some 5) rfl rfl Tryd.func9 (by kernel_rfl) rfl #[] rfl (by (try simp only [List.map_toArray, List.map_cons, List.map_nil]); first | done | rfl | (simp only [List.length_drop, List.length_take]; rfl)) ?_; (with_reducible refine (cambiumlaw02_awake.calls k  true _ A3.out (by first | (with_reducible exact HTab_.out) | (with_reducible exact tabs_below HTab_.out HB.out) | exact tabs_below HTab_.out (by repeat (first | (with_reducible first | exact HB.out | apply below_alloc | apply pw_below_drewN | apply below_drew1) | exact HB.out)))).mono ?_); rintro e w6 ⟨rfl, hb⟩; refine ⟨_, rfl, ?_⟩; have n0_ := Aside0.mk (below_step (by repeat (first | (with_reducible first | exact HB.out | apply below_alloc | apply pw_below_drewN | apply below_drew1) | exact HB.out)) hb); clear HB; have HB := n0_; clear n0_; (try clear hb); (try clear hb2); (try clear hk); (try clear hi)))
    (try simp only [Act.put, List.setIfInBounds_toArray, List.set_cons_zero, List.set_cons_succ])
    go_cut [14] (fun v14 wc => ∃ (kq : Nat) (x14_4 : Bool), v14 = .bool x14_4 ∧ Aside0 (cambiumlaw02_TextMatches.j0 kq a0 a1 x14_4 = some r) ∧ Aside0 (kq ≤ k) ∧ Aside0 (Below w.heap.size w wc))
    case first =>
      have H := HC5.out
      clear HC5
      by_cases c7 : (a0.size : Int) > 600
      · rw [if_pos c7] at H
        have c7b0 : decide (600 < (a0.size : Int)) = true := decide_eq_true c7
        have c7b1 : decide (600 < a0.size) = true := decide_eq_true (by omega)
        clear c7
        (first | rw [c7b0] | (simp only [i64_w, i32_w]; rw [c7b0]) | skip)
        have H' := Aside0.mk H
        clear H
        go_wp2
        go_meet
        case rel => exact ⟨_, (true), (by first | rfl | (simp; done) | (simp [*]; done)), H', ⟨by first | omega | exact Nat.le_refl _⟩, ⟨by repeat (first | (with_reducible first | exact HB.out | apply below_alloc | apply pw_below_drewN | apply below_drew1) | exact HB.out)⟩⟩
      · rw [if_neg c7] at H
        have c7b0 : decide (600 < (a0.size : Int)) = false := decide_eq_false c7
        have c7b1 : decide (600 < a0.size) = false := decide_eq_false (by omega)
        clear c7
        (first | rw [c7b0] | (simp only [i64_w, i32_w]; rw [c7b0]) | skip)
        have H' := Aside0.mk H
        clear H
        go_wp2
        go_meet
        case rel => exact ⟨_, (decide ((a1.size : Int) > 600)), (by first | rfl | (simp; done) | (simp [*]; done)), H', ⟨by first | omega | exact Nat.le_refl _⟩, ⟨by repeat (first | (with_reducible first | exact HB.out | apply below_alloc | apply pw_below_drewN | apply below_drew1) | exact HB.out)⟩⟩
    case rest =>
      clear HC5
      try clear p2
      try clear c3
      try clear c4
      try clear c7
      try clear c7b0
      try clear c7b1
      obtain ⟨kq, x14_4, rfl, HA, HJ4, HB⟩ := hcut
      cases kq with
      | zero => exact absurd HA.out (by simp [cambiumlaw02_TextMatches.j0])
      | succ kj4 =>
        have H := HA.out
        clear HA
        simp only [cambiumlaw02_TextMatches.j0] at H
        by_cases c8 : x14_4 = true
        · subst c8
          have H1 : (some true) = some r := by rw [if_pos rfl] at H; exact H
          clear H
          have H := H1
          clear H1
          obtain rfl := Option.some.inj H
          go_wp2
          go_ret
          exact ⟨by first | rfl | (simp [errW_none, errW_some] <;> rfl) | (simp [*, errW_none, errW_some] <;> rfl), by repeat (first | (with_reducible first | exact HB.out | apply below_alloc | apply pw_below_drewN | apply below_drew1) | exact HB.out)⟩
        · replace c8 := Bool.eq_false_iff.mpr c8
          subst c8
          have H1 : ((text_Match.f kj4 a0 a1).bind fun t266 => ((cambiumref02_Match.f kj4 a0 a1).bind fun t267 => (if (t266 == t267) = true then ((text_Match.f kj4 (⟨#[42]⟩ : ByteArray) a1).bind fun t268 => (some t268)) else (some false)))) = some r := by rw [if_neg (show ¬ (false = true) by decide)] at H; exact H
          clear H
          have H := H1
          clear H1
          replace H := Option.bind_eq_some_iff.mp H
          obtain ⟨t266, A90, H⟩ := H
          replace H : ((cambiumref02_Match.f kj4 a0 a1).bind fun t267 => (if (t266 == t267) = true then ((text_Match.f kj4 (⟨#[42]⟩ : ByteArray) a1).bind fun t268 => (some t268)) else (some false))) = some r := H
          have A9 := Aside0.mk A90
          clear A90
          replace H := Option.bind_eq_some_iff.mp H
          obtain ⟨t267, A100, H⟩ := H
          replace H : (if (t266 == t267) = true then ((text_Match.f kj4 (⟨#[42]⟩ : ByteArray) a1).bind fun t268 => (some t268)) else (some false)) = some r := H
          have A10 := Aside0.mk A100
          clear A100
          by_cases c11 : (t266 == t267) = true
          · rw [if_pos c11] at H
            have c11b0 : (t266 == t267) = true := c11
            (try (have c11b1 : decide (t266 = t267) = true := by simpa using c11))
            (try (have c11b2 : (t266 == t267) = true := by simpa using c11))
            clear c11
            replace H := Option.bind_eq_some_iff.mp H
            obtain ⟨t268, A120, H⟩ := H
            replace H : (some t268) = some r := H
            have A12 := Aside0.mk A120
            clear A120
            obtain rfl := Option.some.inj H
            go_wp2_with (first | ((with_reducible refine gate_callee (f := 10) rfl ?_); refine goesL_ (some 17) rfl rfl Tryd.func10 (by kernel_rfl) rfl #[.string a0, .string a1] rfl (by (try simp only [List.map_toArray, List.map_cons, List.map_nil]); first | done | rfl | (simp only [List.length_drop, List.length_take]; rfl)) ?_; (with_reducible refine (text_Match.calls kj4 a0 a1 t266 _ A9.out).mono ?_); rintro e w13 ⟨rfl, hb⟩; refine ⟨_, rfl, ?_⟩; have n0_ := Aside0.mk (below_step (by repeat (first | (with_reducible first | exact HB.out | apply below_alloc | apply pw_below_drewN | apply below_drew1) | exact HB.out)) hb); clear HB; have HB := n0_; clear n0_; (try clear hb); (try clear hb2); (try clear hk); (try clear hi)) | ((with_reducible refine gate_callee (f := 11) rfl ?_); refine goesL_ (some 20) rfl rfl Tryd.func11 (by kernel_rfl) rfl #[.string a0, .string a1] rfl (by (try simp only [List.map_toArray, List.map_cons, List.map_nil]); first | done | rfl | (simp only [List.length_drop, List.length_take]; rfl)) ?_; (with_reducible refine (cambiumref02_Match.calls kj4 a0 a1 t267 _ A10.out).mono ?_); rintro e w14 ⟨rfl, hb⟩; refine ⟨_, rfl, ?_⟩; have n0_ := Aside0.mk (below_step (by repeat (first | (with_reducible first | exact HB.out | apply below_alloc | apply pw_below_drewN | apply below_drew1) | exact HB.out)) hb); clear HB; have HB := n0_; clear n0_; (try clear hb); (try clear hb2); (try clear hk); (try clear hi)) | (go_at_call 10; (with_reducible refine (text_Match.calls kj4 (⟨#[42]⟩ : ByteArray) a1 t268 _ A12.out).mono ?_); rintro e w15 ⟨rfl, hb⟩; have n0_ := Aside0.mk (below_step (by repeat (first | (with_reducible first | exact HB.out | apply below_alloc | apply pw_below_drewN | apply below_drew1) | exact HB.out)) hb); clear HB; have HB := n0_; clear n0_; (try clear hb); (try clear hb2); (try clear hk); (try clear hi)))
            go_ret
            exact ⟨by first | rfl | (simp [errW_none, errW_some] <;> rfl) | (simp [*, errW_none, errW_some] <;> rfl), by repeat (first | (with_reducible first | exact HB.out | apply below_alloc | apply pw_below_drewN | apply below_drew1) | exact HB.out)⟩
          · rw [if_neg c11] at H
            have c11b0 : (t266 == t267) = false := by simpa using c11
            (try (have c11b1 : decide (t266 = t267) = false := by simpa using c11))
            (try (have c11b2 : (t266 == t267) = false := by simpa using c11))
            (try (have c11b3 : ¬ (t266 = t267) := by simpa using c11))
            clear c11
            obtain rfl := Option.some.inj H
            go_wp2_with (first | ((with_reducible refine gate_callee (f := 10) rfl ?_); refine goesL_ (some 17) rfl rfl Tryd.func10 (by kernel_rfl) rfl #[.string a0, .string a1] rfl (by (try simp only [List.map_toArray, List.map_cons, List.map_nil]); first | done | rfl | (simp only [List.length_drop, List.length_take]; rfl)) ?_; (with_reducible refine (text_Match.calls kj4 a0 a1 t266 _ A9.out).mono ?_); rintro e w16 ⟨rfl, hb⟩; refine ⟨_, rfl, ?_⟩; have n0_ := Aside0.mk (below_step (by repeat (first | (with_reducible first | exact HB.out | apply below_alloc | apply pw_below_drewN | apply below_drew1) | exact HB.out)) hb); clear HB; have HB := n0_; clear n0_; (try clear hb); (try clear hb2); (try clear hk); (try clear hi)) | ((with_reducible refine gate_callee (f := 11) rfl ?_); refine goesL_ (some 20) rfl rfl Tryd.func11 (by kernel_rfl) rfl #[.string a0, .string a1] rfl (by (try simp only [List.map_toArray, List.map_cons, List.map_nil]); first | done | rfl | (simp only [List.length_drop, List.length_take]; rfl)) ?_; (with_reducible refine (cambiumref02_Match.calls kj4 a0 a1 t267 _ A10.out).mono ?_); rintro e w17 ⟨rfl, hb⟩; refine ⟨_, rfl, ?_⟩; have n0_ := Aside0.mk (below_step (by repeat (first | (with_reducible first | exact HB.out | apply below_alloc | apply pw_below_drewN | apply below_drew1) | exact HB.out)) hb); clear HB; have HB := n0_; clear n0_; (try clear hb); (try clear hb2); (try clear hk); (try clear hi)))
            go_ret
            exact ⟨by first | rfl | (simp [errW_none, errW_some] <;> rfl) | (simp [*, errW_none, errW_some] <;> rfl), by repeat (first | (with_reducible first | exact HB.out | apply below_alloc | apply pw_below_drewN | apply below_drew1) | exact HB.out)⟩
  · replace c4 := Bool.eq_false_iff.mpr c4
    subst c4
    have H1 : (some false) = some r := by rw [if_neg (show ¬ (false = true) by decide)] at H; exact H
    clear H
    have H := H1
    clear H1
    obtain rfl := Option.some.inj H
    go_enter Tryd.func3, Tryd.ntmps3
    go_wp2_with (first | ((with_reducible refine gate_callee (f := 9) rfl ?_); refine goesL_ (some 5) rfl rfl Tryd.func9 (by kernel_rfl) rfl #[] rfl (by (try simp only [List.map_toArray, List.map_cons, List.map_nil]); first | done | rfl | (simp only [List.length_drop, List.length_take]; rfl)) ?_; (with_reducible refine (cambiumlaw02_awake.calls k  false _ A3.out (by first | (with_reducible exact HTab_.out) | (with_reducible exact tabs_below HTab_.out HB.out) | exact tabs_below HTab_.out (by repeat (first | (with_reducible first | exact HB.out | apply below_alloc | apply pw_below_drewN | apply below_drew1) | exact HB.out)))).mono ?_); rintro e w18 ⟨rfl, hb⟩; refine ⟨_, rfl, ?_⟩; have n0_ := Aside0.mk (below_step (by repeat (first | (with_reducible first | exact HB.out | apply below_alloc | apply pw_below_drewN | apply below_drew1) | exact HB.out)) hb); clear HB; have HB := n0_; clear n0_; (try clear hb); (try clear hb2); (try clear hk); (try clear hi)))
    go_ret
    exact ⟨by first | rfl | (simp [errW_none, errW_some] <;> rfl) | (simp [*, errW_none, errW_some] <;> rfl), by repeat (first | (with_reducible first | exact HB.out | apply below_alloc | apply pw_below_drewN | apply below_drew1) | exact HB.out)⟩

/-- THE ONE PURE STATEMENT of cambiumlaw02_TextMatches: yours. -/
def cambiumlaw02_TextMatches.Pure : Prop := ∀ (a0 : ByteArray) (a1 : ByteArray), a0.size ≤ 140737488351232 → a1.size ≤ 140737488351232 → ∃ k, cambiumlaw02_TextMatches.f k a0 a1 = some true
theorem cambiumlaw02_TextMatches.walk (P : cambiumlaw02_TextMatches.Pure) (a0 : ByteArray) (a1 : ByteArray) (w : World) (w0 : a0.size ≤ 140737488351232) (w1 : a1.size ≤ 140737488351232) (hT_ : Tabs w) :
    Calls Tryd.prog 3 #[.string a0, .string a1] w fun e w' => e = .returned (.bool true) ∧ Below w.heap.size w w' := by
  obtain ⟨k, h⟩ := P a0 a1 w0 w1
  refine (cambiumlaw02_TextMatches.calls k a0 a1 true w h hT_).mono ?_
  rintro e w' ⟨rfl, hd⟩
  exact ⟨rfl, hd⟩

/-! ### cambiumlaw02_TextItself: function 5 -/
mutual
def cambiumlaw02_TextItself.j0 : Nat → ByteArray → ByteArray → Bool → Option (Bool)
  | 0, _, _, _ => none
  | k + 1, x0, x1, x29 => if x29 = true then (some true) else ((cambiumref02_Runes.f k x0).bind fun bt272 => (cambiumlaw02_TextItself.l0 k x0 x1 bt272.2 (⟨#[]⟩ : ByteArray) 0))
def cambiumlaw02_TextItself.l0 : Nat → ByteArray → ByteArray → List Int → ByteArray → Int → Option (Bool)
  | 0, _, _, _, _, _ => none
  | k + 1, x0, x1, x6, x7, x8 => if x8 < (x6.length : Int) then (if (wrap64 (x8 + 1)) < (x6.length : Int) then (if 0 ≤ (wrap64 (x8 + 1)) then (if x7.size + 1 ≤ 9223372036854775807 then (if 0 ≤ x8 then (if 0 ≤ (rd x6 x8) then (if (rd x6 x8) ≤ (rd x6 (wrap64 (x8 + 1))) then (if (rd x6 (wrap64 (x8 + 1))) ≤ (x0.size : Int) then (if (x7 ++ (⟨#[92]⟩ : ByteArray)).size + (x0.extract ((rd x6 x8) : Int).toNat ((rd x6 (wrap64 (x8 + 1))) : Int).toNat).size ≤ 9223372036854775807 then (cambiumlaw02_TextItself.l0 k x0 x1 x6 ((x7 ++ (⟨#[92]⟩ : ByteArray)) ++ (x0.extract ((rd x6 x8) : Int).toNat ((rd x6 (wrap64 (x8 + 1))) : Int).toNat)) (wrap64 (x8 + 1))) else (none)) else (none)) else (none)) else (none)) else (none)) else (none)) else (none)) else (if x7.size + 1 ≤ 9223372036854775807 then (if 0 ≤ x8 then (if 0 ≤ (rd x6 x8) then (if (rd x6 x8) ≤ (x0.size : Int) then (if (x0.size : Int) ≤ (x0.size : Int) then (if (x7 ++ (⟨#[92]⟩ : ByteArray)).size + (x0.extract ((rd x6 x8) : Int).toNat ((x0.size : Int) : Int).toNat).size ≤ 9223372036854775807 then (cambiumlaw02_TextItself.l0 k x0 x1 x6 ((x7 ++ (⟨#[92]⟩ : ByteArray)) ++ (x0.extract ((rd x6 x8) : Int).toNat ((x0.size : Int) : Int).toNat)) (wrap64 (x8 + 1))) else (none)) else (none)) else (none)) else (none)) else (none)) else (none))) else ((text_Match.f k x7 x0).bind fun t281 => (if t281 = true then ((text_Match.f k x7 x1).bind fun t282 => (some (t282 == (x0.toList == x1.toList)))) else (some false)))
end
def cambiumlaw02_TextItself.f (k : Nat) (a0 : ByteArray) (a1 : ByteArray) : Option (Bool) := (cambiumlaw02_awake.f k).bind fun t269 => (if t269 = true then (if (a0.size : Int) > 300 then (cambiumlaw02_TextItself.j0 k a0 a1 true) else (if (a1.size : Int) > 300 then (cambiumlaw02_TextItself.j0 k a0 a1 true) else ((cambiumref02_Utf.f k a0).bind fun t270 => (if t270 = true then ((cambiumref02_Utf.f k a1).bind fun t271 => (cambiumlaw02_TextItself.j0 k a0 a1 (!t271))) else (cambiumlaw02_TextItself.j0 k a0 a1 true))))) else (some false))
theorem cambiumlaw02_TextItself.mono_l : ∀ k, (∀ y0 y1 y2, LeO (cambiumlaw02_TextItself.j0 k y0 y1 y2) (cambiumlaw02_TextItself.j0 (k + 1) y0 y1 y2)) ∧ (∀ y0 y1 y2 y3 y4, LeO (cambiumlaw02_TextItself.l0 k y0 y1 y2 y3 y4) (cambiumlaw02_TextItself.l0 (k + 1) y0 y1 y2 y3 y4))
  | 0 => ⟨fun _ _ _ r h => by simp [cambiumlaw02_TextItself.j0] at h, fun _ _ _ _ _ r h => by simp [cambiumlaw02_TextItself.l0] at h⟩
  | k + 1 => by
    obtain ⟨ih0, ih1⟩ := cambiumlaw02_TextItself.mono_l k
    refine ⟨?_, ?_⟩
    · intro y0 y1 y2
      unfold cambiumlaw02_TextItself.j0
      repeat' first
      | (with_reducible exact ih0 _ _ _)
      | (with_reducible exact ih1 _ _ _ _ _)
      | (with_reducible exact cambiumlaw02_awake.mono _)
      | (with_reducible exact cambiumref02_Runes.mono _ _)
      | (with_reducible exact cambiumref02_Utf.mono _ _)
      | (with_reducible exact text_Match.mono _ _ _)
      | (with_reducible exact LeO.refl _)
      | (with_reducible exact LeO.none _)
      | (with_reducible refine LeO.ite ?_ ?_)
      | (with_reducible refine LeO.bind ?_ (fun _ => ?_))
      | exact ih0 _ _ _
      | exact ih1 _ _ _ _ _
      | exact cambiumlaw02_awake.mono _
      | exact cambiumref02_Runes.mono _ _
      | exact cambiumref02_Utf.mono _ _
      | exact text_Match.mono _ _ _
      | exact LeO.none _
      | refine LeO.ite ?_ ?_
      | refine LeO.bind ?_ (fun _ => ?_)
    · intro y0 y1 y2 y3 y4
      unfold cambiumlaw02_TextItself.l0
      repeat' first
      | (with_reducible exact ih0 _ _ _)
      | (with_reducible exact ih1 _ _ _ _ _)
      | (with_reducible exact cambiumlaw02_awake.mono _)
      | (with_reducible exact cambiumref02_Runes.mono _ _)
      | (with_reducible exact cambiumref02_Utf.mono _ _)
      | (with_reducible exact text_Match.mono _ _ _)
      | (with_reducible exact LeO.refl _)
      | (with_reducible exact LeO.none _)
      | (with_reducible refine LeO.ite ?_ ?_)
      | (with_reducible refine LeO.bind ?_ (fun _ => ?_))
      | exact ih0 _ _ _
      | exact ih1 _ _ _ _ _
      | exact cambiumlaw02_awake.mono _
      | exact cambiumref02_Runes.mono _ _
      | exact cambiumref02_Utf.mono _ _
      | exact text_Match.mono _ _ _
      | exact LeO.none _
      | refine LeO.ite ?_ ?_
      | refine LeO.bind ?_ (fun _ => ?_)
theorem cambiumlaw02_TextItself.mono : ∀ a0 a1 k, LeO (cambiumlaw02_TextItself.f k a0 a1) (cambiumlaw02_TextItself.f (k + 1) a0 a1) := by
  intro a0 a1 k
  obtain ⟨ih0, ih1⟩ := cambiumlaw02_TextItself.mono_l k
  unfold cambiumlaw02_TextItself.f
  repeat' first
      | (with_reducible exact ih0 _ _ _)
      | (with_reducible exact ih1 _ _ _ _ _)
      | (with_reducible exact cambiumlaw02_awake.mono _)
      | (with_reducible exact cambiumref02_Runes.mono _ _)
      | (with_reducible exact cambiumref02_Utf.mono _ _)
      | (with_reducible exact text_Match.mono _ _ _)
      | (with_reducible exact LeO.refl _)
      | (with_reducible exact LeO.none _)
      | (with_reducible refine LeO.ite ?_ ?_)
      | (with_reducible refine LeO.bind ?_ (fun _ => ?_))
      | exact ih0 _ _ _
      | exact ih1 _ _ _ _ _
      | exact cambiumlaw02_awake.mono _
      | exact cambiumref02_Runes.mono _ _
      | exact cambiumref02_Utf.mono _ _
      | exact text_Match.mono _ _ _
      | exact LeO.none _
      | refine LeO.ite ?_ ?_
      | refine LeO.bind ?_ (fun _ => ?_)
set_option maxHeartbeats 8000000 in
set_option maxRecDepth 100000 in
theorem cambiumlaw02_TextItself.calls (k : Nat) (a0 : ByteArray) (a1 : ByteArray) (r : Bool) (w : World) (h : cambiumlaw02_TextItself.f k a0 a1 = some r) (hT_ : Tabs w) :
    Calls Tryd.prog 5 #[.string a0, .string a1] w fun e w' => e = .returned (.bool r) ∧ Below w.heap.size w w' := by
  have HTab_ := Aside0.mk hT_
  clear hT_
  have HB := Aside0.mk (Below.refl w.heap.size w)
  have H : ((cambiumlaw02_awake.f k).bind fun t269 => (if t269 = true then (if (a0.size : Int) > 300 then (cambiumlaw02_TextItself.j0 k a0 a1 true) else (if (a1.size : Int) > 300 then (cambiumlaw02_TextItself.j0 k a0 a1 true) else ((cambiumref02_Utf.f k a0).bind fun t270 => (if t270 = true then ((cambiumref02_Utf.f k a1).bind fun t271 => (cambiumlaw02_TextItself.j0 k a0 a1 (!t271))) else (cambiumlaw02_TextItself.j0 k a0 a1 true))))) else (some false))) = some r := h
  clear h
  replace H := Option.bind_eq_some_iff.mp H
  obtain ⟨t269, A30, H⟩ := H
  replace H : (if t269 = true then (if (a0.size : Int) > 300 then (cambiumlaw02_TextItself.j0 k a0 a1 true) else (if (a1.size : Int) > 300 then (cambiumlaw02_TextItself.j0 k a0 a1 true) else ((cambiumref02_Utf.f k a0).bind fun t270 => (if t270 = true then ((cambiumref02_Utf.f k a1).bind fun t271 => (cambiumlaw02_TextItself.j0 k a0 a1 (!t271))) else (cambiumlaw02_TextItself.j0 k a0 a1 true))))) else (some false)) = some r := H
  have A3 := Aside0.mk A30
  clear A30
  by_cases c4 : t269 = true
  · subst c4
    have H1 : (if (a0.size : Int) > 300 then (cambiumlaw02_TextItself.j0 k a0 a1 true) else (if (a1.size : Int) > 300 then (cambiumlaw02_TextItself.j0 k a0 a1 true) else ((cambiumref02_Utf.f k a0).bind fun t270 => (if t270 = true then ((cambiumref02_Utf.f k a1).bind fun t271 => (cambiumlaw02_TextItself.j0 k a0 a1 (!t271))) else (cambiumlaw02_TextItself.j0 k a0 a1 true))))) = some r := by rw [if_pos rfl] at H; exact H
    clear H
    have H := H1
    clear H1
    have HC5 := Aside0.mk H
    clear H
    go_enter Tryd.func5, Tryd.ntmps5
    go_upto_region 3 with (first | ((with_reducible refine gate_callee (f := 9) rfl ?_); refine goesL_ (some 10) rfl rfl Tryd.func9 (by kernel_rfl) rfl #[] rfl (by (try simp only [List.map_toArray, List.map_cons, List.map_nil]); first | done | rfl | (simp only [List.length_drop, List.length_take]; rfl)) ?_; (with_reducible refine (cambiumlaw02_awake.calls k  true _ A3.out (by first | (with_reducible exact HTab_.out) | (with_reducible exact tabs_below HTab_.out HB.out) | exact tabs_below HTab_.out (by repeat (first | (with_reducible first | exact HB.out | apply below_alloc | apply pw_below_drewN | apply below_drew1) | exact HB.out)))).mono ?_); rintro e w6 ⟨rfl, hb⟩; refine ⟨_, rfl, ?_⟩; have n0_ := Aside0.mk (below_step (by repeat (first | (with_reducible first | exact HB.out | apply below_alloc | apply pw_below_drewN | apply below_drew1) | exact HB.out)) hb); clear HB; have HB := n0_; clear n0_; (try clear hb); (try clear hb2); (try clear hk); (try clear hi)))
    (try simp only [Act.put, List.setIfInBounds_toArray, List.set_cons_zero, List.set_cons_succ])
    go_cut [29] (fun v29 wc => ∃ (kq : Nat) (x29_4 : Bool), v29 = .bool x29_4 ∧ Aside0 (cambiumlaw02_TextItself.j0 kq a0 a1 x29_4 = some r) ∧ Aside0 (kq ≤ k) ∧ Aside0 (Below w.heap.size w wc))
    case first =>
      have H := HC5.out
      clear HC5
      by_cases c7 : (a0.size : Int) > 300
      · rw [if_pos c7] at H
        have c7b0 : decide (300 < (a0.size : Int)) = true := decide_eq_true c7
        have c7b1 : decide (300 < a0.size) = true := decide_eq_true (by omega)
        clear c7
        (first | rw [c7b0] | (simp only [i64_w, i32_w]; rw [c7b0]) | skip)
        have H' := Aside0.mk H
        clear H
        go_wp2
        go_meet
        case rel => exact ⟨_, (true), (by first | rfl | (simp; done) | (simp [*]; done)), H', ⟨by first | omega | exact Nat.le_refl _⟩, ⟨by repeat (first | (with_reducible first | exact HB.out | apply below_alloc | apply pw_below_drewN | apply below_drew1) | exact HB.out)⟩⟩
      · rw [if_neg c7] at H
        have c7b0 : decide (300 < (a0.size : Int)) = false := decide_eq_false c7
        have c7b1 : decide (300 < a0.size) = false := decide_eq_false (by omega)
        clear c7
        (first | rw [c7b0] | (simp only [i64_w, i32_w]; rw [c7b0]) | skip)
        by_cases c8 : (a1.size : Int) > 300
        · rw [if_pos c8] at H
          have c8b0 : decide (300 < (a1.size : Int)) = true := decide_eq_true c8
          have c8b1 : decide (300 < a1.size) = true := decide_eq_true (by omega)
          clear c8
          have H' := Aside0.mk H
          clear H
          go_wp2
          go_meet
          case rel => exact ⟨_, (true), (by first | rfl | (simp; done) | (simp [*]; done)), H', ⟨by first | omega | exact Nat.le_refl _⟩, ⟨by repeat (first | (with_reducible first | exact HB.out | apply below_alloc | apply pw_below_drewN | apply below_drew1) | exact HB.out)⟩⟩
        · rw [if_neg c8] at H
          have c8b0 : decide (300 < (a1.size : Int)) = false := decide_eq_false c8
          have c8b1 : decide (300 < a1.size) = false := decide_eq_false (by omega)
          clear c8
          replace H := Option.bind_eq_some_iff.mp H
          obtain ⟨t270, A90, H⟩ := H
          replace H : (if t270 = true then ((cambiumref02_Utf.f k a1).bind fun t271 => (cambiumlaw02_TextItself.j0 k a0 a1 (!t271))) else (cambiumlaw02_TextItself.j0 k a0 a1 true)) = some r := H
          have A9 := Aside0.mk A90
          clear A90
          by_cases c10 : t270 = true
          · subst c10
            have H1 : ((cambiumref02_Utf.f k a1).bind fun t271 => (cambiumlaw02_TextItself.j0 k a0 a1 (!t271))) = some r := by rw [if_pos rfl] at H; exact H
            clear H
            have H := H1
            clear H1
            replace H := Option.bind_eq_some_iff.mp H
            obtain ⟨t271, A110, H⟩ := H
            replace H : (cambiumlaw02_TextItself.j0 k a0 a1 (!t271)) = some r := H
            have A11 := Aside0.mk A110
            clear A110
            have H' := Aside0.mk H
            clear H
            go_wp2_with (first | (go_at_call 16; (with_reducible refine (cambiumref02_Utf.calls k a0 true _ A9.out).mono ?_); rintro e w' ⟨rfl, ⟨nd, rfl⟩⟩) | (go_at_call 16; (with_reducible refine (cambiumref02_Utf.calls k a1 t271 _ A11.out).mono ?_); rintro e w' ⟨rfl, ⟨nd, rfl⟩⟩))
            go_meet
            case rel => exact ⟨_, (!t271), (by first | rfl | (simp; done) | (simp [*]; done)), H', ⟨by first | omega | exact Nat.le_refl _⟩, ⟨by repeat (first | (with_reducible first | exact HB.out | apply below_alloc | apply pw_below_drewN | apply below_drew1) | exact HB.out)⟩⟩
          · replace c10 := Bool.eq_false_iff.mpr c10
            subst c10
            have H1 : (cambiumlaw02_TextItself.j0 k a0 a1 true) = some r := by rw [if_neg (show ¬ (false = true) by decide)] at H; exact H
            clear H
            have H := H1
            clear H1
            have H' := Aside0.mk H
            clear H
            go_wp2_with (first | (go_at_call 16; (with_reducible refine (cambiumref02_Utf.calls k a0 false _ A9.out).mono ?_); rintro e w' ⟨rfl, ⟨nd, rfl⟩⟩))
            go_meet
            case rel => exact ⟨_, (true), (by first | rfl | (simp; done) | (simp [*]; done)), H', ⟨by first | omega | exact Nat.le_refl _⟩, ⟨by repeat (first | (with_reducible first | exact HB.out | apply below_alloc | apply pw_below_drewN | apply below_drew1) | exact HB.out)⟩⟩
    case rest =>
      clear HC5
      try clear c1
      try clear p2
      try clear c4
      try clear c5
      try clear c7
      try clear c7b0
      try clear c7b1
      try clear c8
      try clear c8b0
      try clear c8b1
      try clear c9
      try clear c10
      obtain ⟨kq, x29_4, rfl, HA, HJ4, HB⟩ := hcut
      cases kq with
      | zero => exact absurd HA.out (by simp [cambiumlaw02_TextItself.j0])
      | succ kj4 =>
        have H := HA.out
        clear HA
        simp only [cambiumlaw02_TextItself.j0] at H
        by_cases c12 : x29_4 = true
        · subst c12
          have H1 : (some true) = some r := by rw [if_pos rfl] at H; exact H
          clear H
          have H := H1
          clear H1
          obtain rfl := Option.some.inj H
          go_wp2
          go_ret
          exact ⟨by first | rfl | (simp [errW_none, errW_some] <;> rfl) | (simp [*, errW_none, errW_some] <;> rfl), by repeat (first | (with_reducible first | exact HB.out | apply below_alloc | apply pw_below_drewN | apply below_drew1) | exact HB.out)⟩
        · replace c12 := Bool.eq_false_iff.mpr c12
          subst c12
          have H1 : ((cambiumref02_Runes.f kj4 a0).bind fun bt272 => (cambiumlaw02_TextItself.l0 kj4 a0 a1 bt272.2 (⟨#[]⟩ : ByteArray) 0)) = some r := by rw [if_neg (show ¬ (false = true) by decide)] at H; exact H
          clear H
          have H := H1
          clear H1
          replace H := Option.bind_eq_some_iff.mp H
          obtain ⟨⟨t272, t273⟩, A130, H⟩ := H
          replace H : (cambiumlaw02_TextItself.l0 kj4 a0 a1 t273 (⟨#[]⟩ : ByteArray) 0) = some r := H
          have A13 := Aside0.mk A130
          clear A130
          have H' := Aside0.mk H
          clear H
          go_wp2_with (first | ((with_reducible refine gate_callee (f := 17) rfl ?_); refine goesL_ (some 32) rfl rfl Tryd.func17 (by kernel_rfl) rfl #[.string a0] rfl (by (try simp only [List.map_toArray, List.map_cons, List.map_nil]); first | done | rfl | (simp only [List.length_drop, List.length_take]; rfl)) ?_; (with_reducible refine (cambiumref02_Runes.calls kj4 a0 t272 t273 _ A13.out).mono ?_); rintro e w14 ⟨v274, v276, rfl, ho0, ho1, hb⟩; refine ⟨_, rfl, ?_⟩; have n0_ := Aside0.mk (Kd.R_lower ho0 (below_size (by repeat (first | (with_reducible first | exact HB.out | apply below_alloc | apply pw_below_drewN | apply below_drew1) | exact HB.out)))); have n1_ := Aside0.mk (Kd.R_lower ho1 (below_size (by repeat (first | (with_reducible first | exact HB.out | apply below_alloc | apply pw_below_drewN | apply below_drew1) | exact HB.out)))); have n2_ := Aside0.mk (below_step (by repeat (first | (with_reducible first | exact HB.out | apply below_alloc | apply pw_below_drewN | apply below_drew1) | exact HB.out)) hb); clear HB; have HO275 := n0_; have HO277 := n1_; have HB := n2_; clear n0_ n1_ n2_; (try clear hb); (try clear hb2); (try clear hk); (try clear hi); (try clear ho0); (try clear ho1)))
          go_loopg [7, 8] kj4 (fun kq v7 v8 w' => ∃ (x7_2 : ByteArray) (x8_2 : Int), v7 = .string x7_2 ∧ v8 = .int .i64 x8_2 ∧ Aside0 (cambiumlaw02_TextItself.l0 kq a0 a1 t273 x7_2 x8_2 = some r) ∧ Aside0 (kq ≤ kj4) ∧ Aside0 (Kd.R (Kd.int .i64) 3 w' w.heap.size (fun _ => True) v276 t273) ∧ Aside0 (Below w.heap.size w w'))
          case atStart => exact ⟨((⟨#[]⟩ : ByteArray)), (0), (by first | rfl | (simp; done) | (simp [*]; done)), (by first | rfl | (simp; done) | (simp [*]; done)), H', ⟨Nat.le_refl _⟩, ⟨by (with_reducible repeat (first | apply Kd.R_alloc | apply Kd.R_drewN | apply Kd.R_drew)); exact Kd.R_mono HO277.out (fun _ hk => trivial)⟩, ⟨by repeat (first | (with_reducible first | exact HB.out | apply below_alloc | apply pw_below_drewN | apply below_drew1) | exact HB.out)⟩⟩
          case round =>
            clear H'
            try clear c1
            try clear p2
            try clear c4
            try clear c5
            try clear c7
            try clear c7b0
            try clear c7b1
            try clear c8
            try clear c8b0
            try clear c8b1
            try clear c9
            try clear c10
            try clear c12
            try clear p2
            obtain ⟨x7_2, x8_2, rfl, rfl, HA, HK2, HO_6, HB⟩ := hrel
            cases gk with
            | zero => exact absurd HA.out (by simp [cambiumlaw02_TextItself.l0])
            | succ k2 =>
              have H := HA.out
              clear HA
              simp only [cambiumlaw02_TextItself.l0] at H
              by_cases c15 : x8_2 < (t273.length : Int)
              · rw [if_pos c15] at H
                have c15b0 : decide (x8_2 < (t273.length : Int)) = true := decide_eq_true c15
                clear c15
                by_cases c16 : (wrap64 (x8_2 + 1)) < (t273.length : Int)
                · rw [if_pos c16] at H
                  have c16b0 : decide ((wrap64 (x8_2 + 1)) < (t273.length : Int)) = true := decide_eq_true c16
                  clear c16
                  obtain ⟨ji17, hji17⟩ : ∃ j_ : Int, (wrap64 (x8_2 + 1)) = j_ := ⟨_, rfl⟩
                  replace H : (if 0 ≤ (ji17) then (if x7_2.size + 1 ≤ 9223372036854775807 then (if 0 ≤ x8_2 then (if 0 ≤ (rd t273 x8_2) then (if (rd t273 x8_2) ≤ (rd t273 (ji17)) then (if (rd t273 (ji17)) ≤ (a0.size : Int) then (if (x7_2 ++ (⟨#[92]⟩ : ByteArray)).size + (a0.extract ((rd t273 x8_2) : Int).toNat ((rd t273 (ji17)) : Int).toNat).size ≤ 9223372036854775807 then (cambiumlaw02_TextItself.l0 k2 a0 a1 t273 ((x7_2 ++ (⟨#[92]⟩ : ByteArray)) ++ (a0.extract ((rd t273 x8_2) : Int).toNat ((rd t273 (ji17)) : Int).toNat)) ji17) else (none)) else (none)) else (none)) else (none)) else (none)) else (none)) else (none)) = some r := by first | (rw [hji17] at H; exact H) | (simp only [hji17] at H ⊢; exact H)
                  (try rw [hji17] at c16b0)
                  have hji17w : (IntKind.i64.wrap (x8_2 + 1)) = ji17 := (i64_w _).trans hji17
                  by_cases c18 : 0 ≤ (ji17)
                  · rw [if_pos c18] at H
                    have c18b0 : decide (0 ≤ (ji17)) = true := decide_eq_true c18
                    clear c18
                    by_cases c19 : x7_2.size + 1 ≤ 9223372036854775807
                    · rw [if_pos c19] at H
                      have c19b0 := eq_true c19
                      have c19b1 : decide (x7_2.size + 1 ≤ 9223372036854775807) = true := decide_eq_true c19
                      try have c19b2 : (9223372036854775807 < x7_2.size + 1) = False := eq_false (Nat.not_lt.2 c19)
                      by_cases c20 : 0 ≤ x8_2
                      · rw [if_pos c20] at H
                        have c20b0 : decide (0 ≤ x8_2) = true := decide_eq_true c20
                        clear c20
                        by_cases c21 : 0 ≤ (rd t273 x8_2)
                        · rw [if_pos c21] at H
                          have c21b0 := eq_true c21
                          have c21b1 : decide (0 ≤ (rd t273 x8_2)) = true := decide_eq_true c21
                          clear c21
                          by_cases c22 : (rd t273 x8_2) ≤ (rd t273 (ji17))
                          · rw [if_pos c22] at H
                            have c22b0 := eq_true c22
                            have c22b1 : decide ((rd t273 x8_2) ≤ (rd t273 (ji17))) = true := decide_eq_true c22
                            clear c22
                            by_cases c23 : (rd t273 (ji17)) ≤ (a0.size : Int)
                            · rw [if_pos c23] at H
                              have c23b0 := eq_true c23
                              have c23b1 : decide ((rd t273 (ji17)) ≤ (a0.size : Int)) = true := decide_eq_true c23
                              clear c23
                              by_cases c24 : (x7_2 ++ (⟨#[92]⟩ : ByteArray)).size + (a0.extract ((rd t273 x8_2) : Int).toNat ((rd t273 (ji17)) : Int).toNat).size ≤ 9223372036854775807
                              · rw [if_pos c24] at H
                                have c24b0 := eq_true c24
                                have c24b1 : decide ((x7_2 ++ (⟨#[92]⟩ : ByteArray)).size + (a0.extract ((rd t273 x8_2) : Int).toNat ((rd t273 (ji17)) : Int).toNat).size ≤ 9223372036854775807) = true := decide_eq_true c24
                                try have c24b2 : (9223372036854775807 < (x7_2 ++ (⟨#[92]⟩ : ByteArray)).size + (a0.extract ((rd t273 x8_2) : Int).toNat ((rd t273 (ji17)) : Int).toNat).size) = False := eq_false (Nat.not_lt.2 c24)
                                have H' := Aside0.mk H
                                clear H
                                obtain ⟨Ao25, co25, eo25⟩ := Kd.R_slice HO_6.out
                                subst eo25
                                have p278 : 0 ≤ ((ji17) : Int) := of_decide_eq_true (by first | (with_reducible assumption) | assumption)
                                have q278 : (ji17) < (t273.length : Int) := of_decide_eq_true (by first | (with_reducible assumption) | assumption)
                                obtain ⟨ad278, e278, hx278_0⟩ := Kd.at_int (Kd.R_reads' HO_6.out).2.2 (ji17) p278 q278
                                cases e278
                                replace p278 := eq_true p278
                                replace q278 := eq_true q278
                                have p279 : 0 ≤ (x8_2 : Int) := of_decide_eq_true (by first | (with_reducible assumption) | assumption)
                                have q279 : x8_2 < (t273.length : Int) := of_decide_eq_true (by first | (with_reducible assumption) | assumption)
                                obtain ⟨ad279, e279, hx279_0⟩ := Kd.at_int (Kd.R_reads' HO_6.out).2.2 x8_2 p279 q279
                                obtain rfl : ad278 = ad279 := (by injection e279)
                                replace p279 := eq_true p279
                                replace q279 := eq_true q279
                                go_wp2
                                go_roundg k2
                                case measure => have := HJ4.out; have := HK2.out; omega
                                case rel => exact ⟨((x7_2 ++ (⟨#[92]⟩ : ByteArray)) ++ (a0.extract ((rd t273 x8_2) : Int).toNat ((rd t273 (ji17)) : Int).toNat)), (ji17), (by first | rfl | (simp; done) | (simp only [← hji17] <;> (first | rfl | simp)) | (simp [*]; done)), (by first | rfl | (simp; done) | (simp only [← hji17] <;> (first | rfl | simp)) | (simp [*]; done)), H', ⟨by have := HJ4.out; have := HK2.out; omega⟩, ⟨by (with_reducible repeat (first | apply Kd.R_alloc | apply Kd.R_drewN | apply Kd.R_drew)); exact HO_6.out⟩, ⟨by repeat (first | (with_reducible first | exact HB.out | apply below_alloc | apply pw_below_drewN | apply below_drew1) | exact HB.out)⟩⟩
                              · rw [if_neg c24] at H
                                exact absurd H (by simp)
                            · rw [if_neg c23] at H
                              exact absurd H (by simp)
                          · rw [if_neg c22] at H
                            exact absurd H (by simp)
                        · rw [if_neg c21] at H
                          exact absurd H (by simp)
                      · rw [if_neg c20] at H
                        exact absurd H (by simp)
                    · rw [if_neg c19] at H
                      exact absurd H (by simp)
                  · rw [if_neg c18] at H
                    exact absurd H (by simp)
                · rw [if_neg c16] at H
                  have c16b0 : decide ((wrap64 (x8_2 + 1)) < (t273.length : Int)) = false := decide_eq_false c16
                  clear c16
                  by_cases c26 : x7_2.size + 1 ≤ 9223372036854775807
                  · rw [if_pos c26] at H
                    have c26b0 := eq_true c26
                    have c26b1 : decide (x7_2.size + 1 ≤ 9223372036854775807) = true := decide_eq_true c26
                    try have c26b2 : (9223372036854775807 < x7_2.size + 1) = False := eq_false (Nat.not_lt.2 c26)
                    by_cases c27 : 0 ≤ x8_2
                    · rw [if_pos c27] at H
                      have c27b0 : decide (0 ≤ x8_2) = true := decide_eq_true c27
                      clear c27
                      by_cases c28 : 0 ≤ (rd t273 x8_2)
                      · rw [if_pos c28] at H
                        have c28b0 := eq_true c28
                        have c28b1 : decide (0 ≤ (rd t273 x8_2)) = true := decide_eq_true c28
                        clear c28
                        by_cases c29 : (rd t273 x8_2) ≤ (a0.size : Int)
                        · rw [if_pos c29] at H
                          have c29b0 := eq_true c29
                          have c29b1 : decide ((rd t273 x8_2) ≤ (a0.size : Int)) = true := decide_eq_true c29
                          clear c29
                          by_cases c30 : (a0.size : Int) ≤ (a0.size : Int)
                          · rw [if_pos c30] at H
                            have c30b0 := eq_true c30
                            have c30b1 : decide ((a0.size : Int) ≤ (a0.size : Int)) = true := decide_eq_true c30
                            clear c30
                            by_cases c31 : (x7_2 ++ (⟨#[92]⟩ : ByteArray)).size + (a0.extract ((rd t273 x8_2) : Int).toNat ((a0.size : Int) : Int).toNat).size ≤ 9223372036854775807
                            · rw [if_pos c31] at H
                              have c31b0 := eq_true c31
                              have c31b1 : decide ((x7_2 ++ (⟨#[92]⟩ : ByteArray)).size + (a0.extract ((rd t273 x8_2) : Int).toNat ((a0.size : Int) : Int).toNat).size ≤ 9223372036854775807) = true := decide_eq_true c31
                              try have c31b2 : (9223372036854775807 < (x7_2 ++ (⟨#[92]⟩ : ByteArray)).size + (a0.extract ((rd t273 x8_2) : Int).toNat ((a0.size : Int) : Int).toNat).size) = False := eq_false (Nat.not_lt.2 c31)
                              have c31b3 : (9223372036854775807 < x7_2.size + 1 + (a0.size - ((rd t273 x8_2) : Int).toNat)) = False := eq_false (fun h_ => by have h2_ := c31; rw [ByteArray.size_append, ByteArray.size_extract] at h2_; have h3_ : (⟨#[92]⟩ : ByteArray).size = 1 := rfl; rw [h3_] at h2_; omega)
                              have c31b4 : (x7_2.size + 1 + (a0.size - ((rd t273 x8_2) : Int).toNat) ≤ 9223372036854775807) = True := eq_true (by have h2_ := c31; rw [ByteArray.size_append, ByteArray.size_extract] at h2_; have h3_ : (⟨#[92]⟩ : ByteArray).size = 1 := rfl; rw [h3_] at h2_; omega)
                              have H' := Aside0.mk H
                              clear H
                              obtain ⟨Ao32, co32, eo32⟩ := Kd.R_slice HO_6.out
                              subst eo32
                              have p280 : 0 ≤ (x8_2 : Int) := of_decide_eq_true (by first | (with_reducible assumption) | assumption)
                              have q280 : x8_2 < (t273.length : Int) := of_decide_eq_true (by first | (with_reducible assumption) | assumption)
                              obtain ⟨ad280, e280, hx280_0⟩ := Kd.at_int (Kd.R_reads' HO_6.out).2.2 x8_2 p280 q280
                              cases e280
                              replace p280 := eq_true p280
                              replace q280 := eq_true q280
                              go_wp2
                              go_roundg k2
                              case measure => have := HJ4.out; have := HK2.out; omega
                              case rel => exact ⟨((x7_2 ++ (⟨#[92]⟩ : ByteArray)) ++ (a0.extract ((rd t273 x8_2) : Int).toNat ((a0.size : Int) : Int).toNat)), (wrap64 (x8_2 + 1)), (by first | rfl | (simp; done) | (simp [*]; done)), (by first | rfl | (simp; done) | (simp [*]; done)), H', ⟨by have := HJ4.out; have := HK2.out; omega⟩, ⟨by (with_reducible repeat (first | apply Kd.R_alloc | apply Kd.R_drewN | apply Kd.R_drew)); exact HO_6.out⟩, ⟨by repeat (first | (with_reducible first | exact HB.out | apply below_alloc | apply pw_below_drewN | apply below_drew1) | exact HB.out)⟩⟩
                            · rw [if_neg c31] at H
                              exact absurd H (by simp)
                          · rw [if_neg c30] at H
                            exact absurd H (by simp)
                        · rw [if_neg c29] at H
                          exact absurd H (by simp)
                      · rw [if_neg c28] at H
                        exact absurd H (by simp)
                    · rw [if_neg c27] at H
                      exact absurd H (by simp)
                  · rw [if_neg c26] at H
                    exact absurd H (by simp)
              · rw [if_neg c15] at H
                have c15b0 : decide (x8_2 < (t273.length : Int)) = false := decide_eq_false c15
                clear c15
                replace H := Option.bind_eq_some_iff.mp H
                obtain ⟨t281, A330, H⟩ := H
                replace H : (if t281 = true then ((text_Match.f k2 x7_2 a1).bind fun t282 => (some (t282 == (a0.toList == a1.toList)))) else (some false)) = some r := H
                have A33 := Aside0.mk A330
                clear A330
                by_cases c34 : t281 = true
                · subst c34
                  have H1 : ((text_Match.f k2 x7_2 a1).bind fun t282 => (some (t282 == (a0.toList == a1.toList)))) = some r := by rw [if_pos rfl] at H; exact H
                  clear H
                  have H := H1
                  clear H1
                  replace H := Option.bind_eq_some_iff.mp H
                  obtain ⟨t282, A350, H⟩ := H
                  replace H : (some (t282 == (a0.toList == a1.toList))) = some r := H
                  have A35 := Aside0.mk A350
                  clear A350
                  obtain rfl := Option.some.inj H
                  obtain ⟨Ao36, co36, eo36⟩ := Kd.R_slice HO_6.out
                  subst eo36
                  go_wp2_with (first | ((with_reducible refine gate_callee (f := 10) rfl ?_); refine goesL_ (some 65) rfl rfl Tryd.func10 (by kernel_rfl) rfl #[.string x7_2, .string a0] rfl (by (try simp only [List.map_toArray, List.map_cons, List.map_nil]); first | done | rfl | (simp only [List.length_drop, List.length_take]; rfl)) ?_; (with_reducible refine (text_Match.calls k2 x7_2 a0 true _ A33.out).mono ?_); rintro e w37 ⟨rfl, hb⟩; refine ⟨_, rfl, ?_⟩; have n0_ := Aside0.mk (Kd.R_below (by (with_reducible repeat (first | apply Kd.R_alloc | apply Kd.R_drewN | apply Kd.R_drew)); exact HO_6.out) hb); have n1_ := Aside0.mk (below_step (by repeat (first | (with_reducible first | exact HB.out | apply below_alloc | apply pw_below_drewN | apply below_drew1) | exact HB.out)) hb); clear HO_6; clear HB; have HO_6 := n0_; have HB := n1_; clear n0_ n1_; (try clear hb); (try clear hb2); (try clear hk); (try clear hi)) | (go_at_call 10; (with_reducible refine (text_Match.calls k2 x7_2 a1 t282 _ A35.out).mono ?_); rintro e w38 ⟨rfl, hb⟩; have n0_ := Aside0.mk (Kd.R_below (by (with_reducible repeat (first | apply Kd.R_alloc | apply Kd.R_drewN | apply Kd.R_drew)); exact HO_6.out) hb); have n1_ := Aside0.mk (below_step (by repeat (first | (with_reducible first | exact HB.out | apply below_alloc | apply pw_below_drewN | apply below_drew1) | exact HB.out)) hb); clear HO_6; clear HB; have HO_6 := n0_; have HB := n1_; clear n0_ n1_; (try clear hb); (try clear hb2); (try clear hk); (try clear hi)))
                  go_ret
                  exact ⟨by first | rfl | (simp [errW_none, errW_some] <;> rfl) | (simp [*, errW_none, errW_some] <;> rfl), by repeat (first | (with_reducible first | exact HB.out | apply below_alloc | apply pw_below_drewN | apply below_drew1) | exact HB.out)⟩
                · replace c34 := Bool.eq_false_iff.mpr c34
                  subst c34
                  have H1 : (some false) = some r := by rw [if_neg (show ¬ (false = true) by decide)] at H; exact H
                  clear H
                  have H := H1
                  clear H1
                  obtain rfl := Option.some.inj H
                  obtain ⟨Ao39, co39, eo39⟩ := Kd.R_slice HO_6.out
                  subst eo39
                  go_wp2_with (first | ((with_reducible refine gate_callee (f := 10) rfl ?_); refine goesL_ (some 65) rfl rfl Tryd.func10 (by kernel_rfl) rfl #[.string x7_2, .string a0] rfl (by (try simp only [List.map_toArray, List.map_cons, List.map_nil]); first | done | rfl | (simp only [List.length_drop, List.length_take]; rfl)) ?_; (with_reducible refine (text_Match.calls k2 x7_2 a0 false _ A33.out).mono ?_); rintro e w40 ⟨rfl, hb⟩; refine ⟨_, rfl, ?_⟩; have n0_ := Aside0.mk (Kd.R_below (by (with_reducible repeat (first | apply Kd.R_alloc | apply Kd.R_drewN | apply Kd.R_drew)); exact HO_6.out) hb); have n1_ := Aside0.mk (below_step (by repeat (first | (with_reducible first | exact HB.out | apply below_alloc | apply pw_below_drewN | apply below_drew1) | exact HB.out)) hb); clear HO_6; clear HB; have HO_6 := n0_; have HB := n1_; clear n0_ n1_; (try clear hb); (try clear hb2); (try clear hk); (try clear hi)))
                  go_ret
                  exact ⟨by first | rfl | (simp [errW_none, errW_some] <;> rfl) | (simp [*, errW_none, errW_some] <;> rfl), by repeat (first | (with_reducible first | exact HB.out | apply below_alloc | apply pw_below_drewN | apply below_drew1) | exact HB.out)⟩
  · replace c4 := Bool.eq_false_iff.mpr c4
    subst c4
    have H1 : (some false) = some r := by rw [if_neg (show ¬ (false = true) by decide)] at H; exact H
    clear H
    have H := H1
    clear H1
    obtain rfl := Option.some.inj H
    go_enter Tryd.func5, Tryd.ntmps5
    go_wp2_with (first | ((with_reducible refine gate_callee (f := 9) rfl ?_); refine goesL_ (some 10) rfl rfl Tryd.func9 (by kernel_rfl) rfl #[] rfl (by (try simp only [List.map_toArray, List.map_cons, List.map_nil]); first | done | rfl | (simp only [List.length_drop, List.length_take]; rfl)) ?_; (with_reducible refine (cambiumlaw02_awake.calls k  false _ A3.out (by first | (with_reducible exact HTab_.out) | (with_reducible exact tabs_below HTab_.out HB.out) | exact tabs_below HTab_.out (by repeat (first | (with_reducible first | exact HB.out | apply below_alloc | apply pw_below_drewN | apply below_drew1) | exact HB.out)))).mono ?_); rintro e w41 ⟨rfl, hb⟩; refine ⟨_, rfl, ?_⟩; have n0_ := Aside0.mk (below_step (by repeat (first | (with_reducible first | exact HB.out | apply below_alloc | apply pw_below_drewN | apply below_drew1) | exact HB.out)) hb); clear HB; have HB := n0_; clear n0_; (try clear hb); (try clear hb2); (try clear hk); (try clear hi)))
    go_ret
    exact ⟨by first | rfl | (simp [errW_none, errW_some] <;> rfl) | (simp [*, errW_none, errW_some] <;> rfl), by repeat (first | (with_reducible first | exact HB.out | apply below_alloc | apply pw_below_drewN | apply below_drew1) | exact HB.out)⟩

/-- THE ONE PURE STATEMENT of cambiumlaw02_TextItself: yours. -/
def cambiumlaw02_TextItself.Pure : Prop := ∀ (a0 : ByteArray) (a1 : ByteArray), a0.size ≤ 140737488351232 → a1.size ≤ 140737488351232 → ∃ k, cambiumlaw02_TextItself.f k a0 a1 = some true
theorem cambiumlaw02_TextItself.walk (P : cambiumlaw02_TextItself.Pure) (a0 : ByteArray) (a1 : ByteArray) (w : World) (w0 : a0.size ≤ 140737488351232) (w1 : a1.size ≤ 140737488351232) (hT_ : Tabs w) :
    Calls Tryd.prog 5 #[.string a0, .string a1] w fun e w' => e = .returned (.bool true) ∧ Below w.heap.size w w' := by
  obtain ⟨k, h⟩ := P a0 a1 w0 w1
  refine (cambiumlaw02_TextItself.calls k a0 a1 true w h hT_).mono ?_
  rintro e w' ⟨rfl, hd⟩
  exact ⟨rfl, hd⟩

end Go.Proofs.YtphimckceegiiaaDoor.PTxt
