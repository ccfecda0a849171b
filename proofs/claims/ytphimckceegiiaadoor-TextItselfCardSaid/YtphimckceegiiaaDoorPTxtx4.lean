-- Written by a program: the kit's print.py, driven for several laws at once. Not trusted: Lean checks it.
import Derived.Test.YtphimckceegiiaaDoorPTxtx0
import Derived.Test.YtphimckceegiiaaDoorPTxtx2
import Derived.Test.YtphimckceegiiaaDoorPTxtx3
namespace Go.Proofs.YtphimckceegiiaaDoor.PTxt
open Go.RowKit Go.Proofs.YtphimckceegiiaaDoorW.PrintWords Go.Proofs.YtphimckceegiiaaDoorW.PrintLast Go.Proofs.YtphimckceegiiaaDoorW.PrintMore
attribute [local go_sem] max2_int min2_int max_two min_two max_three min_three max_four min_four   -- for this text's walks alone
set_option linter.unusedVariables false
set_option linter.unusedSimpArgs false

/-! ### cambiumlaw02_TextRunes: function 4 -/
def cambiumlaw02_TextRunes.j0 : Nat → Int → Bool → Option (Bool)
  | 0, _, _ => none
  | k + 1, x0, x18 => if x18 = true then (some false) else ((text_Blank.f x0).bind fun t127 => (if t127 = true then ((text_Letter.f k x0).bind fun t128 => (some (!t128))) else (some true)))
def cambiumlaw02_TextRunes.f (k : Nat) (a0 : Int) : Option (Bool) := (cambiumlaw02_awake.f k).bind fun t122 => (if t122 = true then ((text_Letter.f k a0).bind fun t123 => ((cambiumref02_Letter.f (wrap64 (a0))).bind fun t124 => (if (t123 != t124) = true then (cambiumlaw02_TextRunes.j0 k a0 true) else ((text_Blank.f a0).bind fun t125 => ((cambiumref02_Blank.f (wrap64 (a0))).bind fun t126 => (cambiumlaw02_TextRunes.j0 k a0 (t125 != t126))))))) else (some false))
theorem cambiumlaw02_TextRunes.mono_l : ∀ k, (∀ y0 y1, LeO (cambiumlaw02_TextRunes.j0 k y0 y1) (cambiumlaw02_TextRunes.j0 (k + 1) y0 y1))
  | 0 => fun _ _ r h => by simp [cambiumlaw02_TextRunes.j0] at h
  | k + 1 => by
    have ih0 := cambiumlaw02_TextRunes.mono_l k
    · intro y0 y1
      unfold cambiumlaw02_TextRunes.j0
      repeat' first
      | (with_reducible exact ih0 _ _)
      | (with_reducible exact cambiumlaw02_awake.mono _)
      | (with_reducible exact text_Letter.mono _ _)
      | (with_reducible exact LeO.refl _)
      | (with_reducible exact LeO.none _)
      | (with_reducible refine LeO.ite ?_ ?_)
      | (with_reducible refine LeO.bind ?_ (fun _ => ?_))
      | exact ih0 _ _
      | exact cambiumlaw02_awake.mono _
      | exact text_Letter.mono _ _
      | exact LeO.none _
      | refine LeO.ite ?_ ?_
      | refine LeO.bind ?_ (fun _ => ?_)
theorem cambiumlaw02_TextRunes.mono : ∀ a0 k, LeO (cambiumlaw02_TextRunes.f k a0) (cambiumlaw02_TextRunes.f (k + 1) a0) := by
  intro a0 k
  have ih0 := cambiumlaw02_TextRunes.mono_l k
  unfold cambiumlaw02_TextRunes.f
  repeat' first
      | (with_reducible exact ih0 _ _)
      | (with_reducible exact cambiumlaw02_awake.mono _)
      | (with_reducible exact text_Letter.mono _ _)
      | (with_reducible exact LeO.refl _)
      | (with_reducible exact LeO.none _)
      | (with_reducible refine LeO.ite ?_ ?_)
      | (with_reducible refine LeO.bind ?_ (fun _ => ?_))
      | exact ih0 _ _
      | exact cambiumlaw02_awake.mono _
      | exact text_Letter.mono _ _
      | exact LeO.none _
      | refine LeO.ite ?_ ?_
      | refine LeO.bind ?_ (fun _ => ?_)
set_option maxHeartbeats 8000000 in
set_option maxRecDepth 100000 in
theorem cambiumlaw02_TextRunes.calls (k : Nat) (a0 : Int) (r : Bool) (w : World) (h : cambiumlaw02_TextRunes.f k a0 = some r) (hT_ : Tabs w) :
    Calls Tryd.prog 4 #[.int .i32 a0] w fun e w' => e = .returned (.bool r) ∧ Below w.heap.size w w' := by
  have HTab_ := Aside0.mk hT_
  clear hT_
  have HB := Aside0.mk (Below.refl w.heap.size w)
  have H : ((cambiumlaw02_awake.f k).bind fun t122 => (if t122 = true then ((text_Letter.f k a0).bind fun t123 => ((cambiumref02_Letter.f (wrap64 (a0))).bind fun t124 => (if (t123 != t124) = true then (cambiumlaw02_TextRunes.j0 k a0 true) else ((text_Blank.f a0).bind fun t125 => ((cambiumref02_Blank.f (wrap64 (a0))).bind fun t126 => (cambiumlaw02_TextRunes.j0 k a0 (t125 != t126))))))) else (some false))) = some r := h
  clear h
  replace H := Option.bind_eq_some_iff.mp H
  obtain ⟨t122, A20, H⟩ := H
  replace H : (if t122 = true then ((text_Letter.f k a0).bind fun t123 => ((cambiumref02_Letter.f (wrap64 (a0))).bind fun t124 => (if (t123 != t124) = true then (cambiumlaw02_TextRunes.j0 k a0 true) else ((text_Blank.f a0).bind fun t125 => ((cambiumref02_Blank.f (wrap64 (a0))).bind fun t126 => (cambiumlaw02_TextRunes.j0 k a0 (t125 != t126))))))) else (some false)) = some r := H
  have A2 := Aside0.mk A20
  clear A20
  by_cases c3 : t122 = true
  · subst c3
    have H1 : ((text_Letter.f k a0).bind fun t123 => ((cambiumref02_Letter.f (wrap64 (a0))).bind fun t124 => (if (t123 != t124) = true then (cambiumlaw02_TextRunes.j0 k a0 true) else ((text_Blank.f a0).bind fun t125 => ((cambiumref02_Blank.f (wrap64 (a0))).bind fun t126 => (cambiumlaw02_TextRunes.j0 k a0 (t125 != t126))))))) = some r := by rw [if_pos rfl] at H; exact H
    clear H
    have H := H1
    clear H1
    have HC4 := Aside0.mk H
    clear H
    go_enter Tryd.func4, Tryd.ntmps4
    go_upto_region 3 with (first | ((with_reducible refine gate_callee (f := 9) rfl ?_); refine goesL_ (some 3) rfl rfl Tryd.func9 (by kernel_rfl) rfl #[] rfl (by (try simp only [List.map_toArray, List.map_cons, List.map_nil]); first | done | rfl | (simp only [List.length_drop, List.length_take]; rfl)) ?_; (with_reducible refine (cambiumlaw02_awake.calls k  true _ A2.out (by first | (with_reducible exact HTab_.out) | (with_reducible exact tabs_below HTab_.out HB.out) | exact tabs_below HTab_.out (by repeat (first | (with_reducible first | exact HB.out | apply below_alloc | apply pw_below_drewN | apply below_drew1) | exact HB.out)))).mono ?_); rintro e w5 ⟨rfl, hb⟩; refine ⟨_, rfl, ?_⟩; have n0_ := Aside0.mk (below_step (by repeat (first | (with_reducible first | exact HB.out | apply below_alloc | apply pw_below_drewN | apply below_drew1) | exact HB.out)) hb); clear HB; have HB := n0_; clear n0_; (try clear hb); (try clear hb2); (try clear hk); (try clear hi)))
    (try simp only [Act.put, List.setIfInBounds_toArray, List.set_cons_zero, List.set_cons_succ])
    go_cut [18] (fun v18 wc => ∃ (kq : Nat) (x18_3 : Bool), v18 = .bool x18_3 ∧ Aside0 (cambiumlaw02_TextRunes.j0 kq a0 x18_3 = some r) ∧ Aside0 (kq ≤ k) ∧ Aside0 (Below w.heap.size w wc))
    case first =>
      have H := HC4.out
      clear HC4
      replace H := Option.bind_eq_some_iff.mp H
      obtain ⟨t123, A60, H⟩ := H
      replace H : ((cambiumref02_Letter.f (wrap64 (a0))).bind fun t124 => (if (t123 != t124) = true then (cambiumlaw02_TextRunes.j0 k a0 true) else ((text_Blank.f a0).bind fun t125 => ((cambiumref02_Blank.f (wrap64 (a0))).bind fun t126 => (cambiumlaw02_TextRunes.j0 k a0 (t125 != t126)))))) = some r := H
      have A6 := Aside0.mk A60
      clear A60
      replace H := Option.bind_eq_some_iff.mp H
      obtain ⟨t124, A70, H⟩ := H
      replace H : (if (t123 != t124) = true then (cambiumlaw02_TextRunes.j0 k a0 true) else ((text_Blank.f a0).bind fun t125 => ((cambiumref02_Blank.f (wrap64 (a0))).bind fun t126 => (cambiumlaw02_TextRunes.j0 k a0 (t125 != t126))))) = some r := H
      have A7 := Aside0.mk A70
      clear A70
      by_cases c8 : (t123 != t124) = true
      · rw [if_pos c8] at H
        have c8b0 : (t123 != t124) = true := c8
        (try (have c8b1 : decide (t123 = t124) = false := by simpa using c8))
        (try (have c8b2 : (t123 == t124) = false := by simpa using c8))
        (try (have c8b3 : ¬ (t123 = t124) := by simpa using c8))
        clear c8
        (first | rw [c8b0] | (simp only [i64_w, i32_w]; rw [c8b0]) | skip)
        have H' := Aside0.mk H
        clear H
        go_wp2_with (first | ((with_reducible refine gate_callee (f := 12) rfl ?_); refine goesL_ (some 6) rfl rfl Tryd.func12 (by kernel_rfl) rfl #[.int .i32 a0] rfl (by (try simp only [List.map_toArray, List.map_cons, List.map_nil]); first | done | rfl | (simp only [List.length_drop, List.length_take]; rfl)) ?_; (with_reducible refine (text_Letter.calls k a0 t123 _ A6.out).mono ?_); rintro e w' ⟨rfl, ⟨nd, rfl⟩⟩; refine ⟨_, rfl, ?_⟩) | ((with_reducible refine gate_callee (f := 13) rfl ?_); refine goesL_ (some 9) rfl rfl Tryd.func13 (by kernel_rfl) rfl #[.int .i64 (wrap64 (a0))] rfl (by (try simp only [List.map_toArray, List.map_cons, List.map_nil]); first | done | rfl | (simp only [List.length_drop, List.length_take]; rfl)) ?_; (with_reducible refine (cambiumref02_Letter.calls (wrap64 (a0)) t124 _ A7.out).mono ?_); rintro e w' ⟨rfl, ⟨nd, rfl⟩⟩; refine ⟨_, rfl, ?_⟩))
        go_meet
        case rel => exact ⟨_, (true), (by first | rfl | (simp; done) | (simp [*]; done)), H', ⟨by first | omega | exact Nat.le_refl _⟩, ⟨by repeat (first | (with_reducible first | exact HB.out | apply below_alloc | apply pw_below_drewN | apply below_drew1) | exact HB.out)⟩⟩
      · rw [if_neg c8] at H
        have c8b0 : (t123 != t124) = false := by simpa using c8
        (try (have c8b1 : decide (t123 = t124) = true := by simpa using c8))
        (try (have c8b2 : (t123 == t124) = true := by simpa using c8))
        clear c8
        (first | rw [c8b0] | (simp only [i64_w, i32_w]; rw [c8b0]) | skip)
        replace H := Option.bind_eq_some_iff.mp H
        obtain ⟨t125, A90, H⟩ := H
        replace H : ((cambiumref02_Blank.f (wrap64 (a0))).bind fun t126 => (cambiumlaw02_TextRunes.j0 k a0 (t125 != t126))) = some r := H
        have A9 := Aside0.mk A90
        clear A90
        replace H := Option.bind_eq_some_iff.mp H
        obtain ⟨t126, A100, H⟩ := H
        replace H : (cambiumlaw02_TextRunes.j0 k a0 (t125 != t126)) = some r := H
        have A10 := Aside0.mk A100
        clear A100
        have H' := Aside0.mk H
        clear H
        go_wp2_with (first | ((with_reducible refine gate_callee (f := 12) rfl ?_); refine goesL_ (some 6) rfl rfl Tryd.func12 (by kernel_rfl) rfl #[.int .i32 a0] rfl (by (try simp only [List.map_toArray, List.map_cons, List.map_nil]); first | done | rfl | (simp only [List.length_drop, List.length_take]; rfl)) ?_; (with_reducible refine (text_Letter.calls k a0 t123 _ A6.out).mono ?_); rintro e w' ⟨rfl, ⟨nd, rfl⟩⟩; refine ⟨_, rfl, ?_⟩) | ((with_reducible refine gate_callee (f := 13) rfl ?_); refine goesL_ (some 9) rfl rfl Tryd.func13 (by kernel_rfl) rfl #[.int .i64 (wrap64 (a0))] rfl (by (try simp only [List.map_toArray, List.map_cons, List.map_nil]); first | done | rfl | (simp only [List.length_drop, List.length_take]; rfl)) ?_; (with_reducible refine (cambiumref02_Letter.calls (wrap64 (a0)) t124 _ A7.out).mono ?_); rintro e w' ⟨rfl, ⟨nd, rfl⟩⟩; refine ⟨_, rfl, ?_⟩) | (go_at_call 14; (with_reducible refine (text_Blank.calls a0 t125 _ A9.out).mono ?_); rintro e w' ⟨rfl, ⟨nd, rfl⟩⟩) | (go_at_call 15; (with_reducible refine (cambiumref02_Blank.calls (wrap64 (a0)) t126 _ A10.out).mono ?_); rintro e w' ⟨rfl, ⟨nd, rfl⟩⟩))
        go_meet
        case rel => exact ⟨_, ((t125 != t126)), (by first | rfl | (simp; done) | (simp [*]; done)), H', ⟨by first | omega | exact Nat.le_refl _⟩, ⟨by repeat (first | (with_reducible first | exact HB.out | apply below_alloc | apply pw_below_drewN | apply below_drew1) | exact HB.out)⟩⟩
    case rest =>
      clear HC4
      try clear c1
      try clear p2
      try clear c3
      try clear c4
      try clear p6
      try clear c8
      try clear c8b0
      try clear c8b1
      try clear c8b2
      try clear c9
      obtain ⟨kq, x18_3, rfl, HA, HJ3, HB⟩ := hcut
      cases kq with
      | zero => exact absurd HA.out (by simp [cambiumlaw02_TextRunes.j0])
      | succ kj3 =>
        have H := HA.out
        clear HA
        simp only [cambiumlaw02_TextRunes.j0] at H
        by_cases c11 : x18_3 = true
        · subst c11
          have H1 : (some false) = some r := by rw [if_pos rfl] at H; exact H
          clear H
          have H := H1
          clear H1
          obtain rfl := Option.some.inj H
          go_wp2
          go_ret
          exact ⟨by first | rfl | (simp [errW_none, errW_some] <;> rfl) | (simp [*, errW_none, errW_some] <;> rfl), by repeat (first | (with_reducible first | exact HB.out | apply below_alloc | apply pw_below_drewN | apply below_drew1) | exact HB.out)⟩
        · replace c11 := Bool.eq_false_iff.mpr c11
          subst c11
          have H1 : ((text_Blank.f a0).bind fun t127 => (if t127 = true then ((text_Letter.f kj3 a0).bind fun t128 => (some (!t128))) else (some true))) = some r := by rw [if_neg (show ¬ (false = true) by decide)] at H; exact H
          clear H
          have H := H1
          clear H1
          replace H := Option.bind_eq_some_iff.mp H
          obtain ⟨t127, A120, H⟩ := H
          replace H : (if t127 = true then ((text_Letter.f kj3 a0).bind fun t128 => (some (!t128))) else (some true)) = some r := H
          have A12 := Aside0.mk A120
          clear A120
          by_cases c13 : t127 = true
          · subst c13
            have H1 : ((text_Letter.f kj3 a0).bind fun t128 => (some (!t128))) = some r := by rw [if_pos rfl] at H; exact H
            clear H
            have H := H1
            clear H1
            replace H := Option.bind_eq_some_iff.mp H
            obtain ⟨t128, A140, H⟩ := H
            replace H : (some (!t128)) = some r := H
            have A14 := Aside0.mk A140
            clear A140
            obtain rfl := Option.some.inj H
            go_wp2_with (first | ((with_reducible refine gate_callee (f := 14) rfl ?_); refine goesL_ (some 20) rfl rfl Tryd.func14 (by kernel_rfl) rfl #[.int .i32 a0] rfl (by (try simp only [List.map_toArray, List.map_cons, List.map_nil]); first | done | rfl | (simp only [List.length_drop, List.length_take]; rfl)) ?_; (with_reducible refine (text_Blank.calls a0 true _ A12.out).mono ?_); rintro e w' ⟨rfl, ⟨nd, rfl⟩⟩; refine ⟨_, rfl, ?_⟩) | (go_at_call 12; (with_reducible refine (text_Letter.calls kj3 a0 t128 _ A14.out).mono ?_); rintro e w' ⟨rfl, ⟨nd, rfl⟩⟩))
            go_ret
            exact ⟨by first | rfl | (simp [errW_none, errW_some] <;> rfl) | (simp [*, errW_none, errW_some] <;> rfl), by repeat (first | (with_reducible first | exact HB.out | apply below_alloc | apply pw_below_drewN | apply below_drew1) | exact HB.out)⟩
          · replace c13 := Bool.eq_false_iff.mpr c13
            subst c13
            have H1 : (some true) = some r := by rw [if_neg (show ¬ (false = true) by decide)] at H; exact H
            clear H
            have H := H1
            clear H1
            obtain rfl := Option.some.inj H
            go_wp2_with (first | ((with_reducible refine gate_callee (f := 14) rfl ?_); refine goesL_ (some 20) rfl rfl Tryd.func14 (by kernel_rfl) rfl #[.int .i32 a0] rfl (by (try simp only [List.map_toArray, List.map_cons, List.map_nil]); first | done | rfl | (simp only [List.length_drop, List.length_take]; rfl)) ?_; (with_reducible refine (text_Blank.calls a0 false _ A12.out).mono ?_); rintro e w' ⟨rfl, ⟨nd, rfl⟩⟩; refine ⟨_, rfl, ?_⟩))
            go_ret
            exact ⟨by first | rfl | (simp [errW_none, errW_some] <;> rfl) | (simp [*, errW_none, errW_some] <;> rfl), by repeat (first | (with_reducible first | exact HB.out | apply below_alloc | apply pw_below_drewN | apply below_drew1) | exact HB.out)⟩
  · replace c3 := Bool.eq_false_iff.mpr c3
    subst c3
    have H1 : (some false) = some r := by rw [if_neg (show ¬ (false = true) by decide)] at H; exact H
    clear H
    have H := H1
    clear H1
    obtain rfl := Option.some.inj H
    go_enter Tryd.func4, Tryd.ntmps4
    go_wp2_with (first | ((with_reducible refine gate_callee (f := 9) rfl ?_); refine goesL_ (some 3) rfl rfl Tryd.func9 (by kernel_rfl) rfl #[] rfl (by (try simp only [List.map_toArray, List.map_cons, List.map_nil]); first | done | rfl | (simp only [List.length_drop, List.length_take]; rfl)) ?_; (with_reducible refine (cambiumlaw02_awake.calls k  false _ A2.out (by first | (with_reducible exact HTab_.out) | (with_reducible exact tabs_below HTab_.out HB.out) | exact tabs_below HTab_.out (by repeat (first | (with_reducible first | exact HB.out | apply below_alloc | apply pw_below_drewN | apply below_drew1) | exact HB.out)))).mono ?_); rintro e w15 ⟨rfl, hb⟩; refine ⟨_, rfl, ?_⟩; have n0_ := Aside0.mk (below_step (by repeat (first | (with_reducible first | exact HB.out | apply below_alloc | apply pw_below_drewN | apply below_drew1) | exact HB.out)) hb); clear HB; have HB := n0_; clear n0_; (try clear hb); (try clear hb2); (try clear hk); (try clear hi)))
    go_ret
    exact ⟨by first | rfl | (simp [errW_none, errW_some] <;> rfl) | (simp [*, errW_none, errW_some] <;> rfl), by repeat (first | (with_reducible first | exact HB.out | apply below_alloc | apply pw_below_drewN | apply below_drew1) | exact HB.out)⟩

/-- THE ONE PURE STATEMENT of cambiumlaw02_TextRunes: yours. -/
def cambiumlaw02_TextRunes.Pure : Prop := ∀ (a0 : Int), (Lit.int .i32 a0).wf = true → ∃ k, cambiumlaw02_TextRunes.f k a0 = some true
theorem cambiumlaw02_TextRunes.walk (P : cambiumlaw02_TextRunes.Pure) (a0 : Int) (w : World) (w0 : (Lit.int .i32 a0).wf = true) (hT_ : Tabs w) :
    Calls Tryd.prog 4 #[.int .i32 a0] w fun e w' => e = .returned (.bool true) ∧ Below w.heap.size w w' := by
  obtain ⟨k, h⟩ := P a0 w0
  refine (cambiumlaw02_TextRunes.calls k a0 true w h hT_).mono ?_
  rintro e w' ⟨rfl, hd⟩
  exact ⟨rfl, hd⟩

/-! ### cambiumref02_Rune: function 31 -/
mutual
def cambiumref02_Rune.j0 : Nat → ByteArray → Int → Int → Int → Int → Bool → Option (Int × Int)
  | 0, _, _, _, _, _, _ => none
  | k + 1, x0, x4, x5, x6, x7, x18 => if x18 = true then (cambiumref02_Rune.j3 k x0 2 (Int.tmod x4 32) 128) else (if x4 ≥ 224 then (cambiumref02_Rune.j1 k x0 x4 x5 x6 x7 (decide (x4 < 240))) else (cambiumref02_Rune.j1 k x0 x4 x5 x6 x7 false))
def cambiumref02_Rune.j3 : Nat → ByteArray → Int → Int → Int → Option (Int × Int)
  | 0, _, _, _, _ => none
  | k + 1, x0, x5, x6, x7 => if x5 > (x0.size : Int) then (some (65533, 1)) else (cambiumref02_Rune.l0 k x0 x5 x6 x7 1)
def cambiumref02_Rune.l0 : Nat → ByteArray → Int → Int → Int → Int → Option (Int × Int)
  | 0, _, _, _, _, _ => none
  | k + 1, x0, x5, x6, x7, x8 => if x8 < x5 then (if 0 ≤ x8 then (if x8 < (x0.size : Int) then (if ((Int.tdiv (bt x0 x8) 64) % 256) = 2 then (cambiumref02_Rune.l0 k x0 x5 (wrap64 ((wrap64 (x6 * 64)) + (Int.tmod (wrap64 (bt x0 x8)) 64))) x7 (wrap64 (x8 + 1))) else (some (65533, 1))) else (none)) else (none)) else (if x6 < x7 then (some (65533, 1)) else (if x6 > 1114111 then (some (65533, 1)) else (if x6 ≥ 55296 then (if x6 < 57344 then (some (65533, 1)) else (some (x6, x5))) else (some (x6, x5)))))
def cambiumref02_Rune.j1 : Nat → ByteArray → Int → Int → Int → Int → Bool → Option (Int × Int)
  | 0, _, _, _, _, _, _ => none
  | k + 1, x0, x4, x5, x6, x7, x26 => if x26 = true then (cambiumref02_Rune.j3 k x0 3 (Int.tmod x4 16) 2048) else (if x4 ≥ 240 then (cambiumref02_Rune.j2 k x0 x4 x5 x6 x7 (decide (x4 < 245))) else (cambiumref02_Rune.j2 k x0 x4 x5 x6 x7 false))
def cambiumref02_Rune.j2 : Nat → ByteArray → Int → Int → Int → Int → Bool → Option (Int × Int)
  | 0, _, _, _, _, _, _ => none
  | k + 1, x0, x4, x5, x6, x7, x34 => if x34 = true then (cambiumref02_Rune.j3 k x0 4 (Int.tmod x4 8) 65536) else (if x4 ≥ 128 then (some (65533, 1)) else (cambiumref02_Rune.j3 k x0 x5 x6 x7))
end
def cambiumref02_Rune.f (k : Nat) (a0 : ByteArray) : Option (Int × Int) := if 0 < (a0.size : Int) then (if (wrap64 (bt a0 0)) ≥ 194 then (cambiumref02_Rune.j0 k a0 (wrap64 (bt a0 0)) 1 (wrap64 (bt a0 0)) 0 (decide ((wrap64 (bt a0 0)) < 224))) else (cambiumref02_Rune.j0 k a0 (wrap64 (bt a0 0)) 1 (wrap64 (bt a0 0)) 0 false)) else (none)
theorem cambiumref02_Rune.mono_l : ∀ k, (∀ y0 y1 y2 y3 y4 y5, LeO (cambiumref02_Rune.j0 k y0 y1 y2 y3 y4 y5) (cambiumref02_Rune.j0 (k + 1) y0 y1 y2 y3 y4 y5)) ∧ (∀ y0 y1 y2 y3, LeO (cambiumref02_Rune.j3 k y0 y1 y2 y3) (cambiumref02_Rune.j3 (k + 1) y0 y1 y2 y3)) ∧ (∀ y0 y1 y2 y3 y4, LeO (cambiumref02_Rune.l0 k y0 y1 y2 y3 y4) (cambiumref02_Rune.l0 (k + 1) y0 y1 y2 y3 y4)) ∧ (∀ y0 y1 y2 y3 y4 y5, LeO (cambiumref02_Rune.j1 k y0 y1 y2 y3 y4 y5) (cambiumref02_Rune.j1 (k + 1) y0 y1 y2 y3 y4 y5)) ∧ (∀ y0 y1 y2 y3 y4 y5, LeO (cambiumref02_Rune.j2 k y0 y1 y2 y3 y4 y5) (cambiumref02_Rune.j2 (k + 1) y0 y1 y2 y3 y4 y5))
  | 0 => ⟨fun _ _ _ _ _ _ r h => by simp [cambiumref02_Rune.j0] at h, fun _ _ _ _ r h => by simp [cambiumref02_Rune.j3] at h, fun _ _ _ _ _ r h => by simp [cambiumref02_Rune.l0] at h, fun _ _ _ _ _ _ r h => by simp [cambiumref02_Rune.j1] at h, fun _ _ _ _ _ _ r h => by simp [cambiumref02_Rune.j2] at h⟩
  | k + 1 => by
    obtain ⟨ih0, ih1, ih2, ih3, ih4⟩ := cambiumref02_Rune.mono_l k
    refine ⟨?_, ?_, ?_, ?_, ?_⟩
    · intro y0 y1 y2 y3 y4 y5
      unfold cambiumref02_Rune.j0
      repeat' first
      | (with_reducible exact ih0 _ _ _ _ _ _)
      | (with_reducible exact ih1 _ _ _ _)
      | (with_reducible exact ih2 _ _ _ _ _)
      | (with_reducible exact ih3 _ _ _ _ _ _)
      | (with_reducible exact ih4 _ _ _ _ _ _)
      | (with_reducible exact LeO.refl _)
      | (with_reducible exact LeO.none _)
      | (with_reducible refine LeO.ite ?_ ?_)
      | (with_reducible refine LeO.bind ?_ (fun _ => ?_))
      | exact ih0 _ _ _ _ _ _
      | exact ih1 _ _ _ _
      | exact ih2 _ _ _ _ _
      | exact ih3 _ _ _ _ _ _
      | exact ih4 _ _ _ _ _ _
      | exact LeO.none _
      | refine LeO.ite ?_ ?_
      | refine LeO.bind ?_ (fun _ => ?_)
    · intro y0 y1 y2 y3
      unfold cambiumref02_Rune.j3
      repeat' first
      | (with_reducible exact ih0 _ _ _ _ _ _)
      | (with_reducible exact ih1 _ _ _ _)
      | (with_reducible exact ih2 _ _ _ _ _)
      | (with_reducible exact ih3 _ _ _ _ _ _)
      | (with_reducible exact ih4 _ _ _ _ _ _)
      | (with_reducible exact LeO.refl _)
      | (with_reducible exact LeO.none _)
      | (with_reducible refine LeO.ite ?_ ?_)
      | (with_reducible refine LeO.bind ?_ (fun _ => ?_))
      | exact ih0 _ _ _ _ _ _
      | exact ih1 _ _ _ _
      | exact ih2 _ _ _ _ _
      | exact ih3 _ _ _ _ _ _
      | exact ih4 _ _ _ _ _ _
      | exact LeO.none _
      | refine LeO.ite ?_ ?_
      | refine LeO.bind ?_ (fun _ => ?_)
    · intro y0 y1 y2 y3 y4
      unfold cambiumref02_Rune.l0
      repeat' first
      | (with_reducible exact ih0 _ _ _ _ _ _)
      | (with_reducible exact ih1 _ _ _ _)
      | (with_reducible exact ih2 _ _ _ _ _)
      | (with_reducible exact ih3 _ _ _ _ _ _)
      | (with_reducible exact ih4 _ _ _ _ _ _)
      | (with_reducible exact LeO.refl _)
      | (with_reducible exact LeO.none _)
      | (with_reducible refine LeO.ite ?_ ?_)
      | (with_reducible refine LeO.bind ?_ (fun _ => ?_))
      | exact ih0 _ _ _ _ _ _
      | exact ih1 _ _ _ _
      | exact ih2 _ _ _ _ _
      | exact ih3 _ _ _ _ _ _
      | exact ih4 _ _ _ _ _ _
      | exact LeO.none _
      | refine LeO.ite ?_ ?_
      | refine LeO.bind ?_ (fun _ => ?_)
    · intro y0 y1 y2 y3 y4 y5
      unfold cambiumref02_Rune.j1
      repeat' first
      | (with_reducible exact ih0 _ _ _ _ _ _)
      | (with_reducible exact ih1 _ _ _ _)
      | (with_reducible exact ih2 _ _ _ _ _)
      | (with_reducible exact ih3 _ _ _ _ _ _)
      | (with_reducible exact ih4 _ _ _ _ _ _)
      | (with_reducible exact LeO.refl _)
      | (with_reducible exact LeO.none _)
      | (with_reducible refine LeO.ite ?_ ?_)
      | (with_reducible refine LeO.bind ?_ (fun _ => ?_))
      | exact ih0 _ _ _ _ _ _
      | exact ih1 _ _ _ _
      | exact ih2 _ _ _ _ _
      | exact ih3 _ _ _ _ _ _
      | exact ih4 _ _ _ _ _ _
      | exact LeO.none _
      | refine LeO.ite ?_ ?_
      | refine LeO.bind ?_ (fun _ => ?_)
    · intro y0 y1 y2 y3 y4 y5
      unfold cambiumref02_Rune.j2
      repeat' first
      | (with_reducible exact ih0 _ _ _ _ _ _)
      | (with_reducible exact ih1 _ _ _ _)
      | (with_reducible exact ih2 _ _ _ _ _)
      | (with_reducible exact ih3 _ _ _ _ _ _)
      | (with_reducible exact ih4 _ _ _ _ _ _)
      | (with_reducible exact LeO.refl _)
      | (with_reducible exact LeO.none _)
      | (with_reducible refine LeO.ite ?_ ?_)
      | (with_reducible refine LeO.bind ?_ (fun _ => ?_))
      | exact ih0 _ _ _ _ _ _
      | exact ih1 _ _ _ _
      | exact ih2 _ _ _ _ _
      | exact ih3 _ _ _ _ _ _
      | exact ih4 _ _ _ _ _ _
      | exact LeO.none _
      | refine LeO.ite ?_ ?_
      | refine LeO.bind ?_ (fun _ => ?_)
theorem cambiumref02_Rune.mono : ∀ a0 k, LeO (cambiumref02_Rune.f k a0) (cambiumref02_Rune.f (k + 1) a0) := by
  intro a0 k
  obtain ⟨ih0, ih1, ih2, ih3, ih4⟩ := cambiumref02_Rune.mono_l k
  unfold cambiumref02_Rune.f
  repeat' first
      | (with_reducible exact ih0 _ _ _ _ _ _)
      | (with_reducible exact ih1 _ _ _ _)
      | (with_reducible exact ih2 _ _ _ _ _)
      | (with_reducible exact ih3 _ _ _ _ _ _)
      | (with_reducible exact ih4 _ _ _ _ _ _)
      | (with_reducible exact LeO.refl _)
      | (with_reducible exact LeO.none _)
      | (with_reducible refine LeO.ite ?_ ?_)
      | (with_reducible refine LeO.bind ?_ (fun _ => ?_))
      | exact ih0 _ _ _ _ _ _
      | exact ih1 _ _ _ _
      | exact ih2 _ _ _ _ _
      | exact ih3 _ _ _ _ _ _
      | exact ih4 _ _ _ _ _ _
      | exact LeO.none _
      | refine LeO.ite ?_ ?_
      | refine LeO.bind ?_ (fun _ => ?_)
set_option maxHeartbeats 8000000 in
set_option maxRecDepth 100000 in
theorem cambiumref02_Rune.calls (k : Nat) (a0 : ByteArray) (r1 : Int) (r2 : Int) (w : World) (h : cambiumref02_Rune.f k a0 = some (r1, r2)) :
    Calls Tryd.prog 31 #[.string a0] w fun e w' => e = .returned (.tuple #[.int .i64 r1, .int .i64 r2]) ∧ Drawn0 w w' := by
  have H : (if 0 < (a0.size : Int) then (if (wrap64 (bt a0 0)) ≥ 194 then (cambiumref02_Rune.j0 k a0 (wrap64 (bt a0 0)) 1 (wrap64 (bt a0 0)) 0 (decide ((wrap64 (bt a0 0)) < 224))) else (cambiumref02_Rune.j0 k a0 (wrap64 (bt a0 0)) 1 (wrap64 (bt a0 0)) 0 false)) else (none)) = some (r1, r2) := h
  clear h
  by_cases c2 : 0 < (a0.size : Int)
  · rw [if_pos c2] at H
    have c2b0 : decide (0 < (a0.size : Int)) = true := decide_eq_true c2
    have c2b1 : decide (0 < a0.size) = true := decide_eq_true (by omega)
    clear c2
    have HC4 := Aside0.mk H
    clear H
    have p3 : 0 ≤ (0 : Int) := (by omega)
    have q3 : 0 < a0.size := (by have : (0 : Int) < (a0.size : Int) := of_decide_eq_true (by first | (with_reducible assumption) | assumption); omega)
    have hx3 : ∀ h : 0 < a0.size, ((a0[0]'h).toNat : Int) = bt a0 0 := bt_at a0 0
    clear p3
    have qi3 : (0 < (a0.size : Int)) = True := eq_true (of_decide_eq_true (by first | (with_reducible assumption) | assumption))
    replace q3 := eq_true q3
    go_enter Tryd.func31, Tryd.ntmps31
    go_upto_region 5 with (fail)
    go_cut [18] (fun v18 wc => ∃ (kq : Nat) (x18_3 : Bool), v18 = .bool x18_3 ∧ Aside0 (cambiumref02_Rune.j0 kq a0 (wrap64 (bt a0 0)) 1 (wrap64 (bt a0 0)) 0 x18_3 = some (r1, r2)) ∧ Aside0 (kq ≤ k) ∧ Drawn0 w wc)
    case first =>
      have H := HC4.out
      clear HC4
      by_cases c5 : (wrap64 (bt a0 0)) ≥ 194
      · rw [if_pos c5] at H
        have c5b0 : decide (194 ≤ (wrap64 (bt a0 0))) = true := decide_eq_true c5
        clear c5
        (first | rw [c5b0] | (simp only [i64_w, i32_w]; rw [c5b0]) | skip)
        have H' := Aside0.mk H
        clear H
        go_wp2
        go_meet
        case rel => exact ⟨_, (decide ((wrap64 (bt a0 0)) < 224)), (by first | rfl | (simp; done) | (simp [*]; done)), H', ⟨by first | omega | exact Nat.le_refl _⟩, by repeat (first | exact Drawn0.refl _ | apply Drawn0.step)⟩
      · rw [if_neg c5] at H
        have c5b0 : decide (194 ≤ (wrap64 (bt a0 0))) = false := decide_eq_false c5
        clear c5
        (first | rw [c5b0] | (simp only [i64_w, i32_w]; rw [c5b0]) | skip)
        have H' := Aside0.mk H
        clear H
        go_wp2
        go_meet
        case rel => exact ⟨_, (false), (by first | rfl | (simp; done) | (simp [*]; done)), H', ⟨by first | omega | exact Nat.le_refl _⟩, by repeat (first | exact Drawn0.refl _ | apply Drawn0.step)⟩
    case rest =>
      clear HC4
      try clear c2
      try clear c2b0
      try clear c2b1
      try clear p2
      try clear c3
      try clear p3
      try clear q3
      try clear hx3
      try clear qi3
      try clear c5
      try clear c5b0
      try clear p3
      try clear q3
      obtain ⟨kq, x18_3, rfl, HA, HJ3, ⟨mc3, rfl⟩⟩ := hcut
      cases kq with
      | zero => exact absurd HA.out (by simp [cambiumref02_Rune.j0])
      | succ kj3 =>
        have H := HA.out
        clear HA
        simp only [cambiumref02_Rune.j0] at H
        have HC6 := Aside0.mk H
        clear H
        go_upto_if 18 with (fail)
        go_cut [5, 6, 7] (fun v5 v6 v7 wc => ∃ (kq : Nat) (x5_5 : Int) (x6_5 : Int) (x7_5 : Int), v5 = .int .i64 x5_5 ∧ v6 = .int .i64 x6_5 ∧ v7 = .int .i64 x7_5 ∧ Aside0 (cambiumref02_Rune.j3 kq a0 x5_5 x6_5 x7_5 = some (r1, r2)) ∧ Aside0 (kq ≤ kj3) ∧ Drawn0 w wc)
        case first =>
          have H := HC6.out
          clear HC6
          by_cases c7 : x18_3 = true
          · subst c7
            have H1 : (cambiumref02_Rune.j3 kj3 a0 2 (Int.tmod (wrap64 (bt a0 0)) 32) 128) = some (r1, r2) := by rw [if_pos rfl] at H; exact H
            clear H
            have H := H1
            clear H1
            have H' := Aside0.mk H
            clear H
            go_wp2
            go_meet
            case rel => exact ⟨_, (2), (Int.tmod (wrap64 (bt a0 0)) 32), (128), (by first | rfl | (simp; done) | (simp [*]; done)), (by first | rfl | (simp; done) | (simp [*]; done)), (by first | rfl | (simp; done) | (simp [*]; done)), H', ⟨by have := HJ3.out; first | omega | exact Nat.le_refl _⟩, by repeat (first | exact Drawn0.refl _ | apply Drawn0.step)⟩
          · replace c7 := Bool.eq_false_iff.mpr c7
            subst c7
            have H1 : (if (wrap64 (bt a0 0)) ≥ 224 then (cambiumref02_Rune.j1 kj3 a0 (wrap64 (bt a0 0)) 1 (wrap64 (bt a0 0)) 0 (decide ((wrap64 (bt a0 0)) < 240))) else (cambiumref02_Rune.j1 kj3 a0 (wrap64 (bt a0 0)) 1 (wrap64 (bt a0 0)) 0 false)) = some (r1, r2) := by rw [if_neg (show ¬ (false = true) by decide)] at H; exact H
            clear H
            have H := H1
            clear H1
            have HC8 := Aside0.mk H
            clear H
            go_upto_region 9 with (fail)
            go_cut [26] (fun v26 wc => ∃ (kq : Nat) (x26_7 : Bool), v26 = .bool x26_7 ∧ Aside0 (cambiumref02_Rune.j1 kq a0 (wrap64 (bt a0 0)) 1 (wrap64 (bt a0 0)) 0 x26_7 = some (r1, r2)) ∧ Aside0 (kq ≤ kj3) ∧ Drawn0 w wc)
            case first =>
              have H := HC8.out
              clear HC8
              by_cases c9 : (wrap64 (bt a0 0)) ≥ 224
              · rw [if_pos c9] at H
                have c9b0 : decide (224 ≤ (wrap64 (bt a0 0))) = true := decide_eq_true c9
                clear c9
                (first | rw [c9b0] | (simp only [i64_w, i32_w]; rw [c9b0]) | skip)
                have H' := Aside0.mk H
                clear H
                go_wp2
                go_meet
                case rel => exact ⟨_, (decide ((wrap64 (bt a0 0)) < 240)), (by first | rfl | (simp; done) | (simp [*]; done)), H', ⟨by have := HJ3.out; first | omega | exact Nat.le_refl _⟩, by repeat (first | exact Drawn0.refl _ | apply Drawn0.step)⟩
              · rw [if_neg c9] at H
                have c9b0 : decide (224 ≤ (wrap64 (bt a0 0))) = false := decide_eq_false c9
                clear c9
                (first | rw [c9b0] | (simp only [i64_w, i32_w]; rw [c9b0]) | skip)
                have H' := Aside0.mk H
                clear H
                go_wp2
                go_meet
                case rel => exact ⟨_, (false), (by first | rfl | (simp; done) | (simp [*]; done)), H', ⟨by have := HJ3.out; first | omega | exact Nat.le_refl _⟩, by repeat (first | exact Drawn0.refl _ | apply Drawn0.step)⟩
            case rest =>
              clear HC8
              try clear c2
              try clear c2b0
              try clear c2b1
              try clear p2
              try clear c3
              try clear p3
              try clear q3
              try clear hx3
              try clear qi3
              try clear c5
              try clear c5b0
              try clear p6
              try clear c7
              try clear c9
              try clear c9b0
              try clear p2
              try clear p3
              try clear q3
              obtain ⟨kq, x26_7, rfl, HA, HJ7, ⟨mc7, rfl⟩⟩ := hcut
              cases kq with
              | zero => exact absurd HA.out (by simp [cambiumref02_Rune.j1])
              | succ kj7 =>
                have H := HA.out
                clear HA
                simp only [cambiumref02_Rune.j1] at H
                by_cases c10 : x26_7 = true
                · subst c10
                  have H1 : (cambiumref02_Rune.j3 kj7 a0 3 (Int.tmod (wrap64 (bt a0 0)) 16) 2048) = some (r1, r2) := by rw [if_pos rfl] at H; exact H
                  clear H
                  have H := H1
                  clear H1
                  have H' := Aside0.mk H
                  clear H
                  go_wp2
                  go_meet
                  case rel => exact ⟨_, (3), (Int.tmod (wrap64 (bt a0 0)) 16), (2048), (by first | rfl | (simp; done) | (simp [*]; done)), (by first | rfl | (simp; done) | (simp [*]; done)), (by first | rfl | (simp; done) | (simp [*]; done)), H', ⟨by have := HJ3.out; have := HJ7.out; first | omega | exact Nat.le_refl _⟩, by repeat (first | exact Drawn0.refl _ | apply Drawn0.step)⟩
                · replace c10 := Bool.eq_false_iff.mpr c10
                  subst c10
                  have H1 : (if (wrap64 (bt a0 0)) ≥ 240 then (cambiumref02_Rune.j2 kj7 a0 (wrap64 (bt a0 0)) 1 (wrap64 (bt a0 0)) 0 (decide ((wrap64 (bt a0 0)) < 245))) else (cambiumref02_Rune.j2 kj7 a0 (wrap64 (bt a0 0)) 1 (wrap64 (bt a0 0)) 0 false)) = some (r1, r2) := by rw [if_neg (show ¬ (false = true) by decide)] at H; exact H
                  clear H
                  have H := H1
                  clear H1
                  have HC11 := Aside0.mk H
                  clear H
                  go_upto_region 13 with (fail)
                  go_cut [34] (fun v34 wc => ∃ (kq : Nat) (x34_10 : Bool), v34 = .bool x34_10 ∧ Aside0 (cambiumref02_Rune.j2 kq a0 (wrap64 (bt a0 0)) 1 (wrap64 (bt a0 0)) 0 x34_10 = some (r1, r2)) ∧ Aside0 (kq ≤ kj7) ∧ Drawn0 w wc)
                  case first =>
                    have H := HC11.out
                    clear HC11
                    by_cases c12 : (wrap64 (bt a0 0)) ≥ 240
                    · rw [if_pos c12] at H
                      have c12b0 : decide (240 ≤ (wrap64 (bt a0 0))) = true := decide_eq_true c12
                      clear c12
                      (first | rw [c12b0] | (simp only [i64_w, i32_w]; rw [c12b0]) | skip)
                      have H' := Aside0.mk H
                      clear H
                      go_wp2
                      go_meet
                      case rel => exact ⟨_, (decide ((wrap64 (bt a0 0)) < 245)), (by first | rfl | (simp; done) | (simp [*]; done)), H', ⟨by have := HJ3.out; have := HJ7.out; first | omega | exact Nat.le_refl _⟩, by repeat (first | exact Drawn0.refl _ | apply Drawn0.step)⟩
                    · rw [if_neg c12] at H
                      have c12b0 : decide (240 ≤ (wrap64 (bt a0 0))) = false := decide_eq_false c12
                      clear c12
                      (first | rw [c12b0] | (simp only [i64_w, i32_w]; rw [c12b0]) | skip)
                      have H' := Aside0.mk H
                      clear H
                      go_wp2
                      go_meet
                      case rel => exact ⟨_, (false), (by first | rfl | (simp; done) | (simp [*]; done)), H', ⟨by have := HJ3.out; have := HJ7.out; first | omega | exact Nat.le_refl _⟩, by repeat (first | exact Drawn0.refl _ | apply Drawn0.step)⟩
                  case rest =>
                    clear HC11
                    try clear c1
                    try clear c2
                    try clear c2b0
                    try clear c2b1
                    try clear p2
                    try clear c3
                    try clear p3
                    try clear q3
                    try clear hx3
                    try clear qi3
                    try clear c5
                    try clear c5b0
                    try clear p6
                    try clear c7
                    try clear c9
                    try clear c9b0
                    try clear c10
                    try clear c12
                    try clear c12b0
                    try clear p2
                    try clear p3
                    try clear p6
                    try clear q3
                    obtain ⟨kq, x34_10, rfl, HA, HJ10, ⟨mc10, rfl⟩⟩ := hcut
                    cases kq with
                    | zero => exact absurd HA.out (by simp [cambiumref02_Rune.j2])
                    | succ kj10 =>
                      have H := HA.out
                      clear HA
                      simp only [cambiumref02_Rune.j2] at H
                      by_cases c13 : x34_10 = true
                      · subst c13
                        have H1 : (cambiumref02_Rune.j3 kj10 a0 4 (Int.tmod (wrap64 (bt a0 0)) 8) 65536) = some (r1, r2) := by rw [if_pos rfl] at H; exact H
                        clear H
                        have H := H1
                        clear H1
                        have H' := Aside0.mk H
                        clear H
                        go_wp2
                        go_meet
                        case rel => exact ⟨_, (4), (Int.tmod (wrap64 (bt a0 0)) 8), (65536), (by first | rfl | (simp; done) | (simp [*]; done)), (by first | rfl | (simp; done) | (simp [*]; done)), (by first | rfl | (simp; done) | (simp [*]; done)), H', ⟨by have := HJ3.out; have := HJ7.out; have := HJ10.out; first | omega | exact Nat.le_refl _⟩, by repeat (first | exact Drawn0.refl _ | apply Drawn0.step)⟩
                      · replace c13 := Bool.eq_false_iff.mpr c13
                        subst c13
                        have H1 : (if (wrap64 (bt a0 0)) ≥ 128 then (some (65533, 1)) else (cambiumref02_Rune.j3 kj10 a0 1 (wrap64 (bt a0 0)) 0)) = some (r1, r2) := by rw [if_neg (show ¬ (false = true) by decide)] at H; exact H
                        clear H
                        have H := H1
                        clear H1
                        by_cases c14 : (wrap64 (bt a0 0)) ≥ 128
                        · rw [if_pos c14] at H
                          have c14b0 : decide (128 ≤ (wrap64 (bt a0 0))) = true := decide_eq_true c14
                          clear c14
                          simp only [Option.some.injEq, Prod.mk.injEq] at H
                          obtain ⟨rfl, rfl⟩ := H
                          go_wp2
                          go_ret2
                          exact ⟨by first | rfl | (simp; done) | (simp [*]; done), by repeat (first | exact Drawn0.refl _ | apply Drawn0.step)⟩
                        · rw [if_neg c14] at H
                          have c14b0 : decide (128 ≤ (wrap64 (bt a0 0))) = false := decide_eq_false c14
                          clear c14
                          have H' := Aside0.mk H
                          clear H
                          go_wp2
                          go_meet
                          case rel => exact ⟨_, (1), ((wrap64 (bt a0 0))), (0), (by first | rfl | (simp; done) | (simp [*]; done)), (by first | rfl | (simp; done) | (simp [*]; done)), (by first | rfl | (simp; done) | (simp [*]; done)), H', ⟨by have := HJ3.out; have := HJ7.out; have := HJ10.out; first | omega | exact Nat.le_refl _⟩, by repeat (first | exact Drawn0.refl _ | apply Drawn0.step)⟩
        case rest =>
          clear HC6
          try clear c1
          try clear c2
          try clear c2b0
          try clear c2b1
          try clear p2
          try clear c3
          try clear p3
          try clear q3
          try clear hx3
          try clear qi3
          try clear c5
          try clear c5b0
          try clear p6
          try clear c7
          try clear c9
          try clear c9b0
          try clear c10
          try clear c12
          try clear c12b0
          try clear c13
          try clear c14
          try clear c14b0
          try clear p2
          try clear p3
          try clear p6
          try clear q3
          obtain ⟨kq, x5_5, x6_5, x7_5, rfl, rfl, rfl, HA, HJ5, ⟨mc5, rfl⟩⟩ := hcut
          cases kq with
          | zero => exact absurd HA.out (by simp [cambiumref02_Rune.j3])
          | succ kj5 =>
            have H := HA.out
            clear HA
            simp only [cambiumref02_Rune.j3] at H
            by_cases c15 : x5_5 > (a0.size : Int)
            · rw [if_pos c15] at H
              have c15b0 : decide ((a0.size : Int) < x5_5) = true := decide_eq_true c15
              clear c15
              simp only [Option.some.injEq, Prod.mk.injEq] at H
              obtain ⟨rfl, rfl⟩ := H
              go_wp2
              go_ret2
              exact ⟨by first | rfl | (simp; done) | (simp [*]; done), by repeat (first | exact Drawn0.refl _ | apply Drawn0.step)⟩
            · rw [if_neg c15] at H
              have c15b0 : decide ((a0.size : Int) < x5_5) = false := decide_eq_false c15
              clear c15
              have H' := Aside0.mk H
              clear H
              go_wp2
              go_loopg [6, 8] kj5 (fun kq v6 v8 w' => ∃ (x6_3 : Int) (x8_3 : Int), v6 = .int .i64 x6_3 ∧ v8 = .int .i64 x8_3 ∧ Aside0 (cambiumref02_Rune.l0 kq a0 x5_5 x6_3 x7_5 x8_3 = some (r1, r2)) ∧ Aside0 (kq ≤ kj5) ∧ Drawn0 w w')
              case atStart => exact ⟨(x6_5), (1), (by first | rfl | (simp; done) | (simp [*]; done)), (by first | rfl | (simp; done) | (simp [*]; done)), H', ⟨Nat.le_refl _⟩, by repeat (first | exact Drawn0.refl _ | apply Drawn0.step)⟩
              case round =>
                clear H'
                try clear c1
                try clear c2
                try clear c2b0
                try clear c2b1
                try clear p2
                try clear c3
                try clear p3
                try clear q3
                try clear hx3
                try clear qi3
                try clear c5
                try clear c5b0
                try clear p6
                try clear c7
                try clear c9
                try clear c9b0
                try clear c10
                try clear c12
                try clear c12b0
                try clear c13
                try clear c14
                try clear c14b0
                try clear c15
                try clear c15b0
                try clear p2
                try clear p3
                try clear p6
                try clear q3
                obtain ⟨x6_3, x8_3, rfl, rfl, HA, HK3, ⟨m3, rfl⟩⟩ := hrel
                cases gk with
                | zero => exact absurd HA.out (by simp [cambiumref02_Rune.l0])
                | succ k3 =>
                  have H := HA.out
                  clear HA
                  simp only [cambiumref02_Rune.l0] at H
                  by_cases c16 : x8_3 < x5_5
                  · rw [if_pos c16] at H
                    have c16b0 : decide (x8_3 < x5_5) = true := decide_eq_true c16
                    clear c16
                    by_cases c17 : 0 ≤ x8_3
                    · rw [if_pos c17] at H
                      have c17b0 : decide (0 ≤ x8_3) = true := decide_eq_true c17
                      clear c17
                      by_cases c18 : x8_3 < (a0.size : Int)
                      · rw [if_pos c18] at H
                        have c18b0 : decide (x8_3 < (a0.size : Int)) = true := decide_eq_true c18
                        clear c18
                        by_cases c20 : ((Int.tdiv (bt a0 x8_3) 64) % 256) = 2
                        · rw [if_pos c20] at H
                          have c20b0 : (((Int.tdiv (bt a0 x8_3) 64) % 256) == 2) = true := beq_iff_eq.mpr c20
                          have c20b1 : (((Int.tdiv (bt a0 x8_3) 64) % 256) != 2) = false := bne_eq_false_iff_eq.mpr c20
                          clear c20
                          have H' := Aside0.mk H
                          clear H
                          have p19 : 0 ≤ (x8_3 : Int) := of_decide_eq_true (by first | (with_reducible assumption) | assumption)
                          have q19 : x8_3 < (a0.size : Int) := of_decide_eq_true (by first | (with_reducible assumption) | assumption)
                          have hx19 := bt_at a0 x8_3
                          replace p19 := eq_true p19
                          replace q19 := eq_true q19
                          have p21 : 0 ≤ (x8_3 : Int) := of_decide_eq_true (by first | (with_reducible assumption) | assumption)
                          have q21 : x8_3 < (a0.size : Int) := of_decide_eq_true (by first | (with_reducible assumption) | assumption)
                          have hx21 := bt_at a0 x8_3
                          replace p21 := eq_true p21
                          replace q21 := eq_true q21
                          go_wp2
                          go_roundg k3
                          case measure => have := HJ3.out; have := HJ5.out; have := HK3.out; omega
                          case rel => exact ⟨(wrap64 ((wrap64 (x6_3 * 64)) + (Int.tmod (wrap64 (bt a0 x8_3)) 64))), (wrap64 (x8_3 + 1)), (by first | rfl | (simp; done) | (simp [*]; done)), (by first | rfl | (simp; done) | (simp [*]; done)), H', ⟨by have := HJ3.out; have := HJ5.out; have := HK3.out; omega⟩, by repeat (first | exact Drawn0.refl _ | apply Drawn0.step)⟩
                        · rw [if_neg c20] at H
                          have c20b0 : (((Int.tdiv (bt a0 x8_3) 64) % 256) == 2) = false := beq_eq_false_iff_ne.mpr c20
                          have c20b1 : (((Int.tdiv (bt a0 x8_3) 64) % 256) != 2) = true := bne_iff_ne.mpr c20
                          simp only [Option.some.injEq, Prod.mk.injEq] at H
                          obtain ⟨rfl, rfl⟩ := H
                          have p19 : 0 ≤ (x8_3 : Int) := of_decide_eq_true (by first | (with_reducible assumption) | assumption)
                          have q19 : x8_3 < (a0.size : Int) := of_decide_eq_true (by first | (with_reducible assumption) | assumption)
                          have hx19 := bt_at a0 x8_3
                          replace p19 := eq_true p19
                          replace q19 := eq_true q19
                          go_wp2
                          go_ret2
                          exact ⟨by first | rfl | (simp; done) | (simp [*]; done), by repeat (first | exact Drawn0.refl _ | apply Drawn0.step)⟩
                      · rw [if_neg c18] at H
                        exact absurd H (by simp)
                    · rw [if_neg c17] at H
                      exact absurd H (by simp)
                  · rw [if_neg c16] at H
                    have c16b0 : decide (x8_3 < x5_5) = false := decide_eq_false c16
                    clear c16
                    by_cases c22 : x6_3 < x7_5
                    · rw [if_pos c22] at H
                      have c22b0 : decide (x6_3 < x7_5) = true := decide_eq_true c22
                      clear c22
                      simp only [Option.some.injEq, Prod.mk.injEq] at H
                      obtain ⟨rfl, rfl⟩ := H
                      go_wp2
                      go_ret2
                      exact ⟨by first | rfl | (simp; done) | (simp [*]; done), by repeat (first | exact Drawn0.refl _ | apply Drawn0.step)⟩
                    · rw [if_neg c22] at H
                      have c22b0 : decide (x6_3 < x7_5) = false := decide_eq_false c22
                      clear c22
                      by_cases c23 : x6_3 > 1114111
                      · rw [if_pos c23] at H
                        have c23b0 : decide (1114111 < x6_3) = true := decide_eq_true c23
                        clear c23
                        simp only [Option.some.injEq, Prod.mk.injEq] at H
                        obtain ⟨rfl, rfl⟩ := H
                        go_wp2
                        go_ret2
                        exact ⟨by first | rfl | (simp; done) | (simp [*]; done), by repeat (first | exact Drawn0.refl _ | apply Drawn0.step)⟩
                      · rw [if_neg c23] at H
                        have c23b0 : decide (1114111 < x6_3) = false := decide_eq_false c23
                        clear c23
                        by_cases c24 : x6_3 ≥ 55296
                        · rw [if_pos c24] at H
                          have c24b0 : decide (55296 ≤ x6_3) = true := decide_eq_true c24
                          clear c24
                          by_cases c25 : x6_3 < 57344
                          · rw [if_pos c25] at H
                            have c25b0 : decide (x6_3 < 57344) = true := decide_eq_true c25
                            clear c25
                            simp only [Option.some.injEq, Prod.mk.injEq] at H
                            obtain ⟨rfl, rfl⟩ := H
                            go_wp2
                            go_ret2
                            exact ⟨by first | rfl | (simp; done) | (simp [*]; done), by repeat (first | exact Drawn0.refl _ | apply Drawn0.step)⟩
                          · rw [if_neg c25] at H
                            have c25b0 : decide (x6_3 < 57344) = false := decide_eq_false c25
                            clear c25
                            simp only [Option.some.injEq, Prod.mk.injEq] at H
                            obtain ⟨rfl, rfl⟩ := H
                            go_wp2
                            go_ret2
                            exact ⟨by first | rfl | (simp; done) | (simp [*]; done), by repeat (first | exact Drawn0.refl _ | apply Drawn0.step)⟩
                        · rw [if_neg c24] at H
                          have c24b0 : decide (55296 ≤ x6_3) = false := decide_eq_false c24
                          clear c24
                          simp only [Option.some.injEq, Prod.mk.injEq] at H
                          obtain ⟨rfl, rfl⟩ := H
                          go_wp2
                          go_ret2
                          exact ⟨by first | rfl | (simp; done) | (simp [*]; done), by repeat (first | exact Drawn0.refl _ | apply Drawn0.step)⟩
  · rw [if_neg c2] at H
    exact absurd H (by simp)

end Go.Proofs.YtphimckceegiiaaDoor.PTxt
