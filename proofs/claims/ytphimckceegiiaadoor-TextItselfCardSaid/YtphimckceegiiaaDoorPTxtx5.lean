-- Written by a program: the kit's print.py, driven for several laws at once. Not trusted: Lean checks it.
import Derived.Test.YtphimckceegiiaaDoorPTxtx0
import Derived.Test.YtphimckceegiiaaDoorPTxtx4
namespace Go.Proofs.YtphimckceegiiaaDoor.PTxt
open Go.RowKit Go.Proofs.YtphimckceegiiaaDoorW.PrintWords Go.Proofs.YtphimckceegiiaaDoorW.PrintLast Go.Proofs.YtphimckceegiiaaDoorW.PrintMore
attribute [local go_sem] max2_int min2_int max_two min_two max_three min_three max_four min_four   -- for this text's walks alone
set_option linter.unusedVariables false
set_option linter.unusedSimpArgs false

/-! ### cambiumref02_Utf: function 16 -/
def cambiumref02_Utf.l0 : Nat → ByteArray → Int → Option (Bool)
  | 0, _, _ => none
  | k + 1, x0, x3 => if x3 < (x0.size : Int) then (if 0 ≤ x3 then (if x3 ≤ (x0.size : Int) then ((cambiumref02_Rune.f k (x0.extract (x3 : Int).toNat x0.size)).bind fun bt129 => (if bt129.1 = 65533 then (if bt129.2 = 1 then (some false) else (cambiumref02_Utf.l0 k x0 (wrap64 (x3 + bt129.2)))) else (cambiumref02_Utf.l0 k x0 (wrap64 (x3 + bt129.2))))) else (none)) else (none)) else (some true)
def cambiumref02_Utf.f (k : Nat) (a0 : ByteArray) : Option (Bool) := cambiumref02_Utf.l0 k a0 0
theorem cambiumref02_Utf.mono_l : ∀ k, (∀ y0 y1, LeO (cambiumref02_Utf.l0 k y0 y1) (cambiumref02_Utf.l0 (k + 1) y0 y1))
  | 0 => fun _ _ r h => by simp [cambiumref02_Utf.l0] at h
  | k + 1 => by
    have ih0 := cambiumref02_Utf.mono_l k
    · intro y0 y1
      unfold cambiumref02_Utf.l0
      repeat' first
      | (with_reducible exact ih0 _ _)
      | (with_reducible exact cambiumref02_Rune.mono _ _)
      | (with_reducible exact LeO.refl _)
      | (with_reducible exact LeO.none _)
      | (with_reducible refine LeO.ite ?_ ?_)
      | (with_reducible refine LeO.bind ?_ (fun _ => ?_))
      | exact ih0 _ _
      | exact cambiumref02_Rune.mono _ _
      | exact LeO.none _
      | refine LeO.ite ?_ ?_
      | refine LeO.bind ?_ (fun _ => ?_)
theorem cambiumref02_Utf.mono : ∀ a0 k, LeO (cambiumref02_Utf.f k a0) (cambiumref02_Utf.f (k + 1) a0) := by
  intro a0 k
  have ih0 := cambiumref02_Utf.mono_l k
  unfold cambiumref02_Utf.f
  repeat' first
      | (with_reducible exact ih0 _ _)
      | (with_reducible exact cambiumref02_Rune.mono _ _)
      | (with_reducible exact LeO.refl _)
      | (with_reducible exact LeO.none _)
      | (with_reducible refine LeO.ite ?_ ?_)
      | (with_reducible refine LeO.bind ?_ (fun _ => ?_))
      | exact ih0 _ _
      | exact cambiumref02_Rune.mono _ _
      | exact LeO.none _
      | refine LeO.ite ?_ ?_
      | refine LeO.bind ?_ (fun _ => ?_)
set_option maxHeartbeats 8000000 in
set_option maxRecDepth 100000 in
theorem cambiumref02_Utf.calls (k : Nat) (a0 : ByteArray) (r : Bool) (w : World) (h : cambiumref02_Utf.f k a0 = some r) :
    Calls Tryd.prog 16 #[.string a0] w fun e w' => e = .returned (.bool r) ∧ Drawn0 w w' := by
  have H : (cambiumref02_Utf.l0 k a0 0) = some r := h
  clear h
  have H' := Aside0.mk H
  clear H
  go_enter Tryd.func16, Tryd.ntmps16
  go_wp2
  go_loopg [3] k (fun kq v3 w' => ∃ (x3_1 : Int), v3 = .int .i64 x3_1 ∧ Aside0 (cambiumref02_Utf.l0 kq a0 x3_1 = some r) ∧ Aside0 (kq ≤ k) ∧ Drawn0 w w')
  case atStart => exact ⟨(0), (by first | rfl | (simp; done) | (simp [*]; done)), H', ⟨Nat.le_refl _⟩, by repeat (first | exact Drawn0.refl _ | apply Drawn0.step)⟩
  case round =>
    clear H'
    try clear c1
    obtain ⟨x3_1, rfl, HA, HK1, ⟨m1, rfl⟩⟩ := hrel
    cases gk with
    | zero => exact absurd HA.out (by simp [cambiumref02_Utf.l0])
    | succ k1 =>
      have H := HA.out
      clear HA
      simp only [cambiumref02_Utf.l0] at H
      by_cases c2 : x3_1 < (a0.size : Int)
      · rw [if_pos c2] at H
        have c2b0 : decide (x3_1 < (a0.size : Int)) = true := decide_eq_true c2
        clear c2
        by_cases c3 : 0 ≤ x3_1
        · rw [if_pos c3] at H
          have c3b0 := eq_true c3
          have c3b1 : decide (0 ≤ x3_1) = true := decide_eq_true c3
          clear c3
          by_cases c4 : x3_1 ≤ (a0.size : Int)
          · rw [if_pos c4] at H
            have c4b0 := eq_true c4
            have c4b1 : decide (x3_1 ≤ (a0.size : Int)) = true := decide_eq_true c4
            clear c4
            replace H := Option.bind_eq_some_iff.mp H
            obtain ⟨⟨t129, t130⟩, A50, H⟩ := H
            replace H : (if t129 = 65533 then (if t130 = 1 then (some false) else (cambiumref02_Utf.l0 k1 a0 (wrap64 (x3_1 + t130)))) else (cambiumref02_Utf.l0 k1 a0 (wrap64 (x3_1 + t130)))) = some r := H
            have A5 := Aside0.mk A50
            clear A50
            by_cases c6 : t129 = 65533
            · rw [if_pos c6] at H
              have c6b0 : (t129 == 65533) = true := beq_iff_eq.mpr c6
              have c6b1 : (t129 != 65533) = false := bne_eq_false_iff_eq.mpr c6
              clear c6
              by_cases c7 : t130 = 1
              · rw [if_pos c7] at H
                have c7b0 : (t130 == 1) = true := beq_iff_eq.mpr c7
                have c7b1 : (t130 != 1) = false := bne_eq_false_iff_eq.mpr c7
                clear c7
                obtain rfl := Option.some.inj H
                go_wp2_with (first | ((with_reducible refine gate_callee (f := 31) rfl ?_); refine goesL_ (some 14) rfl rfl Tryd.func31 (by kernel_rfl) rfl #[.string (a0.extract (x3_1 : Int).toNat a0.size)] rfl (by (try simp only [List.map_toArray, List.map_cons, List.map_nil]); first | done | rfl | (simp only [List.length_drop, List.length_take]; rfl)) ?_; (with_reducible refine (cambiumref02_Rune.calls k1 (a0.extract (x3_1 : Int).toNat a0.size) t129 t130 _ A5.out).mono ?_); rintro e w' ⟨rfl, ⟨nd, rfl⟩⟩; refine ⟨_, rfl, ?_⟩))
                go_ret
                exact ⟨by first | rfl | (simp; done) | (simp [*]; done), by repeat (first | exact Drawn0.refl _ | apply Drawn0.step)⟩
              · rw [if_neg c7] at H
                have c7b0 : (t130 == 1) = false := beq_eq_false_iff_ne.mpr c7
                have c7b1 : (t130 != 1) = true := bne_iff_ne.mpr c7
                have H' := Aside0.mk H
                clear H
                go_wp2_with (first | ((with_reducible refine gate_callee (f := 31) rfl ?_); refine goesL_ (some 14) rfl rfl Tryd.func31 (by kernel_rfl) rfl #[.string (a0.extract (x3_1 : Int).toNat a0.size)] rfl (by (try simp only [List.map_toArray, List.map_cons, List.map_nil]); first | done | rfl | (simp only [List.length_drop, List.length_take]; rfl)) ?_; (with_reducible refine (cambiumref02_Rune.calls k1 (a0.extract (x3_1 : Int).toNat a0.size) t129 t130 _ A5.out).mono ?_); rintro e w' ⟨rfl, ⟨nd, rfl⟩⟩; refine ⟨_, rfl, ?_⟩))
                go_roundg k1
                case measure => have := HK1.out; omega
                case rel => exact ⟨(wrap64 (x3_1 + t130)), (by first | rfl | (simp; done) | (simp [*]; done)), H', ⟨by have := HK1.out; omega⟩, by repeat (first | exact Drawn0.refl _ | apply Drawn0.step)⟩
            · rw [if_neg c6] at H
              have c6b0 : (t129 == 65533) = false := beq_eq_false_iff_ne.mpr c6
              have c6b1 : (t129 != 65533) = true := bne_iff_ne.mpr c6
              have H' := Aside0.mk H
              clear H
              go_wp2_with (first | ((with_reducible refine gate_callee (f := 31) rfl ?_); refine goesL_ (some 14) rfl rfl Tryd.func31 (by kernel_rfl) rfl #[.string (a0.extract (x3_1 : Int).toNat a0.size)] rfl (by (try simp only [List.map_toArray, List.map_cons, List.map_nil]); first | done | rfl | (simp only [List.length_drop, List.length_take]; rfl)) ?_; (with_reducible refine (cambiumref02_Rune.calls k1 (a0.extract (x3_1 : Int).toNat a0.size) t129 t130 _ A5.out).mono ?_); rintro e w' ⟨rfl, ⟨nd, rfl⟩⟩; refine ⟨_, rfl, ?_⟩))
              go_roundg k1
              case measure => have := HK1.out; omega
              case rel => exact ⟨(wrap64 (x3_1 + t130)), (by first | rfl | (simp; done) | (simp [*]; done)), H', ⟨by have := HK1.out; omega⟩, by repeat (first | exact Drawn0.refl _ | apply Drawn0.step)⟩
          · rw [if_neg c4] at H
            exact absurd H (by simp)
        · rw [if_neg c3] at H
          exact absurd H (by simp)
      · rw [if_neg c2] at H
        have c2b0 : decide (x3_1 < (a0.size : Int)) = false := decide_eq_false c2
        clear c2
        obtain rfl := Option.some.inj H
        go_wp2
        go_ret
        exact ⟨by first | rfl | (simp; done) | (simp [*]; done), by repeat (first | exact Drawn0.refl _ | apply Drawn0.step)⟩

end Go.Proofs.YtphimckceegiiaaDoor.PTxt
