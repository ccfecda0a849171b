-- Written by a program: the kit's print.py, driven for several laws at once. Not trusted: Lean checks it.
import Derived.Test.YtphimckceegiiaaDoorPTxtx0
import Derived.Test.YtphimckceegiiaaDoorPTxtx1
import Derived.Test.YtphimckceegiiaaDoorExtText
namespace Go.Proofs.YtphimckceegiiaaDoor.PTxt
open Go.RowKit Go.Proofs.YtphimckceegiiaaDoorW.PrintWords Go.Proofs.YtphimckceegiiaaDoorW.PrintLast Go.Proofs.YtphimckceegiiaaDoorW.PrintMore
attribute [local go_sem] max2_int min2_int max_two min_two max_three min_three max_four min_four   -- for this text's walks alone
set_option linter.unusedVariables false
set_option linter.unusedSimpArgs false

/-! ### text_Letter: function 12 -/
mutual
def text_Letter.j0 : Nat → Int → Bool → Option (Bool)
  | 0, _, _ => none
  | k + 1, x0, x3 => if x3 = true then (text_Letter.j2 k x0 x3) else (if x0 ≥ 65 then (text_Letter.j1 k x0 (decide (x0 ≤ 90))) else (text_Letter.j1 k x0 false))
def text_Letter.j2 : Nat → Int → Bool → Option (Bool)
  | 0, _, _ => none
  | k + 1, x0, x3 => if x3 = true then (some true) else (if x0 = 95 then (some true) else (if x0 = 46 then (some true) else (if x0 = 45 then (some true) else (if x0 = 47 then (some true) else (if x0 = 58 then (some true) else (some false))))))
def text_Letter.j1 : Nat → Int → Bool → Option (Bool)
  | 0, _, _ => none
  | k + 1, x0, x3 => if x3 = true then (text_Letter.j2 k x0 x3) else (if x0 ≥ 48 then (if x0 ≤ 57 then (text_Letter.j2 k x0 (decide (x0 ≤ 57))) else (text_Letter.j2 k x0 (decide (x0 > 159)))) else (text_Letter.j2 k x0 (decide (x0 > 159))))
end
def text_Letter.f (k : Nat) (a0 : Int) : Option (Bool) := if a0 ≥ 97 then (text_Letter.j0 k a0 (decide (a0 ≤ 122))) else (text_Letter.j0 k a0 false)
theorem text_Letter.mono_l : ∀ k, (∀ y0 y1, LeO (text_Letter.j0 k y0 y1) (text_Letter.j0 (k + 1) y0 y1)) ∧ (∀ y0 y1, LeO (text_Letter.j2 k y0 y1) (text_Letter.j2 (k + 1) y0 y1)) ∧ (∀ y0 y1, LeO (text_Letter.j1 k y0 y1) (text_Letter.j1 (k + 1) y0 y1))
  | 0 => ⟨fun _ _ r h => by simp [text_Letter.j0] at h, fun _ _ r h => by simp [text_Letter.j2] at h, fun _ _ r h => by simp [text_Letter.j1] at h⟩
  | k + 1 => by
    obtain ⟨ih0, ih1, ih2⟩ := text_Letter.mono_l k
    refine ⟨?_, ?_, ?_⟩
    · intro y0 y1
      unfold text_Letter.j0
      repeat' first
      | (with_reducible exact ih0 _ _)
      | (with_reducible exact ih1 _ _)
      | (with_reducible exact ih2 _ _)
      | (with_reducible exact LeO.refl _)
      | (with_reducible exact LeO.none _)
      | (with_reducible refine LeO.ite ?_ ?_)
      | (with_reducible refine LeO.bind ?_ (fun _ => ?_))
      | exact ih0 _ _
      | exact ih1 _ _
      | exact ih2 _ _
      | exact LeO.none _
      | refine LeO.ite ?_ ?_
      | refine LeO.bind ?_ (fun _ => ?_)
    · intro y0 y1
      unfold text_Letter.j2
      repeat' first
      | (with_reducible exact ih0 _ _)
      | (with_reducible exact ih1 _ _)
      | (with_reducible exact ih2 _ _)
      | (with_reducible exact LeO.refl _)
      | (with_reducible exact LeO.none _)
      | (with_reducible refine LeO.ite ?_ ?_)
      | (with_reducible refine LeO.bind ?_ (fun _ => ?_))
      | exact ih0 _ _
      | exact ih1 _ _
      | exact ih2 _ _
      | exact LeO.none _
      | refine LeO.ite ?_ ?_
      | refine LeO.bind ?_ (fun _ => ?_)
    · intro y0 y1
      unfold text_Letter.j1
      repeat' first
      | (with_reducible exact ih0 _ _)
      | (with_reducible exact ih1 _ _)
      | (with_reducible exact ih2 _ _)
      | (with_reducible exact LeO.refl _)
      | (with_reducible exact LeO.none _)
      | (with_reducible refine LeO.ite ?_ ?_)
      | (with_reducible refine LeO.bind ?_ (fun _ => ?_))
      | exact ih0 _ _
      | exact ih1 _ _
      | exact ih2 _ _
      | exact LeO.none _
      | refine LeO.ite ?_ ?_
      | refine LeO.bind ?_ (fun _ => ?_)
theorem text_Letter.mono : ∀ a0 k, LeO (text_Letter.f k a0) (text_Letter.f (k + 1) a0) := by
  intro a0 k
  obtain ⟨ih0, ih1, ih2⟩ := text_Letter.mono_l k
  unfold text_Letter.f
  repeat' first
      | (with_reducible exact ih0 _ _)
      | (with_reducible exact ih1 _ _)
      | (with_reducible exact ih2 _ _)
      | (with_reducible exact LeO.refl _)
      | (with_reducible exact LeO.none _)
      | (with_reducible refine LeO.ite ?_ ?_)
      | (with_reducible refine LeO.bind ?_ (fun _ => ?_))
      | exact ih0 _ _
      | exact ih1 _ _
      | exact ih2 _ _
      | exact LeO.none _
      | refine LeO.ite ?_ ?_
      | refine LeO.bind ?_ (fun _ => ?_)
set_option maxHeartbeats 8000000 in
set_option maxRecDepth 100000 in
theorem text_Letter.calls (k : Nat) (a0 : Int) (r : Bool) (w : World) (h : text_Letter.f k a0 = some r) :
    Calls Tryd.prog 12 #[.int .i32 a0] w fun e w' => e = .returned (.bool r) ∧ Drawn0 w w' := by
  have H : (if a0 ≥ 97 then (text_Letter.j0 k a0 (decide (a0 ≤ 122))) else (text_Letter.j0 k a0 false)) = some r := h
  clear h
  have HC2 := Aside0.mk H
  clear H
  go_enter Tryd.func12, Tryd.ntmps12
  go_upto_region 1 with (fail)
  go_cut [3] (fun v3 wc => ∃ (kq : Nat) (x3_1 : Bool), v3 = .bool x3_1 ∧ Aside0 (text_Letter.j0 kq a0 x3_1 = some r) ∧ Aside0 (kq ≤ k) ∧ Drawn0 w wc)
  case first =>
    have H := HC2.out
    clear HC2
    by_cases c3 : a0 ≥ 97
    · rw [if_pos c3] at H
      have c3b0 : decide (97 ≤ a0) = true := decide_eq_true c3
      clear c3
      (first | rw [c3b0] | (simp only [i64_w, i32_w]; rw [c3b0]) | skip)
      have H' := Aside0.mk H
      clear H
      go_wp2
      go_meet
      case rel => exact ⟨_, (decide (a0 ≤ 122)), (by first | rfl | (simp; done) | (simp [*]; done)), H', ⟨by first | omega | exact Nat.le_refl _⟩, by repeat (first | exact Drawn0.refl _ | apply Drawn0.step)⟩
    · rw [if_neg c3] at H
      have c3b0 : decide (97 ≤ a0) = false := decide_eq_false c3
      clear c3
      (first | rw [c3b0] | (simp only [i64_w, i32_w]; rw [c3b0]) | skip)
      have H' := Aside0.mk H
      clear H
      go_wp2
      go_meet
      case rel => exact ⟨_, (false), (by first | rfl | (simp; done) | (simp [*]; done)), H', ⟨by first | omega | exact Nat.le_refl _⟩, by repeat (first | exact Drawn0.refl _ | apply Drawn0.step)⟩
  case rest =>
    clear HC2
    try clear c1
    try clear p2
    try clear c3
    try clear c3b0
    obtain ⟨kq, x3_1, rfl, HA, HJ1, ⟨mc1, rfl⟩⟩ := hcut
    cases kq with
    | zero => exact absurd HA.out (by simp [text_Letter.j0])
    | succ kj1 =>
      have H := HA.out
      clear HA
      simp only [text_Letter.j0] at H
      have HC4 := Aside0.mk H
      clear H
      go_upto_if 3 with (fail)
      go_cut [3] (fun v3 wc => ∃ (kq : Nat) (x3_3 : Bool), v3 = .bool x3_3 ∧ Aside0 (text_Letter.j2 kq a0 x3_3 = some r) ∧ Aside0 (kq ≤ kj1) ∧ Drawn0 w wc)
      case first =>
        have H := HC4.out
        clear HC4
        by_cases c5 : x3_1 = true
        · subst c5
          have H1 : (text_Letter.j2 kj1 a0 true) = some r := by rw [if_pos rfl] at H; exact H
          clear H
          have H := H1
          clear H1
          have H' := Aside0.mk H
          clear H
          go_wp2
          go_meet
          case rel => exact ⟨_, (true), (by first | rfl | (simp; done) | (simp [*]; done)), H', ⟨by have := HJ1.out; first | omega | exact Nat.le_refl _⟩, by repeat (first | exact Drawn0.refl _ | apply Drawn0.step)⟩
        · replace c5 := Bool.eq_false_iff.mpr c5
          subst c5
          have H1 : (if a0 ≥ 65 then (text_Letter.j1 kj1 a0 (decide (a0 ≤ 90))) else (text_Letter.j1 kj1 a0 false)) = some r := by rw [if_neg (show ¬ (false = true) by decide)] at H; exact H
          clear H
          have H := H1
          clear H1
          have HC6 := Aside0.mk H
          clear H
          go_upto_region 2 with (fail)
          go_cut [3] (fun v3 wc => ∃ (kq : Nat) (x3_5 : Bool), v3 = .bool x3_5 ∧ Aside0 (text_Letter.j1 kq a0 x3_5 = some r) ∧ Aside0 (kq ≤ kj1) ∧ Drawn0 w wc)
          case first =>
            have H := HC6.out
            clear HC6
            by_cases c7 : a0 ≥ 65
            · rw [if_pos c7] at H
              have c7b0 : decide (65 ≤ a0) = true := decide_eq_true c7
              clear c7
              (first | rw [c7b0] | (simp only [i64_w, i32_w]; rw [c7b0]) | skip)
              have H' := Aside0.mk H
              clear H
              go_wp2
              go_meet
              case rel => exact ⟨_, (decide (a0 ≤ 90)), (by first | rfl | (simp; done) | (simp [*]; done)), H', ⟨by have := HJ1.out; first | omega | exact Nat.le_refl _⟩, by repeat (first | exact Drawn0.refl _ | apply Drawn0.step)⟩
            · rw [if_neg c7] at H
              have c7b0 : decide (65 ≤ a0) = false := decide_eq_false c7
              clear c7
              (first | rw [c7b0] | (simp only [i64_w, i32_w]; rw [c7b0]) | skip)
              have H' := Aside0.mk H
              clear H
              go_wp2
              go_meet
              case rel => exact ⟨_, (false), (by first | rfl | (simp; done) | (simp [*]; done)), H', ⟨by have := HJ1.out; first | omega | exact Nat.le_refl _⟩, by repeat (first | exact Drawn0.refl _ | apply Drawn0.step)⟩
          case rest =>
            clear HC6
            try clear c1
            try clear p2
            try clear c3
            try clear c3b0
            try clear c5
            try clear c7
            try clear c7b0
            try clear p2
            obtain ⟨kq, x3_5, rfl, HA, HJ5, ⟨mc5, rfl⟩⟩ := hcut
            cases kq with
            | zero => exact absurd HA.out (by simp [text_Letter.j1])
            | succ kj5 =>
              have H := HA.out
              clear HA
              simp only [text_Letter.j1] at H
              by_cases c8 : x3_5 = true
              · subst c8
                have H1 : (text_Letter.j2 kj5 a0 true) = some r := by rw [if_pos rfl] at H; exact H
                clear H
                have H := H1
                clear H1
                have H' := Aside0.mk H
                clear H
                go_wp2
                go_meet
                case rel => exact ⟨_, (true), (by first | rfl | (simp; done) | (simp [*]; done)), H', ⟨by have := HJ1.out; have := HJ5.out; first | omega | exact Nat.le_refl _⟩, by repeat (first | exact Drawn0.refl _ | apply Drawn0.step)⟩
              · replace c8 := Bool.eq_false_iff.mpr c8
                subst c8
                have H1 : (if a0 ≥ 48 then (if a0 ≤ 57 then (text_Letter.j2 kj5 a0 (decide (a0 ≤ 57))) else (text_Letter.j2 kj5 a0 (decide (a0 > 159)))) else (text_Letter.j2 kj5 a0 (decide (a0 > 159)))) = some r := by rw [if_neg (show ¬ (false = true) by decide)] at H; exact H
                clear H
                have H := H1
                clear H1
                by_cases c9 : a0 ≥ 48
                · rw [if_pos c9] at H
                  have c9b0 : decide (48 ≤ a0) = true := decide_eq_true c9
                  clear c9
                  by_cases c10 : a0 ≤ 57
                  · rw [if_pos c10] at H
                    have c10b0 : decide (a0 ≤ 57) = true := decide_eq_true c10
                    clear c10
                    have H' := Aside0.mk H
                    clear H
                    go_wp2
                    go_meet
                    case rel => exact ⟨_, (decide (a0 ≤ 57)), (by first | rfl | (simp; done) | (simp [*]; done)), H', ⟨by have := HJ1.out; have := HJ5.out; first | omega | exact Nat.le_refl _⟩, by repeat (first | exact Drawn0.refl _ | apply Drawn0.step)⟩
                  · rw [if_neg c10] at H
                    have c10b0 : decide (a0 ≤ 57) = false := decide_eq_false c10
                    clear c10
                    have H' := Aside0.mk H
                    clear H
                    go_wp2
                    go_meet
                    case rel => exact ⟨_, (decide (a0 > 159)), (by first | rfl | (simp; done) | (simp [*]; done)), H', ⟨by have := HJ1.out; have := HJ5.out; first | omega | exact Nat.le_refl _⟩, by repeat (first | exact Drawn0.refl _ | apply Drawn0.step)⟩
                · rw [if_neg c9] at H
                  have c9b0 : decide (48 ≤ a0) = false := decide_eq_false c9
                  clear c9
                  have H' := Aside0.mk H
                  clear H
                  go_wp2
                  go_meet
                  case rel => exact ⟨_, (decide (a0 > 159)), (by first | rfl | (simp; done) | (simp [*]; done)), H', ⟨by have := HJ1.out; have := HJ5.out; first | omega | exact Nat.le_refl _⟩, by repeat (first | exact Drawn0.refl _ | apply Drawn0.step)⟩
      case rest =>
        clear HC4
        try clear c1
        try clear p2
        try clear c3
        try clear c3b0
        try clear c5
        try clear c7
        try clear c7b0
        try clear c8
        try clear c9
        try clear c9b0
        try clear c10
        try clear c10b0
        try clear p2
        obtain ⟨kq, x3_3, rfl, HA, HJ3, ⟨mc3, rfl⟩⟩ := hcut
        cases kq with
        | zero => exact absurd HA.out (by simp [text_Letter.j2])
        | succ kj3 =>
          have H := HA.out
          clear HA
          simp only [text_Letter.j2] at H
          by_cases c11 : x3_3 = true
          · subst c11
            have H1 : (some true) = some r := by rw [if_pos rfl] at H; exact H
            clear H
            have H := H1
            clear H1
            obtain rfl := Option.some.inj H
            go_wp2
            go_ret
            exact ⟨by first | rfl | (simp; done) | (simp [*]; done), by repeat (first | exact Drawn0.refl _ | apply Drawn0.step)⟩
          · replace c11 := Bool.eq_false_iff.mpr c11
            subst c11
            have H1 : (if a0 = 95 then (some true) else (if a0 = 46 then (some true) else (if a0 = 45 then (some true) else (if a0 = 47 then (some true) else (if a0 = 58 then (some true) else (some false)))))) = some r := by rw [if_neg (show ¬ (false = true) by decide)] at H; exact H
            clear H
            have H := H1
            clear H1
            by_cases c12 : a0 = 95
            · rw [if_pos c12] at H
              have c12b0 : (a0 == 95) = true := beq_iff_eq.mpr c12
              have c12b1 : (a0 != 95) = false := bne_eq_false_iff_eq.mpr c12
              clear c12
              obtain rfl := Option.some.inj H
              go_wp2
              go_ret
              exact ⟨by first | rfl | (simp; done) | (simp [*]; done), by repeat (first | exact Drawn0.refl _ | apply Drawn0.step)⟩
            · rw [if_neg c12] at H
              have c12b0 : (a0 == 95) = false := beq_eq_false_iff_ne.mpr c12
              have c12b1 : (a0 != 95) = true := bne_iff_ne.mpr c12
              by_cases c13 : a0 = 46
              · rw [if_pos c13] at H
                have c13b0 : (a0 == 46) = true := beq_iff_eq.mpr c13
                have c13b1 : (a0 != 46) = false := bne_eq_false_iff_eq.mpr c13
                clear c13
                obtain rfl := Option.some.inj H
                go_wp2
                go_ret
                exact ⟨by first | rfl | (simp; done) | (simp [*]; done), by repeat (first | exact Drawn0.refl _ | apply Drawn0.step)⟩
              · rw [if_neg c13] at H
                have c13b0 : (a0 == 46) = false := beq_eq_false_iff_ne.mpr c13
                have c13b1 : (a0 != 46) = true := bne_iff_ne.mpr c13
                by_cases c14 : a0 = 45
                · rw [if_pos c14] at H
                  have c14b0 : (a0 == 45) = true := beq_iff_eq.mpr c14
                  have c14b1 : (a0 != 45) = false := bne_eq_false_iff_eq.mpr c14
                  clear c14
                  obtain rfl := Option.some.inj H
                  go_wp2
                  go_ret
                  exact ⟨by first | rfl | (simp; done) | (simp [*]; done), by repeat (first | exact Drawn0.refl _ | apply Drawn0.step)⟩
                · rw [if_neg c14] at H
                  have c14b0 : (a0 == 45) = false := beq_eq_false_iff_ne.mpr c14
                  have c14b1 : (a0 != 45) = true := bne_iff_ne.mpr c14
                  by_cases c15 : a0 = 47
                  · rw [if_pos c15] at H
                    have c15b0 : (a0 == 47) = true := beq_iff_eq.mpr c15
                    have c15b1 : (a0 != 47) = false := bne_eq_false_iff_eq.mpr c15
                    clear c15
                    obtain rfl := Option.some.inj H
                    go_wp2
                    go_ret
                    exact ⟨by first | rfl | (simp; done) | (simp [*]; done), by repeat (first | exact Drawn0.refl _ | apply Drawn0.step)⟩
                  · rw [if_neg c15] at H
                    have c15b0 : (a0 == 47) = false := beq_eq_false_iff_ne.mpr c15
                    have c15b1 : (a0 != 47) = true := bne_iff_ne.mpr c15
                    by_cases c16 : a0 = 58
                    · rw [if_pos c16] at H
                      have c16b0 : (a0 == 58) = true := beq_iff_eq.mpr c16
                      have c16b1 : (a0 != 58) = false := bne_eq_false_iff_eq.mpr c16
                      clear c16
                      obtain rfl := Option.some.inj H
                      go_wp2
                      go_ret
                      exact ⟨by first | rfl | (simp; done) | (simp [*]; done), by repeat (first | exact Drawn0.refl _ | apply Drawn0.step)⟩
                    · rw [if_neg c16] at H
                      have c16b0 : (a0 == 58) = false := beq_eq_false_iff_ne.mpr c16
                      have c16b1 : (a0 != 58) = true := bne_iff_ne.mpr c16
                      obtain rfl := Option.some.inj H
                      go_wp2
                      go_ret
                      exact ⟨by first | rfl | (simp; done) | (simp [*]; done), by repeat (first | exact Drawn0.refl _ | apply Drawn0.step)⟩

/-! ### text_Blank: function 14 -/
def text_Blank.f (a0 : Int) : Option (Bool) := if a0 = 32 then (some true) else (if a0 = 9 then (some true) else (if a0 = 10 then (some true) else (some (a0 == 13))))
set_option maxHeartbeats 8000000 in
set_option maxRecDepth 100000 in
theorem text_Blank.calls (a0 : Int) (r : Bool) (w : World) (h : text_Blank.f a0 = some r) :
    Calls Tryd.prog 14 #[.int .i32 a0] w fun e w' => e = .returned (.bool r) ∧ Drawn0 w w' := by
  have H : (if a0 = 32 then (some true) else (if a0 = 9 then (some true) else (if a0 = 10 then (some true) else (some (a0 == 13))))) = some r := h
  clear h
  by_cases c2 : a0 = 32
  · rw [if_pos c2] at H
    have c2b0 : (a0 == 32) = true := beq_iff_eq.mpr c2
    have c2b1 : (a0 != 32) = false := bne_eq_false_iff_eq.mpr c2
    clear c2
    obtain rfl := Option.some.inj H
    go_enter Tryd.func14, Tryd.ntmps14
    go_wp2
    go_ret
    exact ⟨by first | rfl | (simp; done) | (simp [*]; done), by repeat (first | exact Drawn0.refl _ | apply Drawn0.step)⟩
  · rw [if_neg c2] at H
    have c2b0 : (a0 == 32) = false := beq_eq_false_iff_ne.mpr c2
    have c2b1 : (a0 != 32) = true := bne_iff_ne.mpr c2
    by_cases c3 : a0 = 9
    · rw [if_pos c3] at H
      have c3b0 : (a0 == 9) = true := beq_iff_eq.mpr c3
      have c3b1 : (a0 != 9) = false := bne_eq_false_iff_eq.mpr c3
      clear c3
      obtain rfl := Option.some.inj H
      go_enter Tryd.func14, Tryd.ntmps14
      go_wp2
      go_ret
      exact ⟨by first | rfl | (simp; done) | (simp [*]; done), by repeat (first | exact Drawn0.refl _ | apply Drawn0.step)⟩
    · rw [if_neg c3] at H
      have c3b0 : (a0 == 9) = false := beq_eq_false_iff_ne.mpr c3
      have c3b1 : (a0 != 9) = true := bne_iff_ne.mpr c3
      by_cases c4 : a0 = 10
      · rw [if_pos c4] at H
        have c4b0 : (a0 == 10) = true := beq_iff_eq.mpr c4
        have c4b1 : (a0 != 10) = false := bne_eq_false_iff_eq.mpr c4
        clear c4
        obtain rfl := Option.some.inj H
        go_enter Tryd.func14, Tryd.ntmps14
        go_wp2
        go_ret
        exact ⟨by first | rfl | (simp; done) | (simp [*]; done), by repeat (first | exact Drawn0.refl _ | apply Drawn0.step)⟩
      · rw [if_neg c4] at H
        have c4b0 : (a0 == 10) = false := beq_eq_false_iff_ne.mpr c4
        have c4b1 : (a0 != 10) = true := bne_iff_ne.mpr c4
        obtain rfl := Option.some.inj H
        go_enter Tryd.func14, Tryd.ntmps14
        go_wp2
        go_ret
        exact ⟨by first | rfl | (simp; done) | (simp [*]; done), by repeat (first | exact Drawn0.refl _ | apply Drawn0.step)⟩

/-! ### cambiumlaw02_awake: function 9 -/
def cambiumlaw02_awake.f (k : Nat)  : Option (Bool) := (text_Match.f k (⟨#[97, 42, 63, 99]⟩ : ByteArray) (⟨#[97, 98, 98, 99]⟩ : ByteArray)).bind fun t112 => (if t112 = true then ((text_Match.f k (⟨#[92, 42]⟩ : ByteArray) (⟨#[42]⟩ : ByteArray)).bind fun t113 => (if t113 = true then ((text_Match.f k (⟨#[92, 42]⟩ : ByteArray) (⟨#[120]⟩ : ByteArray)).bind fun t114 => (if t114 = true then (some false) else ((text_Len.f (⟨#[195, 169, 255]⟩ : ByteArray)).bind fun t115 => (if t115 = 2 then ((text_Right.f (⟨#[97, 10]⟩ : ByteArray)).bind fun t116 => (if t116 = true then (some false) else ((text_Letter.f k 122).bind fun t117 => (if t117 = true then ((text_Blank.f 32).bind fun t118 => (if t118 = true then ((text_Words.f (⟨#[32, 97, 32, 98, 32]⟩ : ByteArray)).bind fun t119 => (some ((t119.length : Int) == 2))) else (some false))) else (some false))))) else (some false))))) else (some false))) else (some false))
theorem cambiumlaw02_awake.mono : ∀ k, LeO (cambiumlaw02_awake.f k ) (cambiumlaw02_awake.f (k + 1) ) := by
  intro  k
  unfold cambiumlaw02_awake.f
  repeat' first
      | (with_reducible exact text_Letter.mono _ _)
      | (with_reducible exact text_Match.mono _ _ _)
      | (with_reducible exact LeO.refl _)
      | (with_reducible exact LeO.none _)
      | (with_reducible refine LeO.ite ?_ ?_)
      | (with_reducible refine LeO.bind ?_ (fun _ => ?_))
      | exact text_Letter.mono _ _
      | exact text_Match.mono _ _ _
      | exact LeO.none _
      | refine LeO.ite ?_ ?_
      | refine LeO.bind ?_ (fun _ => ?_)
set_option maxHeartbeats 8000000 in
set_option maxRecDepth 100000 in
theorem cambiumlaw02_awake.calls (k : Nat)  (r : Bool) (w : World) (h : cambiumlaw02_awake.f k  = some r) (hT_ : Tabs w) :
    Calls Tryd.prog 9 #[] w fun e w' => e = .returned (.bool r) ∧ Below w.heap.size w w' := by
  have HTab_ := Aside0.mk hT_
  clear hT_
  have HB := Aside0.mk (Below.refl w.heap.size w)
  have H : ((text_Match.f k (⟨#[97, 42, 63, 99]⟩ : ByteArray) (⟨#[97, 98, 98, 99]⟩ : ByteArray)).bind fun t112 => (if t112 = true then ((text_Match.f k (⟨#[92, 42]⟩ : ByteArray) (⟨#[42]⟩ : ByteArray)).bind fun t113 => (if t113 = true then ((text_Match.f k (⟨#[92, 42]⟩ : ByteArray) (⟨#[120]⟩ : ByteArray)).bind fun t114 => (if t114 = true then (some false) else ((text_Len.f (⟨#[195, 169, 255]⟩ : ByteArray)).bind fun t115 => (if t115 = 2 then ((text_Right.f (⟨#[97, 10]⟩ : ByteArray)).bind fun t116 => (if t116 = true then (some false) else ((text_Letter.f k 122).bind fun t117 => (if t117 = true then ((text_Blank.f 32).bind fun t118 => (if t118 = true then ((text_Words.f (⟨#[32, 97, 32, 98, 32]⟩ : ByteArray)).bind fun t119 => (some ((t119.length : Int) == 2))) else (some false))) else (some false))))) else (some false))))) else (some false))) else (some false))) = some r := h
  clear h
  replace H := Option.bind_eq_some_iff.mp H
  obtain ⟨t112, A10, H⟩ := H
  replace H : (if t112 = true then ((text_Match.f k (⟨#[92, 42]⟩ : ByteArray) (⟨#[42]⟩ : ByteArray)).bind fun t113 => (if t113 = true then ((text_Match.f k (⟨#[92, 42]⟩ : ByteArray) (⟨#[120]⟩ : ByteArray)).bind fun t114 => (if t114 = true then (some false) else ((text_Len.f (⟨#[195, 169, 255]⟩ : ByteArray)).bind fun t115 => (if t115 = 2 then ((text_Right.f (⟨#[97, 10]⟩ : ByteArray)).bind fun t116 => (if t116 = true then (some false) else ((text_Letter.f k 122).bind fun t117 => (if t117 = true then ((text_Blank.f 32).bind fun t118 => (if t118 = true then ((text_Words.f (⟨#[32, 97, 32, 98, 32]⟩ : ByteArray)).bind fun t119 => (some ((t119.length : Int) == 2))) else (some false))) else (some false))))) else (some false))))) else (some false))) else (some false)) = some r := H
  have A1 := Aside0.mk A10
  clear A10
  by_cases c2 : t112 = true
  · subst c2
    have H1 : ((text_Match.f k (⟨#[92, 42]⟩ : ByteArray) (⟨#[42]⟩ : ByteArray)).bind fun t113 => (if t113 = true then ((text_Match.f k (⟨#[92, 42]⟩ : ByteArray) (⟨#[120]⟩ : ByteArray)).bind fun t114 => (if t114 = true then (some false) else ((text_Len.f (⟨#[195, 169, 255]⟩ : ByteArray)).bind fun t115 => (if t115 = 2 then ((text_Right.f (⟨#[97, 10]⟩ : ByteArray)).bind fun t116 => (if t116 = true then (some false) else ((text_Letter.f k 122).bind fun t117 => (if t117 = true then ((text_Blank.f 32).bind fun t118 => (if t118 = true then ((text_Words.f (⟨#[32, 97, 32, 98, 32]⟩ : ByteArray)).bind fun t119 => (some ((t119.length : Int) == 2))) else (some false))) else (some false))))) else (some false))))) else (some false))) = some r := by rw [if_pos rfl] at H; exact H
    clear H
    have H := H1
    clear H1
    replace H := Option.bind_eq_some_iff.mp H
    obtain ⟨t113, A30, H⟩ := H
    replace H : (if t113 = true then ((text_Match.f k (⟨#[92, 42]⟩ : ByteArray) (⟨#[120]⟩ : ByteArray)).bind fun t114 => (if t114 = true then (some false) else ((text_Len.f (⟨#[195, 169, 255]⟩ : ByteArray)).bind fun t115 => (if t115 = 2 then ((text_Right.f (⟨#[97, 10]⟩ : ByteArray)).bind fun t116 => (if t116 = true then (some false) else ((text_Letter.f k 122).bind fun t117 => (if t117 = true then ((text_Blank.f 32).bind fun t118 => (if t118 = true then ((text_Words.f (⟨#[32, 97, 32, 98, 32]⟩ : ByteArray)).bind fun t119 => (some ((t119.length : Int) == 2))) else (some false))) else (some false))))) else (some false))))) else (some false)) = some r := H
    have A3 := Aside0.mk A30
    clear A30
    by_cases c4 : t113 = true
    · subst c4
      have H1 : ((text_Match.f k (⟨#[92, 42]⟩ : ByteArray) (⟨#[120]⟩ : ByteArray)).bind fun t114 => (if t114 = true then (some false) else ((text_Len.f (⟨#[195, 169, 255]⟩ : ByteArray)).bind fun t115 => (if t115 = 2 then ((text_Right.f (⟨#[97, 10]⟩ : ByteArray)).bind fun t116 => (if t116 = true then (some false) else ((text_Letter.f k 122).bind fun t117 => (if t117 = true then ((text_Blank.f 32).bind fun t118 => (if t118 = true then ((text_Words.f (⟨#[32, 97, 32, 98, 32]⟩ : ByteArray)).bind fun t119 => (some ((t119.length : Int) == 2))) else (some false))) else (some false))))) else (some false))))) = some r := by rw [if_pos rfl] at H; exact H
      clear H
      have H := H1
      clear H1
      replace H := Option.bind_eq_some_iff.mp H
      obtain ⟨t114, A50, H⟩ := H
      replace H : (if t114 = true then (some false) else ((text_Len.f (⟨#[195, 169, 255]⟩ : ByteArray)).bind fun t115 => (if t115 = 2 then ((text_Right.f (⟨#[97, 10]⟩ : ByteArray)).bind fun t116 => (if t116 = true then (some false) else ((text_Letter.f k 122).bind fun t117 => (if t117 = true then ((text_Blank.f 32).bind fun t118 => (if t118 = true then ((text_Words.f (⟨#[32, 97, 32, 98, 32]⟩ : ByteArray)).bind fun t119 => (some ((t119.length : Int) == 2))) else (some false))) else (some false))))) else (some false)))) = some r := H
      have A5 := Aside0.mk A50
      clear A50
      by_cases c6 : t114 = true
      · subst c6
        have H1 : (some false) = some r := by rw [if_pos rfl] at H; exact H
        clear H
        have H := H1
        clear H1
        obtain rfl := Option.some.inj H
        go_enter Tryd.func9, Tryd.ntmps9
        go_wp2_with (first | ((with_reducible refine gate_callee (f := 10) rfl ?_); refine goesL_ (some 1) rfl rfl Tryd.func10 (by kernel_rfl) rfl #[.string (⟨#[97, 42, 63, 99]⟩ : ByteArray), .string (⟨#[97, 98, 98, 99]⟩ : ByteArray)] rfl (by (try simp only [List.map_toArray, List.map_cons, List.map_nil]); first | done | rfl | (simp only [List.length_drop, List.length_take]; rfl)) ?_; (with_reducible refine (text_Match.calls k (⟨#[97, 42, 63, 99]⟩ : ByteArray) (⟨#[97, 98, 98, 99]⟩ : ByteArray) true _ A1.out).mono ?_); rintro e w7 ⟨rfl, hb⟩; refine ⟨_, rfl, ?_⟩; have n0_ := Aside0.mk (below_step (by repeat (first | (with_reducible first | exact HB.out | apply below_alloc | apply pw_below_drewN | apply below_drew1) | exact HB.out)) hb); clear HB; have HB := n0_; clear n0_; (try clear hb); (try clear hb2); (try clear hk); (try clear hi)) | (go_at_call 10; (with_reducible refine (text_Match.calls k (⟨#[92, 42]⟩ : ByteArray) (⟨#[42]⟩ : ByteArray) true _ A3.out).mono ?_); rintro e w8 ⟨rfl, hb⟩; have n0_ := Aside0.mk (below_step (by repeat (first | (with_reducible first | exact HB.out | apply below_alloc | apply pw_below_drewN | apply below_drew1) | exact HB.out)) hb); clear HB; have HB := n0_; clear n0_; (try clear hb); (try clear hb2); (try clear hk); (try clear hi)) | (go_at_call 10; (with_reducible refine (text_Match.calls k (⟨#[92, 42]⟩ : ByteArray) (⟨#[120]⟩ : ByteArray) true _ A5.out).mono ?_); rintro e w9 ⟨rfl, hb⟩; have n0_ := Aside0.mk (below_step (by repeat (first | (with_reducible first | exact HB.out | apply below_alloc | apply pw_below_drewN | apply below_drew1) | exact HB.out)) hb); clear HB; have HB := n0_; clear n0_; (try clear hb); (try clear hb2); (try clear hk); (try clear hi)))
        go_ret
        exact ⟨by first | rfl | (simp [errW_none, errW_some] <;> rfl) | (simp [*, errW_none, errW_some] <;> rfl), by repeat (first | (with_reducible first | exact HB.out | apply below_alloc | apply pw_below_drewN | apply below_drew1) | exact HB.out)⟩
      · replace c6 := Bool.eq_false_iff.mpr c6
        subst c6
        have H1 : ((text_Len.f (⟨#[195, 169, 255]⟩ : ByteArray)).bind fun t115 => (if t115 = 2 then ((text_Right.f (⟨#[97, 10]⟩ : ByteArray)).bind fun t116 => (if t116 = true then (some false) else ((text_Letter.f k 122).bind fun t117 => (if t117 = true then ((text_Blank.f 32).bind fun t118 => (if t118 = true then ((text_Words.f (⟨#[32, 97, 32, 98, 32]⟩ : ByteArray)).bind fun t119 => (some ((t119.length : Int) == 2))) else (some false))) else (some false))))) else (some false))) = some r := by rw [if_neg (show ¬ (false = true) by decide)] at H; exact H
        clear H
        have H := H1
        clear H1
        replace H := Option.bind_eq_some_iff.mp H
        obtain ⟨t115, A100, H⟩ := H
        replace H : (if t115 = 2 then ((text_Right.f (⟨#[97, 10]⟩ : ByteArray)).bind fun t116 => (if t116 = true then (some false) else ((text_Letter.f k 122).bind fun t117 => (if t117 = true then ((text_Blank.f 32).bind fun t118 => (if t118 = true then ((text_Words.f (⟨#[32, 97, 32, 98, 32]⟩ : ByteArray)).bind fun t119 => (some ((t119.length : Int) == 2))) else (some false))) else (some false))))) else (some false)) = some r := H
        have A10 := Aside0.mk A100
        clear A100
        by_cases c11 : t115 = 2
        · rw [if_pos c11] at H
          have c11b0 : (t115 == 2) = true := beq_iff_eq.mpr c11
          have c11b1 : (t115 != 2) = false := bne_eq_false_iff_eq.mpr c11
          clear c11
          replace H := Option.bind_eq_some_iff.mp H
          obtain ⟨t116, A120, H⟩ := H
          replace H : (if t116 = true then (some false) else ((text_Letter.f k 122).bind fun t117 => (if t117 = true then ((text_Blank.f 32).bind fun t118 => (if t118 = true then ((text_Words.f (⟨#[32, 97, 32, 98, 32]⟩ : ByteArray)).bind fun t119 => (some ((t119.length : Int) == 2))) else (some false))) else (some false)))) = some r := H
          have A12 := Aside0.mk A120
          clear A120
          by_cases c13 : t116 = true
          · subst c13
            have H1 : (some false) = some r := by rw [if_pos rfl] at H; exact H
            clear H
            have H := H1
            clear H1
            obtain rfl := Option.some.inj H
            go_enter Tryd.func9, Tryd.ntmps9
            go_wp2_with (first | ((with_reducible refine gate_callee (f := 10) rfl ?_); refine goesL_ (some 1) rfl rfl Tryd.func10 (by kernel_rfl) rfl #[.string (⟨#[97, 42, 63, 99]⟩ : ByteArray), .string (⟨#[97, 98, 98, 99]⟩ : ByteArray)] rfl (by (try simp only [List.map_toArray, List.map_cons, List.map_nil]); first | done | rfl | (simp only [List.length_drop, List.length_take]; rfl)) ?_; (with_reducible refine (text_Match.calls k (⟨#[97, 42, 63, 99]⟩ : ByteArray) (⟨#[97, 98, 98, 99]⟩ : ByteArray) true _ A1.out).mono ?_); rintro e w14 ⟨rfl, hb⟩; refine ⟨_, rfl, ?_⟩; have n0_ := Aside0.mk (below_step (by repeat (first | (with_reducible first | exact HB.out | apply below_alloc | apply pw_below_drewN | apply below_drew1) | exact HB.out)) hb); clear HB; have HB := n0_; clear n0_; (try clear hb); (try clear hb2); (try clear hk); (try clear hi)) | (go_at_call 10; (with_reducible refine (text_Match.calls k (⟨#[92, 42]⟩ : ByteArray) (⟨#[42]⟩ : ByteArray) true _ A3.out).mono ?_); rintro e w15 ⟨rfl, hb⟩; have n0_ := Aside0.mk (below_step (by repeat (first | (with_reducible first | exact HB.out | apply below_alloc | apply pw_below_drewN | apply below_drew1) | exact HB.out)) hb); clear HB; have HB := n0_; clear n0_; (try clear hb); (try clear hb2); (try clear hk); (try clear hi)) | (go_at_call 10; (with_reducible refine (text_Match.calls k (⟨#[92, 42]⟩ : ByteArray) (⟨#[120]⟩ : ByteArray) false _ A5.out).mono ?_); rintro e w16 ⟨rfl, hb⟩; have n0_ := Aside0.mk (below_step (by repeat (first | (with_reducible first | exact HB.out | apply below_alloc | apply pw_below_drewN | apply below_drew1) | exact HB.out)) hb); clear HB; have HB := n0_; clear n0_; (try clear hb); (try clear hb2); (try clear hk); (try clear hi)) | (go_at_call 19; (with_reducible refine (text_Len.calls (⟨#[195, 169, 255]⟩ : ByteArray) t115 _ A10.out).mono ?_); rintro e w17 ⟨rfl, hb⟩; have n0_ := Aside0.mk (below_step (by repeat (first | (with_reducible first | exact HB.out | apply below_alloc | apply pw_below_drewN | apply below_drew1) | exact HB.out)) hb); clear HB; have HB := n0_; clear n0_; (try clear hb); (try clear hb2); (try clear hk); (try clear hi)) | (go_at_call 23; (with_reducible refine (text_Right.calls (⟨#[97, 10]⟩ : ByteArray) true _ A12.out (by first | (with_reducible exact HTab_.out) | (with_reducible exact tabs_below HTab_.out HB.out) | exact tabs_below HTab_.out (by repeat (first | (with_reducible first | exact HB.out | apply below_alloc | apply pw_below_drewN | apply below_drew1) | exact HB.out)))).mono ?_); rintro e w18 ⟨rfl, hb⟩; have n0_ := Aside0.mk (below_step (by repeat (first | (with_reducible first | exact HB.out | apply below_alloc | apply pw_below_drewN | apply below_drew1) | exact HB.out)) hb); clear HB; have HB := n0_; clear n0_; (try clear hb); (try clear hb2); (try clear hk); (try clear hi)))
            go_ret
            exact ⟨by first | rfl | (simp [errW_none, errW_some] <;> rfl) | (simp [*, errW_none, errW_some] <;> rfl), by repeat (first | (with_reducible first | exact HB.out | apply below_alloc | apply pw_below_drewN | apply below_drew1) | exact HB.out)⟩
          · replace c13 := Bool.eq_false_iff.mpr c13
            subst c13
            have H1 : ((text_Letter.f k 122).bind fun t117 => (if t117 = true then ((text_Blank.f 32).bind fun t118 => (if t118 = true then ((text_Words.f (⟨#[32, 97, 32, 98, 32]⟩ : ByteArray)).bind fun t119 => (some ((t119.length : Int) == 2))) else (some false))) else (some false))) = some r := by rw [if_neg (show ¬ (false = true) by decide)] at H; exact H
            clear H
            have H := H1
            clear H1
            replace H := Option.bind_eq_some_iff.mp H
            obtain ⟨t117, A190, H⟩ := H
            replace H : (if t117 = true then ((text_Blank.f 32).bind fun t118 => (if t118 = true then ((text_Words.f (⟨#[32, 97, 32, 98, 32]⟩ : ByteArray)).bind fun t119 => (some ((t119.length : Int) == 2))) else (some false))) else (some false)) = some r := H
            have A19 := Aside0.mk A190
            clear A190
            by_cases c20 : t117 = true
            · subst c20
              have H1 : ((text_Blank.f 32).bind fun t118 => (if t118 = true then ((text_Words.f (⟨#[32, 97, 32, 98, 32]⟩ : ByteArray)).bind fun t119 => (some ((t119.length : Int) == 2))) else (some false))) = some r := by rw [if_pos rfl] at H; exact H
              clear H
              have H := H1
              clear H1
              replace H := Option.bind_eq_some_iff.mp H
              obtain ⟨t118, A210, H⟩ := H
              replace H : (if t118 = true then ((text_Words.f (⟨#[32, 97, 32, 98, 32]⟩ : ByteArray)).bind fun t119 => (some ((t119.length : Int) == 2))) else (some false)) = some r := H
              have A21 := Aside0.mk A210
              clear A210
              by_cases c22 : t118 = true
              · subst c22
                have H1 : ((text_Words.f (⟨#[32, 97, 32, 98, 32]⟩ : ByteArray)).bind fun t119 => (some ((t119.length : Int) == 2))) = some r := by rw [if_pos rfl] at H; exact H
                clear H
                have H := H1
                clear H1
                replace H := Option.bind_eq_some_iff.mp H
                obtain ⟨t119, A230, H⟩ := H
                replace H : (some ((t119.length : Int) == 2)) = some r := H
                have A23 := Aside0.mk A230
                clear A230
                obtain rfl := Option.some.inj H
                go_enter Tryd.func9, Tryd.ntmps9
                go_wp2_with (first | ((with_reducible refine gate_callee (f := 10) rfl ?_); refine goesL_ (some 1) rfl rfl Tryd.func10 (by kernel_rfl) rfl #[.string (⟨#[97, 42, 63, 99]⟩ : ByteArray), .string (⟨#[97, 98, 98, 99]⟩ : ByteArray)] rfl (by (try simp only [List.map_toArray, List.map_cons, List.map_nil]); first | done | rfl | (simp only [List.length_drop, List.length_take]; rfl)) ?_; (with_reducible refine (text_Match.calls k (⟨#[97, 42, 63, 99]⟩ : ByteArray) (⟨#[97, 98, 98, 99]⟩ : ByteArray) true _ A1.out).mono ?_); rintro e w24 ⟨rfl, hb⟩; refine ⟨_, rfl, ?_⟩; have n0_ := Aside0.mk (below_step (by repeat (first | (with_reducible first | exact HB.out | apply below_alloc | apply pw_below_drewN | apply below_drew1) | exact HB.out)) hb); clear HB; have HB := n0_; clear n0_; (try clear hb); (try clear hb2); (try clear hk); (try clear hi)) | (go_at_call 10; (with_reducible refine (text_Match.calls k (⟨#[92, 42]⟩ : ByteArray) (⟨#[42]⟩ : ByteArray) true _ A3.out).mono ?_); rintro e w25 ⟨rfl, hb⟩; have n0_ := Aside0.mk (below_step (by repeat (first | (with_reducible first | exact HB.out | apply below_alloc | apply pw_below_drewN | apply below_drew1) | exact HB.out)) hb); clear HB; have HB := n0_; clear n0_; (try clear hb); (try clear hb2); (try clear hk); (try clear hi)) | (go_at_call 10; (with_reducible refine (text_Match.calls k (⟨#[92, 42]⟩ : ByteArray) (⟨#[120]⟩ : ByteArray) false _ A5.out).mono ?_); rintro e w26 ⟨rfl, hb⟩; have n0_ := Aside0.mk (below_step (by repeat (first | (with_reducible first | exact HB.out | apply below_alloc | apply pw_below_drewN | apply below_drew1) | exact HB.out)) hb); clear HB; have HB := n0_; clear n0_; (try clear hb); (try clear hb2); (try clear hk); (try clear hi)) | (go_at_call 19; (with_reducible refine (text_Len.calls (⟨#[195, 169, 255]⟩ : ByteArray) t115 _ A10.out).mono ?_); rintro e w27 ⟨rfl, hb⟩; have n0_ := Aside0.mk (below_step (by repeat (first | (with_reducible first | exact HB.out | apply below_alloc | apply pw_below_drewN | apply below_drew1) | exact HB.out)) hb); clear HB; have HB := n0_; clear n0_; (try clear hb); (try clear hb2); (try clear hk); (try clear hi)) | (go_at_call 23; (with_reducible refine (text_Right.calls (⟨#[97, 10]⟩ : ByteArray) false _ A12.out (by first | (with_reducible exact HTab_.out) | (with_reducible exact tabs_below HTab_.out HB.out) | exact tabs_below HTab_.out (by repeat (first | (with_reducible first | exact HB.out | apply below_alloc | apply pw_below_drewN | apply below_drew1) | exact HB.out)))).mono ?_); rintro e w28 ⟨rfl, hb⟩; have n0_ := Aside0.mk (below_step (by repeat (first | (with_reducible first | exact HB.out | apply below_alloc | apply pw_below_drewN | apply below_drew1) | exact HB.out)) hb); clear HB; have HB := n0_; clear n0_; (try clear hb); (try clear hb2); (try clear hk); (try clear hi)) | (go_at_call 12; (with_reducible refine (text_Letter.calls k 122 true _ A19.out).mono ?_); rintro e w' ⟨rfl, ⟨nd, rfl⟩⟩) | (go_at_call 14; (with_reducible refine (text_Blank.calls 32 true _ A21.out).mono ?_); rintro e w' ⟨rfl, ⟨nd, rfl⟩⟩) | (go_at_call 20; (with_reducible refine (text_Words.calls (⟨#[32, 97, 32, 98, 32]⟩ : ByteArray) t119 _ A23.out).mono ?_); rintro e w29 ⟨v120, rfl, ho0, hb⟩; have n0_ := Aside0.mk (Kd.R_lower ho0 (below_size (by repeat (first | (with_reducible first | exact HB.out | apply below_alloc | apply pw_below_drewN | apply below_drew1) | exact HB.out)))); have n1_ := Aside0.mk (below_step (by repeat (first | (with_reducible first | exact HB.out | apply below_alloc | apply pw_below_drewN | apply below_drew1) | exact HB.out)) hb); clear HB; have HO121 := n0_; have HB := n1_; clear n0_ n1_; (try clear hb); (try clear hb2); (try clear hk); (try clear hi); (try clear ho0); obtain ⟨Ao30, co30, eo30⟩ := Kd.R_slice HO121.out; subst eo30))
                go_ret
                exact ⟨by first | rfl | (simp [errW_none, errW_some] <;> rfl) | (simp [*, errW_none, errW_some] <;> rfl), by repeat (first | (with_reducible first | exact HB.out | apply below_alloc | apply pw_below_drewN | apply below_drew1) | exact HB.out)⟩
              · replace c22 := Bool.eq_false_iff.mpr c22
                subst c22
                have H1 : (some false) = some r := by rw [if_neg (show ¬ (false = true) by decide)] at H; exact H
                clear H
                have H := H1
                clear H1
                obtain rfl := Option.some.inj H
                go_enter Tryd.func9, Tryd.ntmps9
                go_wp2_with (first | ((with_reducible refine gate_callee (f := 10) rfl ?_); refine goesL_ (some 1) rfl rfl Tryd.func10 (by kernel_rfl) rfl #[.string (⟨#[97, 42, 63, 99]⟩ : ByteArray), .string (⟨#[97, 98, 98, 99]⟩ : ByteArray)] rfl (by (try simp only [List.map_toArray, List.map_cons, List.map_nil]); first | done | rfl | (simp only [List.length_drop, List.length_take]; rfl)) ?_; (with_reducible refine (text_Match.calls k (⟨#[97, 42, 63, 99]⟩ : ByteArray) (⟨#[97, 98, 98, 99]⟩ : ByteArray) true _ A1.out).mono ?_); rintro e w31 ⟨rfl, hb⟩; refine ⟨_, rfl, ?_⟩; have n0_ := Aside0.mk (below_step (by repeat (first | (with_reducible first | exact HB.out | apply below_alloc | apply pw_below_drewN | apply below_drew1) | exact HB.out)) hb); clear HB; have HB := n0_; clear n0_; (try clear hb); (try clear hb2); (try clear hk); (try clear hi)) | (go_at_call 10; (with_reducible refine (text_Match.calls k (⟨#[92, 42]⟩ : ByteArray) (⟨#[42]⟩ : ByteArray) true _ A3.out).mono ?_); rintro e w32 ⟨rfl, hb⟩; have n0_ := Aside0.mk (below_step (by repeat (first | (with_reducible first | exact HB.out | apply below_alloc | apply pw_below_drewN | apply below_drew1) | exact HB.out)) hb); clear HB; have HB := n0_; clear n0_; (try clear hb); (try clear hb2); (try clear hk); (try clear hi)) | (go_at_call 10; (with_reducible refine (text_Match.calls k (⟨#[92, 42]⟩ : ByteArray) (⟨#[120]⟩ : ByteArray) false _ A5.out).mono ?_); rintro e w33 ⟨rfl, hb⟩; have n0_ := Aside0.mk (below_step (by repeat (first | (with_reducible first | exact HB.out | apply below_alloc | apply pw_below_drewN | apply below_drew1) | exact HB.out)) hb); clear HB; have HB := n0_; clear n0_; (try clear hb); (try clear hb2); (try clear hk); (try clear hi)) | (go_at_call 19; (with_reducible refine (text_Len.calls (⟨#[195, 169, 255]⟩ : ByteArray) t115 _ A10.out).mono ?_); rintro e w34 ⟨rfl, hb⟩; have n0_ := Aside0.mk (below_step (by repeat (first | (with_reducible first | exact HB.out | apply below_alloc | apply pw_below_drewN | apply below_drew1) | exact HB.out)) hb); clear HB; have HB := n0_; clear n0_; (try clear hb); (try clear hb2); (try clear hk); (try clear hi)) | (go_at_call 23; (with_reducible refine (text_Right.calls (⟨#[97, 10]⟩ : ByteArray) false _ A12.out (by first | (with_reducible exact HTab_.out) | (with_reducible exact tabs_below HTab_.out HB.out) | exact tabs_below HTab_.out (by repeat (first | (with_reducible first | exact HB.out | apply below_alloc | apply pw_below_drewN | apply below_drew1) | exact HB.out)))).mono ?_); rintro e w35 ⟨rfl, hb⟩; have n0_ := Aside0.mk (below_step (by repeat (first | (with_reducible first | exact HB.out | apply below_alloc | apply pw_below_drewN | apply below_drew1) | exact HB.out)) hb); clear HB; have HB := n0_; clear n0_; (try clear hb); (try clear hb2); (try clear hk); (try clear hi)) | (go_at_call 12; (with_reducible refine (text_Letter.calls k 122 true _ A19.out).mono ?_); rintro e w' ⟨rfl, ⟨nd, rfl⟩⟩) | (go_at_call 14; (with_reducible refine (text_Blank.calls 32 false _ A21.out).mono ?_); rintro e w' ⟨rfl, ⟨nd, rfl⟩⟩))
                go_ret
                exact ⟨by first | rfl | (simp [errW_none, errW_some] <;> rfl) | (simp [*, errW_none, errW_some] <;> rfl), by repeat (first | (with_reducible first | exact HB.out | apply below_alloc | apply pw_below_drewN | apply below_drew1) | exact HB.out)⟩
            · replace c20 := Bool.eq_false_iff.mpr c20
              subst c20
              have H1 : (some false) = some r := by rw [if_neg (show ¬ (false = true) by decide)] at H; exact H
              clear H
              have H := H1
              clear H1
              obtain rfl := Option.some.inj H
              go_enter Tryd.func9, Tryd.ntmps9
              go_wp2_with (first | ((with_reducible refine gate_callee (f := 10) rfl ?_); refine goesL_ (some 1) rfl rfl Tryd.func10 (by kernel_rfl) rfl #[.string (⟨#[97, 42, 63, 99]⟩ : ByteArray), .string (⟨#[97, 98, 98, 99]⟩ : ByteArray)] rfl (by (try simp only [List.map_toArray, List.map_cons, List.map_nil]); first | done | rfl | (simp only [List.length_drop, List.length_take]; rfl)) ?_; (with_reducible refine (text_Match.calls k (⟨#[97, 42, 63, 99]⟩ : ByteArray) (⟨#[97, 98, 98, 99]⟩ : ByteArray) true _ A1.out).mono ?_); rintro e w36 ⟨rfl, hb⟩; refine ⟨_, rfl, ?_⟩; have n0_ := Aside0.mk (below_step (by repeat (first | (with_reducible first | exact HB.out | apply below_alloc | apply pw_below_drewN | apply below_drew1) | exact HB.out)) hb); clear HB; have HB := n0_; clear n0_; (try clear hb); (try clear hb2); (try clear hk); (try clear hi)) | (go_at_call 10; (with_reducible refine (text_Match.calls k (⟨#[92, 42]⟩ : ByteArray) (⟨#[42]⟩ : ByteArray) true _ A3.out).mono ?_); rintro e w37 ⟨rfl, hb⟩; have n0_ := Aside0.mk (below_step (by repeat (first | (with_reducible first | exact HB.out | apply below_alloc | apply pw_below_drewN | apply below_drew1) | exact HB.out)) hb); clear HB; have HB := n0_; clear n0_; (try clear hb); (try clear hb2); (try clear hk); (try clear hi)) | (go_at_call 10; (with_reducible refine (text_Match.calls k (⟨#[92, 42]⟩ : ByteArray) (⟨#[120]⟩ : ByteArray) false _ A5.out).mono ?_); rintro e w38 ⟨rfl, hb⟩; have n0_ := Aside0.mk (below_step (by repeat (first | (with_reducible first | exact HB.out | apply below_alloc | apply pw_below_drewN | apply below_drew1) | exact HB.out)) hb); clear HB; have HB := n0_; clear n0_; (try clear hb); (try clear hb2); (try clear hk); (try clear hi)) | (go_at_call 19; (with_reducible refine (text_Len.calls (⟨#[195, 169, 255]⟩ : ByteArray) t115 _ A10.out).mono ?_); rintro e w39 ⟨rfl, hb⟩; have n0_ := Aside0.mk (below_step (by repeat (first | (with_reducible first | exact HB.out | apply below_alloc | apply pw_below_drewN | apply below_drew1) | exact HB.out)) hb); clear HB; have HB := n0_; clear n0_; (try clear hb); (try clear hb2); (try clear hk); (try clear hi)) | (go_at_call 23; (with_reducible refine (text_Right.calls (⟨#[97, 10]⟩ : ByteArray) false _ A12.out (by first | (with_reducible exact HTab_.out) | (with_reducible exact tabs_below HTab_.out HB.out) | exact tabs_below HTab_.out (by repeat (first | (with_reducible first | exact HB.out | apply below_alloc | apply pw_below_drewN | apply below_drew1) | exact HB.out)))).mono ?_); rintro e w40 ⟨rfl, hb⟩; have n0_ := Aside0.mk (below_step (by repeat (first | (with_reducible first | exact HB.out | apply below_alloc | apply pw_below_drewN | apply below_drew1) | exact HB.out)) hb); clear HB; have HB := n0_; clear n0_; (try clear hb); (try clear hb2); (try clear hk); (try clear hi)) | (go_at_call 12; (with_reducible refine (text_Letter.calls k 122 false _ A19.out).mono ?_); rintro e w' ⟨rfl, ⟨nd, rfl⟩⟩))
              go_ret
              exact ⟨by first | rfl | (simp [errW_none, errW_some] <;> rfl) | (simp [*, errW_none, errW_some] <;> rfl), by repeat (first | (with_reducible first | exact HB.out | apply below_alloc | apply pw_below_drewN | apply below_drew1) | exact HB.out)⟩
        · rw [if_neg c11] at H
          have c11b0 : (t115 == 2) = false := beq_eq_false_iff_ne.mpr c11
          have c11b1 : (t115 != 2) = true := bne_iff_ne.mpr c11
          obtain rfl := Option.some.inj H
          go_enter Tryd.func9, Tryd.ntmps9
          go_wp2_with (first | ((with_reducible refine gate_callee (f := 10) rfl ?_); refine goesL_ (some 1) rfl rfl Tryd.func10 (by kernel_rfl) rfl #[.string (⟨#[97, 42, 63, 99]⟩ : ByteArray), .string (⟨#[97, 98, 98, 99]⟩ : ByteArray)] rfl (by (try simp only [List.map_toArray, List.map_cons, List.map_nil]); first | done | rfl | (simp only [List.length_drop, List.length_take]; rfl)) ?_; (with_reducible refine (text_Match.calls k (⟨#[97, 42, 63, 99]⟩ : ByteArray) (⟨#[97, 98, 98, 99]⟩ : ByteArray) true _ A1.out).mono ?_); rintro e w41 ⟨rfl, hb⟩; refine ⟨_, rfl, ?_⟩; have n0_ := Aside0.mk (below_step (by repeat (first | (with_reducible first | exact HB.out | apply below_alloc | apply pw_below_drewN | apply below_drew1) | exact HB.out)) hb); clear HB; have HB := n0_; clear n0_; (try clear hb); (try clear hb2); (try clear hk); (try clear hi)) | (go_at_call 10; (with_reducible refine (text_Match.calls k (⟨#[92, 42]⟩ : ByteArray) (⟨#[42]⟩ : ByteArray) true _ A3.out).mono ?_); rintro e w42 ⟨rfl, hb⟩; have n0_ := Aside0.mk (below_step (by repeat (first | (with_reducible first | exact HB.out | apply below_alloc | apply pw_below_drewN | apply below_drew1) | exact HB.out)) hb); clear HB; have HB := n0_; clear n0_; (try clear hb); (try clear hb2); (try clear hk); (try clear hi)) | (go_at_call 10; (with_reducible refine (text_Match.calls k (⟨#[92, 42]⟩ : ByteArray) (⟨#[120]⟩ : ByteArray) false _ A5.out).mono ?_); rintro e w43 ⟨rfl, hb⟩; have n0_ := Aside0.mk (below_step (by repeat (first | (with_reducible first | exact HB.out | apply below_alloc | apply pw_below_drewN | apply below_drew1) | exact HB.out)) hb); clear HB; have HB := n0_; clear n0_; (try clear hb); (try clear hb2); (try clear hk); (try clear hi)) | (go_at_call 19; (with_reducible refine (text_Len.calls (⟨#[195, 169, 255]⟩ : ByteArray) t115 _ A10.out).mono ?_); rintro e w44 ⟨rfl, hb⟩; have n0_ := Aside0.mk (below_step (by repeat (first | (with_reducible first | exact HB.out | apply below_alloc | apply pw_below_drewN | apply below_drew1) | exact HB.out)) hb); clear HB; have HB := n0_; clear n0_; (try clear hb); (try clear hb2); (try clear hk); (try clear hi)))
          go_ret
          exact ⟨by first | rfl | (simp [errW_none, errW_some] <;> rfl) | (simp [*, errW_none, errW_some] <;> rfl), by repeat (first | (with_reducible first | exact HB.out | apply below_alloc | apply pw_below_drewN | apply below_drew1) | exact HB.out)⟩
    · replace c4 := Bool.eq_false_iff.mpr c4
      subst c4
      have H1 : (some false) = some r := by rw [if_neg (show ¬ (false = true) by decide)] at H; exact H
      clear H
      have H := H1
      clear H1
      obtain rfl := Option.some.inj H
      go_enter Tryd.func9, Tryd.ntmps9
      go_wp2_with (first | ((with_reducible refine gate_callee (f := 10) rfl ?_); refine goesL_ (some 1) rfl rfl Tryd.func10 (by kernel_rfl) rfl #[.string (⟨#[97, 42, 63, 99]⟩ : ByteArray), .string (⟨#[97, 98, 98, 99]⟩ : ByteArray)] rfl (by (try simp only [List.map_toArray, List.map_cons, List.map_nil]); first | done | rfl | (simp only [List.length_drop, List.length_take]; rfl)) ?_; (with_reducible refine (text_Match.calls k (⟨#[97, 42, 63, 99]⟩ : ByteArray) (⟨#[97, 98, 98, 99]⟩ : ByteArray) true _ A1.out).mono ?_); rintro e w45 ⟨rfl, hb⟩; refine ⟨_, rfl, ?_⟩; have n0_ := Aside0.mk (below_step (by repeat (first | (with_reducible first | exact HB.out | apply below_alloc | apply pw_below_drewN | apply below_drew1) | exact HB.out)) hb); clear HB; have HB := n0_; clear n0_; (try clear hb); (try clear hb2); (try clear hk); (try clear hi)) | (go_at_call 10; (with_reducible refine (text_Match.calls k (⟨#[92, 42]⟩ : ByteArray) (⟨#[42]⟩ : ByteArray) false _ A3.out).mono ?_); rintro e w46 ⟨rfl, hb⟩; have n0_ := Aside0.mk (below_step (by repeat (first | (with_reducible first | exact HB.out | apply below_alloc | apply pw_below_drewN | apply below_drew1) | exact HB.out)) hb); clear HB; have HB := n0_; clear n0_; (try clear hb); (try clear hb2); (try clear hk); (try clear hi)))
      go_ret
      exact ⟨by first | rfl | (simp [errW_none, errW_some] <;> rfl) | (simp [*, errW_none, errW_some] <;> rfl), by repeat (first | (with_reducible first | exact HB.out | apply below_alloc | apply pw_below_drewN | apply below_drew1) | exact HB.out)⟩
  · replace c2 := Bool.eq_false_iff.mpr c2
    subst c2
    have H1 : (some false) = some r := by rw [if_neg (show ¬ (false = true) by decide)] at H; exact H
    clear H
    have H := H1
    clear H1
    obtain rfl := Option.some.inj H
    go_enter Tryd.func9, Tryd.ntmps9
    go_wp2_with (first | ((with_reducible refine gate_callee (f := 10) rfl ?_); refine goesL_ (some 1) rfl rfl Tryd.func10 (by kernel_rfl) rfl #[.string (⟨#[97, 42, 63, 99]⟩ : ByteArray), .string (⟨#[97, 98, 98, 99]⟩ : ByteArray)] rfl (by (try simp only [List.map_toArray, List.map_cons, List.map_nil]); first | done | rfl | (simp only [List.length_drop, List.length_take]; rfl)) ?_; (with_reducible refine (text_Match.calls k (⟨#[97, 42, 63, 99]⟩ : ByteArray) (⟨#[97, 98, 98, 99]⟩ : ByteArray) false _ A1.out).mono ?_); rintro e w47 ⟨rfl, hb⟩; refine ⟨_, rfl, ?_⟩; have n0_ := Aside0.mk (below_step (by repeat (first | (with_reducible first | exact HB.out | apply below_alloc | apply pw_below_drewN | apply below_drew1) | exact HB.out)) hb); clear HB; have HB := n0_; clear n0_; (try clear hb); (try clear hb2); (try clear hk); (try clear hi)))
    go_ret
    exact ⟨by first | rfl | (simp [errW_none, errW_some] <;> rfl) | (simp [*, errW_none, errW_some] <;> rfl), by repeat (first | (with_reducible first | exact HB.out | apply below_alloc | apply pw_below_drewN | apply below_drew1) | exact HB.out)⟩

end Go.Proofs.YtphimckceegiiaaDoor.PTxt
